/- Parts of one proof, joined by a program. -/
import Derived.Test.YtnlfnomchebmcaaGreatDoorKA06
import Derived.RangeFuncSeq
import Derived.RangeFuncGives
import Derived.Maps.AppendAt
import Derived.Shelf.Abstract
import Derived.Shelf.AbstractIn
import Derived.Sort.MapsRangeIn
import Derived.WalkKit
import Derived.OwnWalkIn
import Derived.TacticsInMore
import Derived.RegionIn
import Derived.LoopNIn
import Derived.LoopIn
import Derived.Shelf.SlIter.Collect
import Derived.Shelf.SlSortCmp.WholeK
import Derived.Ground.SlsfProg
import Derived.Test.YtnlfnomchebmcaaGreatDoorProg
import Derived.Shelf.SlSortCmp.NoneTotal
set_option linter.unusedVariables false
set_option linter.unusedSimpArgs false
set_option linter.unusedSectionVars false
set_option maxHeartbeats 16000000
namespace Go.Proofs.YtnlfnomchebmcaaGreatDoor
section
open Go.RowKit Go.MapKept
abbrev Zc (b:Bool)(a:Option Addr)(n c:Nat)(b':Bool)(a':Option Addr)(n' c' g1 g2:Nat):List Value:=[.bool b,.slice a n c,.bool b',.slice a' n' c',.map (some g1),.map (some g2)]
def Ip (b:Bool)(a:Option Addr)(n c:Nat)(b':Bool)(a':Option Addr)(n' c' g1 g2:Nat):Obj:=.cells (Zc b a n c b' a' n' c' g1 g2).toArray 93 (0,0)
theorem Ame {m:PH}{x:Nat}{b:Bool}{a:Option Addr}{n c:Nat}{b':Bool}{a':Option Addr}{n' c' g1 g2:Nat}(h:m x=some (Ip b a n c b' a' n' c' g1 g2)):ElP m x (0+0) (.agg #[.bool b,.slice a n c,.bool b',.slice a' n' c']):=fun i y hy=>by
 match i,hy with
 | 0,hy=>exact ⟨_,_,_,h,by simpa [Value.cells] using hy⟩
 | 1,hy=>exact ⟨_,_,_,h,by simpa [Value.cells] using hy⟩
 | 2,hy=>exact ⟨_,_,_,h,by simpa [Value.cells] using hy⟩
 | 3,hy=>exact ⟨_,_,_,h,by simpa [Value.cells] using hy⟩
 | k+4,hy=>simp [Value.cells] at hy
theorem Al9 {m:PH}{x:Nat}{b:Bool}{a:Option Addr}{n c:Nat}{b':Bool}{a':Option Addr}{n' c' g1 g2:Nat}(h:m x=some (Ip b a n c b' a' n' c' g1 g2)):ElP m x (0+4) (.map (some g1)):=fun i y hy=>by
 match i,hy with
 | 0,hy=>exact ⟨_,_,_,h,by simpa [Value.cells] using hy⟩
 | k+1,hy=>simp [Value.cells] at hy
theorem Aao {m:PH}{x:Nat}{b:Bool}{a:Option Addr}{n c:Nat}{b':Bool}{a':Option Addr}{n' c' g1 g2:Nat}(h:m x=some (Ip b a n c b' a' n' c' g1 g2)):ElP m x (0+5) (.map (some g2)):=fun i y hy=>by
 match i,hy with
 | 0,hy=>exact ⟨_,_,_,h,by simpa [Value.cells] using hy⟩
 | k+1,hy=>simp [Value.cells] at hy
theorem Se {m:PH}{x:Nat}{b:Bool}{a:Option Addr}{n c:Nat}{b':Bool}{a':Option Addr}{n' c' g1 g2:Nat}(h:m x=some (Ip b a n c b' a' n' c' g1 g2)):ElP m x 0 (.agg #[.bool b,.slice a n c,.bool b',.slice a' n' c',.map (some g1),.map (some g2)]):=fun i y hy=>by
 match i,hy with
 | 0,hy=>exact ⟨_,_,_,h,by simpa [Value.cells] using hy⟩
 | 1,hy=>exact ⟨_,_,_,h,by simpa [Value.cells] using hy⟩
 | 2,hy=>exact ⟨_,_,_,h,by simpa [Value.cells] using hy⟩
 | 3,hy=>exact ⟨_,_,_,h,by simpa [Value.cells] using hy⟩
 | 4,hy=>exact ⟨_,_,_,h,by simpa [Value.cells] using hy⟩
 | 5,hy=>exact ⟨_,_,_,h,by simpa [Value.cells] using hy⟩
 | k+6,hy=>simp [Value.cells] at hy
theorem Add {b:Bool}{a:Option Addr}{n c:Nat}{b':Bool}{a':Option Addr}{n' c' g1 g2:Nat}:∀ x∈Zc b a n c b' a' n' c' g1 g2,Bf x=true:=fun x hx=>by
 simp at hx; rcases hx with rfl | rfl | rfl | rfl | rfl | rfl <;> rfl
def M3 (bx g1 g2:Nat)(x o1 o2:Obj):PH:=((PH.mt.upd g1 o1).upd g2 o2).upd bx x
theorem Ank {bx g1 g2:Nat}{x o1 o2:Obj}{m:PH}(h0:m bx=some x)(h1:m g1=some o1)(h2:m g2=some o2):PH.le (M3 bx g1 g2 x o1 o2) m:=fun g o hg=>by
 unfold M3 at hg;by_cases e:g=bx
 ·subst e; rw [Ab] at hg; cases hg; exact h0
 ·rw [Ac _ _ e] at hg;by_cases e:g=g2
  ·subst e; rw [Ab] at hg; cases hg; exact h2
  ·rw [Ac _ _ e] at hg;by_cases e:g=g1
   ·subst e; rw [Ab] at hg; cases hg; exact h1
   ·rw [Ac _ _ e] at hg; cases hg
def Xk (bx:Nat)(m u:PH)(F:CF)(N:Nat):Prop :=
 ∃ b a n c b' a' n' c' g1 g2 o1 o2,bx≠g1∧bx≠g2∧g1≠g2∧m=M3 bx g1 g2 (Ip b a n c b' a' n' c' g1 g2) o1 o2∧Ap u (.agg #[.bool b,.slice a n c,.bool b',.slice a' n' c']) F.c∧Cf Ak Ap true u o1 F.s N 12∧Cf prV Ap true u o2 F.t N 12
theorem Xk.grow {bx:Nat}{m u u':PH}{F:CF}{N:Nat}(h:Xk bx m u F N)(hl:PH.le u u'):Xk bx m u' F N:=by
 obtain ⟨b,a,n,c,b',a',n',c',g1,g2,o1,o2,e1,e2,e3,e4,h1,h2,h3⟩:=h;exact ⟨b,a,n,c,b',a',n',c',g1,g2,o1,o2,e1,e2,e3,e4,h1.mono hl,h2.mf hl,h3.mf hl⟩
section
variable {κ:Type} [DecidableEq κ]
def Cd (f g:κ→Rat)(q:Rat)(L:List κ):κ→Rat:=fun k=>if k∈L then g k*q+f k else f k
theorem Fb (f g:κ→Rat)(q:Rat){L:List κ}{k:κ}(h:k∉L):Dv (Cd f g q L) k (g k*q+Cd f g q L k)=Cd f g q (L++[k]):=by
 funext j
 unfold Dv Cd;by_cases e:j=k
 ·subst e; rw [if_pos rfl,if_neg h,if_pos (by simp)]
 ·rw [if_neg e];by_cases hj:j∈L
  ·rw [if_pos hj,if_pos (by simp [hj])]
  ·rw [if_neg hj,if_neg (by simp [hj,e])]
theorem G0 (f g:κ→Rat)(q:Rat){L:List κ}(h:∀ k,k∉L→g k=0):Cd f g q L=fun k=>f k+g k*q:=by
 funext k
 unfold Cd;by_cases hk:k∈L
 ·rw [if_pos hk]; grind
 ·rw [if_neg hk,h k hk]; grind
theorem Ic {f g:κ→Rat}{q:Rat}{L:List κ}(h1:∀ k,SB (f k))(h2:∀ k,SB (f k+g k*q))(k:κ):SB (Cd f g q L k):=by
 unfold Cd;split
 ·rw [Rat.add_comm]; exact h2 k
 ·exact h1 k
end
theorem Rc {u m:PH}{bx:Nat}{F H:CF}{N M:Nat}{w kv:Value}{q:Rat}(hm:Xk bx m u F N)(hw:Df u w H M)(hk:Ap u kv q)(hq:SB q)(sF:CFS F)(sH:CFS H)(sK:CFS (H.scale q))(sR:CFS (F.add (H.scale q))) :
  Ae Tryz.prog 180 [.pointer (some ⟨bx,0,none⟩),w,kv] u m fun v u' m'=>Xk bx m' u' (F.add (H.scale q)) (N+M):=by
 obtain ⟨b,a,n,c,b',a',n',c',g1,g2,o1,o2,ne1,ne2,ne3,rfl,hF,h1,h2⟩:=hm;obtain ⟨wb,wa,wn,wc,wb',wa',wn',wc',w1,w2,p1,p2,rfl,hH,e1,e2,k1,k2⟩:=hw;obtain ⟨kb,ka,kn,kc,kb',ka',kn',kc',rfl⟩:=hk.opn;obtain ⟨l1,⟨es1,clk1,rfl,hkv1,hst1⟩,hl1,hz1,hn1⟩:=k1.at;obtain ⟨l2,⟨es2,clk2,rfl,hkv2,hst2⟩,hl2,hz2,hn2⟩:=k2.at;have hnd1:(l1.map (·.1)).Nodup:=Ce.nodup (enc:=Ak) ⟨es1,clk1,rfl,hkv1,hst1⟩;have hnd2:(l2.map (·.1)).Nodup:=Ce.nodup (enc:=prV) ⟨es2,clk2,rfl,hkv2,hst2⟩;refine Ae.o Tryz.func180 ?_;refine G.f 93 bx 0 0 0 ?_;refine G.lM (some 4) bx (0+0) (.agg #[.bool b,.slice a n c,.bool b',.slice a' n' c']) (Ame (Ab _ _ _)) ?_;refine G.c Tryz.call70 (Dm hH hk (SB.big sH.c) hq.big) ?_;intro v1 u1 le1 r1;obtain ⟨b1,a1,x1,c1,b1',a1',x1',c1',rfl⟩:=r1.opn;refine G.c Tryz.call69 (Ef (hF.mono le1) r1 (SB.big sF.c) (SB.big sK.c)) ?_;intro v2 u2 le2 r2;obtain ⟨b2,a2,x2,c2,b2',a2',x2',c2',rfl⟩:=r2.opn;refine G.f 93 bx 0 0 0 ?_;refine G.storeM 4 bx (0+0) 93 (Zc b a n c b' a' n' c' g1 g2) (.agg #[.bool b2,.slice a2 x2 c2,.bool b2',.slice a2' x2' c2']) (by kernel_rfl) (Ab _ _ _) Add (by simp) rfl rfl ?_;obtain ⟨m2,hm2,hb2,hg2,hh2⟩:∃ m2:PH,m2=(M3 bx g1 g2 (Ip b a n c b' a' n' c' g1 g2) o1 o2).upd bx (Ip b2 a2 x2 c2 b2' a2' x2' c2' g1 g2)∧m2 bx=some (Ip b2 a2 x2 c2 b2' a2' x2' c2' g1 g2)∧m2 g1=some o1∧m2 g2=some o2 :=
  ⟨_,rfl,Ab _ _ _,by rw [Ac _ _ (Ne.symm ne1)]; unfold M3; rw [Ac _ _ (Ne.symm ne1),Ac _ _ ne3,Ab],by rw [Ac _ _ (Ne.symm ne2)]; unfold M3; rw [Ac _ _ (Ne.symm ne2),Ab]⟩
 show G _ _ _ _ _ ((M3 bx g1 g2 (Ip b a n c b' a' n' c' g1 g2) o1 o2).upd bx (Ip b2 a2 x2 c2 b2' a2' x2' c2' g1 g2));rw [← hm2];have le12:=le1.trans le2;refine G.mapRange w1 es1 clk1 44 89 (by kernel_rfl) (.inl (le12 _ _ e1)) ?_;intro it him hiu;have ib:bx≠it:=fun e=>by subst e; rw [him] at hb2; cases hb2
 have i1:g1≠it:=fun e=>by subst e; rw [him] at hg2; cases hg2
 have i2:g2≠it:=fun e=>by subst e; rw [him] at hh2; cases hh2
 refine G.l (ι:=List MapEntry×List (Par×Value)) (fun _=>[(0,.v (.pointer (some ⟨bx,0,none⟩))),(4,.p 0 0),(5,.p 1 0),(24,.v (.pointer (some ⟨it,0,none⟩)))])
  (fun _=>[(0,⟨93,[.v (.bool wb),.v (.slice wa wn wc),.v (.bool wb'),.v (.slice wa' wn' wc'),.v (.map (some w1)),.v (.map (some w2))]⟩),(1,⟨89,[.v (.bool kb),.v (.slice ka kn kc),.v (.bool kb'),.v (.slice ka' kn' kc')]⟩)])
  (fun i u' m'=>C3 Ak es1 l1 i.1 i.2∧m' it=some (.mapIter (some w1) clk1 (An i.1) clk1)∧m' bx=some (Ip b2 a2 x2 c2 b2' a2' x2' c2' g1 g2)∧m' g2=some o2∧∃ o1',m' g1=some o1'∧Cf Ak Ap true u' o1' (Cd F.s H.s q (i.2.map (·.1))) (N+i.2.length) 12)
  (fun i=>l1.length - i.2.length) ([],[])
  ⟨C3.nil _ _,Ab _ _ _,by rw [Ac _ _ ib]; exact hb2,by rw [Ac _ _ i2]; exact hh2,o1,by rw [Ac _ _ i1]; exact hg2,by
   have:Cd F.s H.s q (([]:List (Par×Value)).map (·.1))=F.s:=by funext k; simp [Cd]
   dsimp only; rw [this]; exact h1.mf le12⟩ ?_
 rintro J ⟨D,L⟩ hJ u3 m3 le3 ⟨hS,hit,hbx,hm2g,o1',hg1,hR⟩;simp only at hS hit hbx hm2g hg1 hR hJ;have le13:=le12.trans le3;refine G.mapNextL Ba.inj it w1 es1 clk1 l1 D L (by kernel_rfl) (by kernel_rfl) hit (.inl (le13 _ _ e1)) hst1 hkv1 hnd1 hS ?done1 ?next1
 case next1 =>
  rintro ⟨k,xv⟩ e hp hkn he hek hev hS';simp only at hkn hek hev;have hx:=(hl1 _ hp).1;simp only at hx;obtain ⟨yb,ya,yn,yc,yb',ya',yn',yc',rfl⟩:=hx.opn;refine G.mapEntry it w1 es1 clk1 D e (by kernel_rfl) (Ab _ _ _) (.inl (le13 _ _ e1)) hst1 he ?_;rw [hek,hev];refine G.f 93 bx 0 1 4 ?_;refine G.lM none bx (0+4) (.map (some g1)) (Al9 (by rw [Ac _ _ ib]; exact hbx)) ?_;refine G.c Tryz.call70 (Dm (hx.mono le13) (hk.mono le13) (SB.big (sH.s k)) hq.big) ?_;intro v4 u4 le4 r4;obtain ⟨b4,a4,x4,c4,b4',a4',x4',c4',rfl⟩:=r4.opn;refine G.callG _ _ (by kernel_rfl) (by kernel_rfl) Tryz.call221 (g:=g1) (o:=o1') (by rw [Ac _ _ i1]; exact hg1)
   (Agz (hR.mf le4) r4 (sK.s k) (Ic sF.s sR.s k) (by
    have:Cd F.s H.s q (L.map (·.1)) k=F.s k:=by unfold Cd; rw [if_neg hkn]
    rw [this,Rat.add_comm]; exact sR.s k)) ?_
  intro v5 u5 o5 le5 r5;rw [Fb _ _ _ hkn] at r5;refine G.b (hJ (D++[e],L++[(k,_)]) _ _ _ cv ((le3.trans le4).trans le5)
   ⟨hS',by rw [Ac _ _ (Ne.symm i1),Ab],by rw [Ac _ _ ne1,Ac _ _ ib]; exact hbx,by rw [Ac _ _ (Ne.symm ne3),Ac _ _ i2]; exact hm2g,o5,Ab _ _ _,by
    simpa [Nat.add_assoc] using r5⟩ (by have:=hS'.len; simp at this; dsimp only; simp; omega))
 case done1 =>
 intro hall;have hF1:Cd F.s H.s q (L.map (·.1))=(F.add (H.scale q)).s:=G0 _ _ _ fun k hk=>hz1 k fun hm=>hk (by
  obtain ⟨p,hp,rfl⟩:=List.mem_map.1 hm;exact List.mem_map.2 ⟨p,hall p hp,rfl⟩)
 rw [hF1] at hR;have hLl:=hS.len;refine G.mapRange w2 es2 clk2 188 89 (by kernel_rfl) (.inl (le13 _ _ e2)) ?_;intro it2 him2 hiu2;have jb:bx≠it2:=fun e=>by subst e; rw [him2] at hbx; cases hbx
 have j1:g1≠it2:=fun e=>by subst e; rw [him2] at hg1; cases hg1
 have j2:g2≠it2:=fun e=>by subst e; rw [him2] at hm2g; cases hm2g
 refine G.l (ι:=List MapEntry×List ((Par×Par)×Value)) (fun _=>[(0,.v (.pointer (some ⟨bx,0,none⟩))),(5,.p 1 0),(41,.v (.pointer (some ⟨it2,0,none⟩)))])
  (fun _=>[(1,⟨89,[.v (.bool kb),.v (.slice ka kn kc),.v (.bool kb'),.v (.slice ka' kn' kc')]⟩)])
  (fun i u' m'=>C3 prV es2 l2 i.1 i.2∧m' it2=some (.mapIter (some w2) clk2 (An i.1) clk2)∧m' bx=some (Ip b2 a2 x2 c2 b2' a2' x2' c2' g1 g2)∧m' g1=some o1'∧∃ o2',m' g2=some o2'∧Cf prV Ap true u' o2' (Cd F.t H.t q (i.2.map (·.1))) (N+i.2.length) 12)
  (fun i=>l2.length - i.2.length) ([],[])
  ⟨C3.nil _ _,Ab _ _ _,by rw [Ac _ _ jb]; exact hbx,by rw [Ac _ _ j1]; exact hg1,o2,by rw [Ac _ _ j2]; exact hm2g,by
   have:Cd F.t H.t q (([]:List ((Par×Par)×Value)).map (·.1))=F.t:=by funext k; simp [Cd]
   dsimp only; rw [this]; exact h2.mf le13⟩ ?_
 rintro J2 ⟨D2,L2⟩ hJ2 u6 m6 le6 ⟨hS2,hit2,hbx2,hm1g,o2',hg22,hR2⟩;simp only at hS2 hit2 hbx2 hm1g hg22 hR2 hJ2;have le16:=le13.trans le6;refine G.mapNextL Io.inj it2 w2 es2 clk2 l2 D2 L2 (by kernel_rfl) (by kernel_rfl) hit2 (.inl (le16 _ _ e2)) hst2 hkv2 hnd2 hS2 ?done2 ?next2
 case next2 =>
  rintro ⟨k,xv⟩ e hp hkn he hek hev hS';simp only at hkn hek hev;have hx:=(hl2 _ hp).1;simp only at hx;obtain ⟨yb,ya,yn,yc,yb',ya',yn',yc',rfl⟩:=hx.opn;refine G.mapEntry it2 w2 es2 clk2 D2 e (by kernel_rfl) (Ab _ _ _) (.inl (le16 _ _ e2)) hst2 he ?_;rw [hek,hev];refine G.f 93 bx 0 2 5 ?_;refine G.lM none bx (0+5) (.map (some g2)) (Aao (by rw [Ac _ _ jb]; exact hbx2)) ?_;refine G.c Tryz.call70 (Dm (hx.mono le16) (hk.mono le16) (SB.big (sH.t k)) hq.big) ?_;intro v4 u4 le4 r4;obtain ⟨b4,a4,x4,c4,b4',a4',x4',c4',rfl⟩:=r4.opn;refine G.callG _ _ (by kernel_rfl) (by kernel_rfl) Tryz.call193 (g:=g2) (o:=o2') (by rw [Ac _ _ j2]; exact hg22)
   (V8 (hR2.mf le4) r4 (sK.t k) (Ic sF.t sR.t k) (by
    have:Cd F.t H.t q (L2.map (·.1)) k=F.t k:=by unfold Cd; rw [if_neg hkn]
    rw [this,Rat.add_comm]; exact sR.t k)) ?_
  intro v5 u5 o5 le5 r5;rw [Fb _ _ _ hkn] at r5;refine G.b (hJ2 (D2++[e],L2++[(k,_)]) _ _ _ cv ((le6.trans le4).trans le5)
   ⟨hS',by rw [Ac _ _ (Ne.symm j2),Ab],by rw [Ac _ _ ne2,Ac _ _ jb]; exact hbx2,by rw [Ac _ _ ne3,Ac _ _ j1]; exact hm1g,o5,Ab _ _ _,by
    simpa [Nat.add_assoc] using r5⟩ (by have:=hS'.len; simp at this; dsimp only; simp; omega))
 case done2 =>
 intro hall2;have hF2:Cd F.t H.t q (L2.map (·.1))=(F.add (H.scale q)).t:=G0 _ _ _ fun k hk=>hz2 k fun hm=>hk (by
  obtain ⟨p,hp,rfl⟩:=List.mem_map.1 hm;exact List.mem_map.2 ⟨p,hall2 p hp,rfl⟩)
 rw [hF2] at hR2;have hLl2:=hS2.len;refine G.drop (M3 bx g1 g2 (Ip b2 a2 x2 c2 b2' a2' x2' c2' g1 g2) o1' o2') (by kernel_rfl) (Ank hbx2 hm1g hg22) ?_;exact G.r (.tuple #[]) ⟨b2,a2,x2,c2,b2',a2',x2',c2',g1,g2,o1',o2',ne1,ne2,ne3,rfl,r2.mono (le3.trans le6),(hR.mf le6).up (by omega) (Nat.le_refl _),hR2.up (by omega) (Nat.le_refl _)⟩
end
section
open Go.RowKit Go.MapKept
def All (t:TypeId):Op→Bool
 | .binOp _ t' ..=>Nat.beq t' t
 | _=>false
section rules
variable [Cb] {P:Program} [Bb P] {fn:Func} {Post:B4} {st:List KI×S} {u m:PH}
theorem Xr {op:BinOp}{t:TypeId}{xs ys:Array Value}(X Y:Operand)(hg:P.eqGuardType P.depth t=false)(w:World):(eqGuard op t X Y (.agg xs) (.agg ys)).run P w=.ok () w:=by
 unfold eqGuard; split <;> simp [hg]
theorem G.eqAgg (t:TypeId)(xs ys:Array Value)(r:Bool)(h:Al P (adv P st)=.binT .eql (P.underlying t) (.agg xs) (.agg ys))(hq:U6 (All t) (adv P st)=true)(hg:P.eqGuardType P.depth t=false)(he:∀ w,(Op.equal t (.agg xs) (.agg ys)).run P w=.ok r w)
  (k:G P fn Post (nx (adv P st) (.bool r)) u m):G P fn Post st u m:=by
 refine G.askQ (All t) h hq (by simp) (fun env o hview hQ w _=>?_) k;obtain ⟨t',X,Y,yt,e,e1,e2,e3⟩:=O0 hview;obtain ⟨dst,opp,type,pos,after,guard⟩:=o;simp only at e; subst e;obtain rfl:t'=t:=Nat.eq_of_beq_eq_true hQ;simp [execOp,e1,e2,Xr X Y hg,binOp,he]
end rules
theorem CF.zero_add (a:CF):(CF.zero).add a=a:=by rw [CF.add_comm,CF.add_zero]
theorem CFS.zero:CFS CF.zero:=⟨SB.zero,fun _=>SB.zero,fun _=>SB.zero⟩
theorem Wg {m' u:PH}{v:Value}{F:CF}{N:Nat}(h:Nn m' u v F N):∃ b a n c b' a' n' c' g1 g2,v=.agg #[.bool b,.slice a n c,.bool b',.slice a' n' c',.map (some g1),.map (some g2)] ∧
  ∀ bx,m' bx=none→Xk bx (m'.upd bx (.cells (Zc b a n c b' a' n' c' g1 g2).toArray 93 (0,0))) u F N:=by
 obtain ⟨b,a,n,c,b',a',n',c',g1,g2,o1,o2,e,h1,h2,rfl,h4,h5⟩:=h;refine ⟨b,a,n,c,b',a',n',c',g1,g2,e,fun bx hb=>⟨b,a,n,c,b',a',n',c',g1,g2,o1,o2,?_,?_,h2,rfl,h1,h4,h5⟩⟩
 ·rintro rfl; rw [Ac _ _ h2,Ab] at hb; cases hb
 ·rintro rfl; rw [Ab] at hb; cases hb
theorem Xk.opn {bx:Nat}{m u:PH}{F:CF}{N:Nat}(h:Xk bx m u F N):∃ b a n c b' a' n' c' g1 g2 o1 o2,m bx=some (Ip b a n c b' a' n' c' g1 g2)∧PH.le ((PH.mt.upd g1 o1).upd g2 o2) m∧Nn ((PH.mt.upd g1 o1).upd g2 o2) u (.agg #[.bool b,.slice a n c,.bool b',.slice a' n' c',.map (some g1),.map (some g2)]) F N:=by
 obtain ⟨b,a,n,c,b',a',n',c',g1,g2,o1,o2,e1,e2,e3,rfl,h1,h2,h3⟩:=h;refine ⟨b,a,n,c,b',a',n',c',g1,g2,o1,o2,Ab _ _ _,?_,b,a,n,c,b',a',n',c',g1,g2,o1,o2,rfl,h1,e3,rfl,h2,h3⟩;exact Jr _ (by rw [Ac _ _ e2,Ac _ _ e1]; rfl)
theorem Vu {u:PH}{F:CF}{N:Nat}{v kv:Value}{q:Rat}(hv:Df u v F N)(hk:Ap u kv q)(hq:SB q)(sF:CFS F)(sK:CFS (F.scale q)) :
  Ae Tryz.prog 118 [v,kv] u PH.mt fun v' u' m'=>Nn m' u' v' (F.scale q) N:=by
 obtain ⟨wb,wa,wn,wc,wb',wa',wn',wc',w1,w2,p1,p2,rfl,hH⟩:=id hv;obtain ⟨kb,ka,kn,kc,kb',ka',kn',kc',rfl⟩:=hk.opn;refine Ae.o Tryz.func118 ?_;refine G.callO _ _ (by kernel_rfl) Tryz.call116 (Wf (n:=0) (by omega) (by omega)) ?_;rintro v1 u1 m1 l1 r1 _;rw [Ci];obtain ⟨b,a,n,c,b',a',n',c',g1,g2,rfl,hB⟩:=Wg r1;refine G.pub 1001 93 (Zc b a n c b' a' n' c' g1 g2) (by kernel_rfl) (by kernel_rfl) ?_;intro bx hu hm;refine G.A Tryz.call180 (Rc (hB bx hm) (hv.mono l1) (hk.mono l1) hq CFS.zero sF sK (by show CFS (CF.zero.add _); rw [CF.zero_add]; exact sK)) ?_;rintro v2 u2 m2 l2 r2 _;rw [Ci];obtain ⟨b,a,n,c,b',a',n',c',g1,g2,o1,o2,hbx,hle,hM⟩:=r2.opn;refine G.lM (some 6) bx 0 (.agg #[.bool b,.slice a n c,.bool b',.slice a' n' c',.map (some g1),.map (some g2)]) (Se hbx) ?_;refine G.drop _ (by kernel_rfl) hle ?_;exact G.r (.agg #[.bool b,.slice a n c,.bool b',.slice a' n' c',.map (some g1),.map (some g2)]) (hM.congr (CF.zero_add _) (by omega))
theorem SB.one:SB 1:=by decide
theorem CF.scale_one (F:CF):F.scale 1=F:=CF.ext' (by simp only [CF.scale]; grind) (fun p=>by simp only [CF.scale]; grind) (fun q=>by simp only [CF.scale]; grind)
theorem Ans {u:PH}{F H:CF}{N M:Nat}{v w:Value}(hv:Df u v F N)(hw:Df u w H M)(sF:CFS F)(sH:CFS H)(sR:CFS (F.add H)) :
  Ae Tryz.prog 117 [v,w] u PH.mt fun v' u' m'=>Nn m' u' v' (F.add H) (N+M):=by
 obtain ⟨vb,va,vn,vc,vb',va',vn',vc',v1,v2,q1,q2,rfl,hvc⟩:=id hv;obtain ⟨wb,wa,wn,wc,wb',wa',wn',wc',w1,w2,p1,p2,rfl,hwc⟩:=id hw;refine Ae.o Tryz.func117 ?_;refine G.c Tryz.call64 (D8 (z:=1) (by omega) (by omega)) ?_;intro f1 u1 l1 r1;obtain ⟨kb,ka,kn,kc,kb',ka',kn',kc',rfl⟩:=r1.opn;refine G.callO _ _ (by kernel_rfl) Tryz.call118 (Vu (hv.mono l1) r1 SB.one sF (by show CFS (F.scale 1); rw [CF.scale_one]; exact sF)) ?_;rintro f2 u2 m2 l2 r2 _;rw [Ci];obtain ⟨b,a,n,c,b',a',n',c',g1,g2,rfl,hB⟩:=Wg (r2.congr (CF.scale_one F) (Nat.le_refl _));refine G.pub 1003 93 (Zc b a n c b' a' n' c' g1 g2) (by kernel_rfl) (by kernel_rfl) ?_;intro bx hu hm;refine G.c Tryz.call64 (D8 (z:=1) (by omega) (by omega)) ?_;intro f3 u3 l3 r3;obtain ⟨kb,ka,kn,kc,kb',ka',kn',kc',rfl⟩:=r3.opn;have hB2:=hB bx hm;refine G.A Tryz.call180 (Rc (hB2.grow l3) ((hw.mono (l1.trans l2)).mono l3) r3 SB.one sF sH (by show CFS (H.scale 1); rw [CF.scale_one]; exact sH) (by show CFS (F.add (H.scale 1)); rw [CF.scale_one]; exact sR)) ?_;rintro f4 u4 m4 l4 r4 _;rw [Ci];obtain ⟨b,a,n,c,b',a',n',c',g1,g2,o1,o2,hbx,hle,hM⟩:=r4.opn;refine G.lM (some 6) bx 0 (.agg #[.bool b,.slice a n c,.bool b',.slice a' n' c',.map (some g1),.map (some g2)]) (Se hbx) ?_;refine G.drop _ (by kernel_rfl) hle ?_;exact G.r (.agg #[.bool b,.slice a n c,.bool b',.slice a' n' c',.map (some g1),.map (some g2)]) (hM.congr (by show F.add (H.scale 1)=_; rw [CF.scale_one]) (by omega))
end
section
open Go.RowKit Go.MapKept
structure Aci (F H:CF):Prop where
 a:CFS F
 b:CFS H
 c:CFS (H.scale F.c)
 d:CFS (F.scale H.c)
 e:CFS ((H.scale F.c).add (F.scale H.c))
 f:SB (F.c*H.c)
 pr:∀ p q,SB (F.s p*H.s q)
 con:∀ x,SB (con F H x)
 acc:∀ Ps:List (Par×Par),Ps.Nodup→∀ k,SB (((H.scale F.c).add (F.scale H.c)).t k+B8 F H Ps k)
structure Am0 (F H:CF)(base:Par×Par→Rat):Prop where
 a:CFS F
 b:CFS H
 pr:∀ p q,SB (F.s p*H.s q)
 con:∀ x,SB (con F H x)
 acc:∀ Ps:List (Par×Par),Ps.Nodup→∀ k,SB (base k+B8 F H Ps k)
theorem Ale {d e N M:Nat}{F H:CF}(h:CFD d N F)(h':CFD e M H)(hd:d+e≤50)(hN:8*(N*M) < 10 ^ 100)(h1:0 < N)(h2:0 < M):Aci F H:=by
 have b1:N≤N*M:=Nat.le_mul_of_pos_right _ h2;have b2:M≤N*M:=Nat.le_mul_of_pos_left _ h1;have c1:CFD (d+e) (N*M) (H.scale F.c):=by have:=h'.scale h.c; rw [Nat.add_comm,Nat.mul_comm] at this; exact this
 have c2:CFD (d+e) (N*M) (F.scale H.c):=h.scale h'.c;exact ⟨h.cfs (by omega) (by omega),h'.cfs (by omega) (by omega),c1.cfs hd (by omega),c2.cfs hd (by omega),(c1.add c2).cfs hd (by omega),(h.c.mul h'.c).small hd (by omega),
  fun p q=>((h.s p).mul (h'.s q)).small hd (by omega),fun x=>(Ahy h h' x).small hd (by omega),fun Ps hn k=>(((c1.add c2).t k).add (Ahb h h' hn k)).small hd (by omega)⟩
theorem Anx {u:PH}{F H:CF}{N M:Nat}{v w:Value}(hv:Df u v F N)(hw:Df u w H M)(ok:Aci F H) :
  Ae Tryz.prog 131 [v,w] u PH.mt fun v' u' m'=>Nn m' u' v' (F.mul H) (M+N+N*M):=by
 obtain ⟨vb,va,vn,vc,vb',va',vn',vc',v1,v2,q1,q2,rfl,hvc,f1,f2,s1,s2⟩:=id hv;obtain ⟨wb,wa,wn,wc,wb',wa',wn',wc',w1,w2,p1,p2,rfl,hwc,e1,e2,t1,t2⟩:=id hw;obtain ⟨lv,⟨esv,clv,rfl,hkv,hsv⟩,hlv,hzv,hnv⟩:=s1.at;obtain ⟨lw,⟨esw,clw,rfl,hkw,hsw⟩,hlw,hzw,hnw⟩:=t1.at;have hndv:(lv.map (·.1)).Nodup:=Ce.nodup (enc:=Ak) ⟨esv,clv,rfl,hkv,hsv⟩;have hndw:(lw.map (·.1)).Nodup:=Ce.nodup (enc:=Ak) ⟨esw,clw,rfl,hkw,hsw⟩;refine Ae.o Tryz.func131 ?_;refine G.callO _ _ (by kernel_rfl) Tryz.call118 (Vu hw hvc ok.a.c ok.b ok.c) ?_;rintro f3 u3 m3 l3 r3 _;rw [Ci];obtain ⟨b,a,n,c,b',a',n',c',g1,g2,rfl,hB⟩:=Wg r3;refine G.pub 1004 93 (Zc b a n c b' a' n' c' g1 g2) (by kernel_rfl) (by kernel_rfl) ?_;intro bx hu hm;refine G.A Tryz.call180 (Rc (hB bx hm) (hv.mono l3) (hwc.mono l3) ok.b.c ok.c ok.a ok.d ok.e) ?_;rintro f4 u4 m4 l4 r4 _;rw [Ci];obtain ⟨b,a,n,c,b',a',n',c',g1,g2,o1,o2,ne1,ne2,ne3,rfl,hC,hS1,hT1⟩:=r4;have le4:=l3.trans l4;refine G.c Tryz.call70 (Dm (hvc.mono le4) (hwc.mono le4) (SB.big ok.a.c) (SB.big ok.b.c)) ?_;intro f5 u5 l5 r5;obtain ⟨b2,a2,x2,c2,b2',a2',x2',c2',rfl⟩:=r5.opn;refine G.f 93 bx 0 0 0 ?_;refine G.storeM 4 bx (0+0) 93 (Zc b a n c b' a' n' c' g1 g2) (.agg #[.bool b2,.slice a2 x2 c2,.bool b2',.slice a2' x2' c2']) (by kernel_rfl) (Ab _ _ _) Add (by simp) rfl rfl ?_;obtain ⟨m5,hm5,hb5,hg5,hh5⟩:∃ m5:PH,m5=(M3 bx g1 g2 (Ip b a n c b' a' n' c' g1 g2) o1 o2).upd bx (Ip b2 a2 x2 c2 b2' a2' x2' c2' g1 g2)∧m5 bx=some (Ip b2 a2 x2 c2 b2' a2' x2' c2' g1 g2)∧m5 g1=some o1∧m5 g2=some o2 :=
  ⟨_,rfl,Ab _ _ _,by rw [Ac _ _ (Ne.symm ne1)]; unfold M3; rw [Ac _ _ (Ne.symm ne1),Ac _ _ ne3,Ab],by rw [Ac _ _ (Ne.symm ne2)]; unfold M3; rw [Ac _ _ (Ne.symm ne2),Ab]⟩
 show G _ _ _ _ _ ((M3 bx g1 g2 (Ip b a n c b' a' n' c' g1 g2) o1 o2).upd bx (Ip b2 a2 x2 c2 b2' a2' x2' c2' g1 g2));rw [← hm5];have le5:=le4.trans l5;obtain ⟨base,hbase⟩:∃ base:Par×Par→Rat,base=((H.scale F.c).add (F.scale H.c)).t:=⟨_,rfl⟩;have hacc:=ok.acc;rw [← hbase] at hT1;refine G.mapRange v1 esv clv 44 89 (by kernel_rfl) (.inl (le5 _ _ f1)) ?_;intro it him hiu;have ib:bx≠it:=fun e=>by subst e; rw [him] at hb5; cases hb5
 have i1:g1≠it:=fun e=>by subst e; rw [him] at hg5; cases hg5
 have i2:g2≠it:=fun e=>by subst e; rw [him] at hh5; cases hh5
 refine G.l (ι:=List MapEntry×List (Par×Value)) (fun _=>[(2,.p 0 0),(3,.p 1 0),(4,.p 2 0),(5,.v (.pointer (some ⟨bx,0,none⟩))),(27,.v (.pointer (some ⟨it,0,none⟩)))])
  (fun _=>[(0,⟨93,[.v (.bool vb),.v (.slice va vn vc),.v (.bool vb'),.v (.slice va' vn' vc'),.v (.map (some v1)),.v (.map (some v2))]⟩),(1,⟨93,[.v (.bool wb),.v (.slice wa wn wc),.v (.bool wb'),.v (.slice wa' wn' wc'),.v (.map (some w1)),.v (.map (some w2))]⟩),(2,⟨93,[.v (.bool false),.v (.slice none 0 0),.v (.bool false),.v (.slice none 0 0),.v (.map none),.v (.map none)]⟩)])
  (fun i u' m'=>C3 Ak esv lv i.1 i.2∧m' it=some (.mapIter (some v1) clv (An i.1) clv)∧m' bx=some (Ip b2 a2 x2 c2 b2' a2' x2' c2' g1 g2)∧m' g1=some o1∧∃ Ps:List (Par×Par),Ps.Nodup∧(∀ x:Par×Par,x∈Ps↔x.1∈i.2.map (·.1)∧x.2∈lw.map (·.1))∧∃ o2',m' g2=some o2'∧Cf prV Ap true u' o2' (fun k=>base k+B8 F H Ps k) (M+N+i.2.length*lw.length) 12)
  (fun i=>lv.length - i.2.length) ([],[])
  ⟨C3.nil _ _,Ab _ _ _,by rw [Ac _ _ ib]; exact hb5,by rw [Ac _ _ i1]; exact hg5,[],by simp,by simp,o2,by rw [Ac _ _ i2]; exact hh5,((hT1.mf l5).congr fun k=>by simp only [B8]; grind).up (by simp) (Nat.le_refl _)⟩ ?_
 rintro J ⟨D,L⟩ hJ u6 m6 l6 ⟨hS,hit,hbx,hm1g,Ps,hPn,hPm,o2',hg2,hR⟩;simp only at hS hit hbx hm1g hPm hg2 hR hJ;have le6:=le5.trans l6;refine G.mapNextL Ba.inj it v1 esv clv lv D L (by kernel_rfl) (by kernel_rfl) hit (.inl (le6 _ _ f1)) hsv hkv hndv hS ?done1 ?next1
 case next1 =>
  rintro ⟨p,xv⟩ e hp hpn he hek hev hS';simp only at hpn hek hev;have hx:=(hlv _ hp).1;simp only at hx;obtain ⟨yb,ya,yn,yc,yb',ya',yn',yc',rfl⟩:=hx.opn;refine G.mapEntry it v1 esv clv D e (by kernel_rfl) (Ab _ _ _) (.inl (le6 _ _ f1)) hsv he ?_;rw [hek,hev];refine G.mapRange w1 esw clw 44 89 (by kernel_rfl) (.inl (le6 _ _ e1)) ?_;intro it2 him2 hiu2;have jb:bx≠it2:=fun e=>by subst e; rw [Ac _ _ ib,hbx] at him2; cases him2
  have j1:g1≠it2:=fun e=>by subst e; rw [Ac _ _ i1,hm1g] at him2; cases him2
  have j2:g2≠it2:=fun e=>by subst e; rw [Ac _ _ i2,hg2] at him2; cases him2
  have k1:it≠it2:=fun e=>by subst e; rw [Ab] at him2; cases him2
  have k2:g2≠it:=i2;refine G.l (ι:=List MapEntry×List (Par×Value)) (fun _=>[(2,.p 0 0),(3,.p 1 0),(4,.p 2 0),(5,.v (.pointer (some ⟨bx,0,none⟩))),(6,.p 6003 0),(7,.p 6004 0),(27,.v (.pointer (some ⟨it,0,none⟩))),(35,.v (.pointer (some ⟨it2,0,none⟩)))])
   (fun _=>[(0,⟨93,[.v (.bool vb),.v (.slice va vn vc),.v (.bool vb'),.v (.slice va' vn' vc'),.v (.map (some v1)),.v (.map (some v2))]⟩),(1,⟨93,[.v (.bool wb),.v (.slice wa wn wc),.v (.bool wb'),.v (.slice wa' wn' wc'),.v (.map (some w1)),.v (.map (some w2))]⟩),(2,⟨93,[.v (.bool false),.v (.slice none 0 0),.v (.bool false),.v (.slice none 0 0),.v (.map none),.v (.map none)]⟩),(6003,⟨44,[.v (.int .i64 p.1),.v (.string (mkS p.2))]⟩),(6004,⟨89,[.v (.bool yb),.v (.slice ya yn yc),.v (.bool yb'),.v (.slice ya' yn' yc')]⟩)])
   (fun i u' m'=>C3 Ak esw lw i.1 i.2∧m' it2=some (.mapIter (some w1) clw (An i.1) clw)∧m' it=some (.mapIter (some v1) clv (An (D++[e])) clv)∧m' bx=some (Ip b2 a2 x2 c2 b2' a2' x2' c2' g1 g2)∧m' g1=some o1∧∃ Qs:List (Par×Par),Qs.Nodup∧(∀ x:Par×Par,x∈Qs↔(x.1∈L.map (·.1)∧x.2∈lw.map (·.1))∨(x.1=p∧x.2∈i.2.map (·.1)))∧∃ oi,m' g2=some oi∧Cf prV Ap true u' oi (fun k=>base k+B8 F H Qs k) (M+N+L.length*lw.length+i.2.length) 12)
   (fun i=>lw.length - i.2.length) ([],[])
   ⟨C3.nil _ _,Ab _ _ _,by rw [Ac _ _ k1,Ab],by rw [Ac _ _ jb,Ac _ _ ib]; exact hbx,by rw [Ac _ _ j1,Ac _ _ i1]; exact hm1g,Ps,hPn,by intro x; rw [hPm]; simp,o2',by rw [Ac _ _ j2,Ac _ _ i2]; exact hg2,hR⟩ ?_
  rintro J2 ⟨D2,L2⟩ iJ ui mi ile ⟨iS,iit2,iit,ibx,ig1,Qs,hQn,hQm,oi,ig2,iR⟩;simp only at iS iit2 iit ibx ig1 hQm ig2 iR iJ;have lei:=le6.trans ile;refine G.mapNextL Ba.inj it2 w1 esw clw lw D2 L2 (by kernel_rfl) (by kernel_rfl) iit2 (.inl (lei _ _ e1)) hsw hkw hndw iS ?done2 ?next2
  case next2 =>
   rintro ⟨k,yv⟩ e2 hk hkn he2 hek2 hev2 iS';simp only at hkn hek2 hev2;have hy:=(hlw _ hk).1;simp only at hy;obtain ⟨zb,za,zn,zc,zb',za',zn',zc',rfl⟩:=hy.opn;have hnew:(p,k)∉Qs:=fun h=>by
    rcases (hQm _).1 h with h | h
    ·exact hpn h.1
    ·exact hkn h.2
   have hQn':(Qs++[(p,k)]).Nodup:=by
    rw [List.nodup_append];exact ⟨hQn,by simp,fun a ha b hb e'=>hnew (by simp at hb; rw [← hb,← e']; exact ha)⟩
   have hQm':∀ x:Par×Par,x∈Qs++[(p,k)]↔(x.1∈L.map (·.1)∧x.2∈lw.map (·.1))∨(x.1=p∧x.2∈(L2++[(k,Value.agg #[.bool zb,.slice za zn zc,.bool zb',.slice za' zn' zc'])]).map (·.1)):=fun x=>by
    obtain ⟨x1,x2⟩:=x;rw [List.mem_append,hQm];simp only [List.map_append,List.mem_append,List.map_cons,List.map_nil,List.mem_singleton,Prod.mk.injEq];constructor
    ·rintro ((h | ⟨h1,h2⟩) | ⟨h1,h2⟩)
     ·exact .inl h
     ·exact .inr ⟨h1,.inl h2⟩
     ·exact .inr ⟨h1,.inr h2⟩
    ·rintro (h | ⟨h1,h2 | h2⟩)
     ·exact .inl (.inl h)
     ·exact .inl (.inr ⟨h1,h2⟩)
     ·exact .inr ⟨h1,h2⟩
   refine G.mapEntry it2 w1 esw clw D2 e2 (by kernel_rfl) (Ab _ _ _) (.inl (lei _ _ e1)) hsw he2 ?_;rw [hek2,hev2];refine G.c Tryz.call70 (Dm (hx.mono lei) (hy.mono lei) (SB.big (ok.a.s p)) (SB.big (ok.b.s k))) ?_;intro v9 u9 l9 r9;obtain ⟨b9,a9,n9,c9,b9',a9',n9',c9',rfl⟩:=r9.opn;rw [← hbase] at hacc;have ok:Am0 F H base:=⟨ok.a,ok.b,ok.pr,ok.con,hacc⟩;by_cases hpk:p=k
   ·have hcon:con F H (p,k)=F.s p*H.s k+F.s p*H.s k:=by unfold con; rw [if_pos hpk]
    refine G.eqAgg 44 #[.int .i64 p.1,.string (mkS p.2)] #[.int .i64 k.1,.string (mkS k.2)] true (by kernel_rfl) (by kernel_rfl) (by kernel_rfl) (fun w=>by rw [← decide_eq_true hpk]; exact Ba.eq p k w) ?_;refine G.c Tryz.call69 (Ef r9 r9 (SB.big (ok.pr p k)) (SB.big (ok.pr p k))) ?_;intro v10 u10 l10 r10;obtain ⟨b10,a10,n10,c10,b10',a10',n10',c10',rfl⟩:=r10.opn;refine G.f 93 bx 0 2 5 ?_;refine G.lM none bx (0+5) (.map (some g2)) (Aao (by rw [Ac _ _ jb]; exact ibx)) ?_;refine G.c Tryz.call166 (Agn p k) ?_;rintro v7 u7 l7 rfl;refine G.callG _ _ (by kernel_rfl) (by kernel_rfl) Tryz.call193 (g:=g2) (o:=oi) (by rw [Ac _ _ j2]; exact ig2)
     (V8 (a:=Ar p k) (iR.mf ((l9.trans l10).trans l7)) (r10.mono l7) (by have:=ok.con (p,k); rw [hcon] at this; exact this) (ok.acc Qs hQn _) (by
      have:=ok.acc (Qs++[(p,k)]) hQn' (Ar p k);rw [Du,if_pos rfl,hcon] at this;rw [show (F.s p*H.s k+F.s p*H.s k)+(base (Ar p k)+B8 F H Qs (Ar p k))=base (Ar p k)+((F.s p*H.s k+F.s p*H.s k)+B8 F H Qs (Ar p k)) by grind]; exact this)) ?_
    intro v8 u8 o8 l8 r8;refine G.b (iJ (D2++[e2],L2++[(k,_)]) _ _ _ cv ((ile.trans ((l9.trans l10).trans l7)).trans l8)
     ⟨iS',by rw [Ac _ _ (Ne.symm j2),Ab],by rw [Ac _ _ (Ne.symm k2),Ac _ _ k1]; exact iit,by rw [Ac _ _ ne2,Ac _ _ jb]; exact ibx,by rw [Ac _ _ ne3,Ac _ _ j1]; exact ig1,Qs++[(p,k)],hQn',hQm',o8,Ab _ _ _,?_⟩ (by have:=iS'.len; simp at this; dsimp only; simp; omega))
    refine (r8.congr fun j=>?_).up (by simp [Nat.add_assoc]) (Nat.le_refl _);rw [Du,hcon];unfold Dv;by_cases e:j=Ar p k
    ·rw [if_pos e,if_pos e,e]; grind
    ·rw [if_neg e,if_neg e]
   ·have hcon:con F H (p,k)=F.s p*H.s k:=by unfold con; rw [if_neg hpk]
    refine G.eqAgg 44 #[.int .i64 p.1,.string (mkS p.2)] #[.int .i64 k.1,.string (mkS k.2)] false (by kernel_rfl) (by kernel_rfl) (by kernel_rfl) (fun w=>by rw [← decide_eq_false hpk]; exact Ba.eq p k w) ?_;refine G.f 93 bx 0 2 5 ?_;refine G.lM none bx (0+5) (.map (some g2)) (Aao (by rw [Ac _ _ jb]; exact ibx)) ?_;refine G.c Tryz.call166 (Agn p k) ?_;rintro v7 u7 l7 rfl;refine G.callG _ _ (by kernel_rfl) (by kernel_rfl) Tryz.call193 (g:=g2) (o:=oi) (by rw [Ac _ _ j2]; exact ig2)
     (V8 (a:=Ar p k) (iR.mf (l9.trans l7)) (r9.mono l7) (by have:=ok.con (p,k); rw [hcon] at this; exact this) (ok.acc Qs hQn _) (by
      have:=ok.acc (Qs++[(p,k)]) hQn' (Ar p k);rw [Du,if_pos rfl,hcon] at this;rw [show F.s p*H.s k+(base (Ar p k)+B8 F H Qs (Ar p k))=base (Ar p k)+(F.s p*H.s k+B8 F H Qs (Ar p k)) by grind]; exact this)) ?_
    intro v8 u8 o8 l8 r8;refine G.b (iJ (D2++[e2],L2++[(k,_)]) _ _ _ cv ((ile.trans (l9.trans l7)).trans l8)
     ⟨iS',by rw [Ac _ _ (Ne.symm j2),Ab],by rw [Ac _ _ (Ne.symm k2),Ac _ _ k1]; exact iit,by rw [Ac _ _ ne2,Ac _ _ jb]; exact ibx,by rw [Ac _ _ ne3,Ac _ _ j1]; exact ig1,Qs++[(p,k)],hQn',hQm',o8,Ab _ _ _,?_⟩ (by have:=iS'.len; simp at this; dsimp only; simp; omega))
    refine (r8.congr fun j=>?_).up (by simp [Nat.add_assoc]) (Nat.le_refl _);rw [Du,hcon];unfold Dv;by_cases e:j=Ar p k
    ·rw [if_pos e,if_pos e,e]; grind
    ·rw [if_neg e,if_neg e]
  case done2 =>
  intro hall2;refine G.b (hJ (D++[e],L++[(p,_)]) _ _ _ cv (l6.trans ile) ⟨hS',iit,ibx,ig1,Qs,hQn,fun x=>?_,oi,ig2,iR.up ?_ (Nat.le_refl _)⟩ (by have:=hS'.len; simp at this; dsimp only; simp; omega))
  ·rw [hQm];simp only [List.map_append,List.mem_append,List.map_cons,List.map_nil,List.mem_singleton];constructor
   ·rintro (h | ⟨h1,h2⟩)
    ·exact ⟨.inl h.1,h.2⟩
    ·obtain ⟨y,hy,e'⟩:=List.mem_map.1 h2;exact ⟨.inr h1,List.mem_map.2 ⟨y,iS.sub y hy,e'⟩⟩
   ·rintro ⟨h1 | h1,h2⟩
    ·exact .inl ⟨h1,h2⟩
    ·obtain ⟨y,hy,e'⟩:=List.mem_map.1 h2;exact .inr ⟨h1,List.mem_map.2 ⟨y,hall2 y hy,e'⟩⟩
  ·have:=iS.len;simp only [List.length_append,List.length_cons,List.length_nil,Nat.add_mul];omega
 case done1 =>
 intro hall;refine G.lM (some 6) bx 0 (.agg #[.bool b2,.slice a2 x2 c2,.bool b2',.slice a2' x2' c2',.map (some g1),.map (some g2)]) (Se hbx) ?_;refine G.drop ((PH.mt.upd g1 o1).upd g2 o2') (by kernel_rfl) (fun g o hg=>?_) ?_
 ·by_cases e:g=g2
  ·subst e; rw [Ab] at hg; cases hg; exact hg2
  ·rw [Ac _ _ e] at hg;by_cases e:g=g1
   ·subst e; rw [Ab] at hg; cases hg; exact hm1g
   ·rw [Ac _ _ e] at hg; cases hg
 refine G.r (.agg #[.bool b2,.slice a2 x2 c2,.bool b2',.slice a2' x2' c2',.map (some g1),.map (some g2)]) ⟨b2,a2,x2,c2,b2',a2',x2',c2',g1,g2,o1,o2',rfl,r5.mono l6,ne3,rfl,(hS1.mf (l5.trans l6)).up (by omega) (Nat.le_refl _),(hR.congr fun k=>?_).up ?_ (Nat.le_refl _)⟩
 ·rw [U8 F H hPn (fun p q h1 h2=>(hPm _).2 ⟨?_,?_⟩) k,hbase]
  ·rfl
  ·have:p∈lv.map (·.1):=Classical.byContradiction fun h=>h1 (hzv p h);obtain ⟨y,hy,e'⟩:=List.mem_map.1 this;exact List.mem_map.2 ⟨y,hall y hy,e'⟩
  ·exact Classical.byContradiction fun h=>h2 (hzw q h)
 ·have h1:=hS.len;have h2:L.length*lw.length≤N*M:=Nat.mul_le_mul (by omega) hnw;omega
end
section
open Go.RowKit Go.MapKept
def A3 (p:Par×Rat):Value:=.agg #[.int .i64 p.1.1,.string (mkS p.1.2),.string (mkS (Ag p.2))]
def Cw (x:(Par×Par)×Rat):Value:=.agg #[.int .i64 x.1.1.1,.string (mkS x.1.1.2),.int .i64 x.1.2.1,.string (mkS x.1.2.2),.string (mkS (Ag x.2))]
def Hb (u:PH)(v:Value)(F:CF)(K:Nat):Prop :=
 ∃ (T:List (Par×Rat)) (Q:List ((Par×Par)×Rat)) (a1:Option Addr) (c1:Nat) (a2:Option Addr) (c2:Nat),v=.agg #[.string (mkS (Ag F.c)),.slice a1 T.length c1,.slice a2 Q.length c2] ∧
  Ad u (.slice a1 T.length c1) 3 (T.map A3)∧Ad u (.slice a2 Q.length c2) 5 (Q.map Cw)∧Can A4 F.s T∧Can Gp F.t Q∧T.length≤K∧Q.length≤K
theorem Hb.mono {u u':PH}{v:Value}{F:CF}{K:Nat}(h:Hb u v F K)(hl:PH.le u u'):Hb u' v F K:=by
 obtain ⟨T,Q,a1,c1,a2,c2,e,h1,h2,h3⟩:=h;exact ⟨T,Q,a1,c1,a2,c2,e,h1.mono hl,h2.mono hl,h3⟩
section
variable {κ:Type} [DecidableEq κ]
theorem Xn {l:List (κ×Rat)}{a:κ}{q:Rat}(h:a∉l.map (·.1)):(fun k=>A5 k (l++[(a,q)]))=Dv (fun k=>A5 k l) a q:=by
 funext k
 unfold Dv;induction l with
 | nil=>simp [A5]
 | cons p l ih =>
  obtain ⟨b,r⟩:=p;simp only [List.map_cons,List.mem_cons,not_or] at h;simp only [List.cons_append,A5];by_cases hk:k=b
  ·rw [if_pos hk,if_pos hk,if_neg (fun e=>h.1 (by rw [← e,hk]))]
  ·rw [if_neg hk,if_neg hk]; exact ih h.2
theorem Can.fn {c:κ→κ→Int}(hc:Ord c){f:κ→Rat}{l:List (κ×Rat)}(h:Can c f l):∀ k,A5 k l=f k:=fun k=>by
 by_cases hk:k∈l.map (·.1)
 ·obtain ⟨p,hp,rfl⟩:=List.mem_map.1 hk;rw [Gj (h.srt.nodup hc) (q:=p.2) hp]; exact (h.val p hp).1
 ·rw [Gn hk,h.out k hk]
theorem Y6 {l:List (κ×Rat)}{i:Nat}{p:κ×Rat}(hn:(l.map (·.1)).Nodup)(hi:l[i]?=some p):p.1∉(l.take i).map (·.1):=by
 intro hm;obtain ⟨q,hq,e⟩:=List.mem_map.1 hm;obtain ⟨j,hj,rfl⟩:=List.mem_iff_getElem.1 hq;have hji:j < i:=by simp at hj; omega
 obtain ⟨hil,rfl⟩:=List.getElem?_eq_some_iff.1 hi;rw [List.getElem_take] at e;have:=List.pairwise_iff_getElem.1 hn j i (by simp; omega) (by simpa using hil) hji;simp only [List.getElem_map] at this;exact this e
end
theorem Cf.snoc {κ:Type}[DecidableEq κ]{enc:κ→Value}{u:PH}{o o':Obj}{T:List (κ×Rat)}{p:κ×Rat}{x:Value}{l:List (κ×Value)}{N:Nat}(ho:Ce enc o l)(h2:∀ y∈l,Ap u y.2 (A5 y.1 T)∧(true=true→A5 y.1 T≠0)∧Sz (A5 y.1 T) 12)(h3:∀ k,k∉l.map (·.1)→A5 k T=0)(h4:l.length≤N)
  (h':Ce enc o' (Hj p.1 x l)) (hx:Ap u x p.2) (hp:p.1∉T.map (·.1)) (h0:p.2≠0) (hs:SB p.2):Cf enc Ap true u o' (fun k=>A5 k (T++[p])) (N+1) 12:=by
 obtain ⟨a,q⟩:=p;rw [Xn hp];exact Cf.put (f:=fun k=>A5 k T) ho h2 h3 h4 h' hx (fun _=>h0) hs.sz (Nat.le_refl _)
abbrev zvL:List SV:=[.v (.bool false),.v (.slice none 0 0),.v (.bool false),.v (.slice none 0 0),.v (.map none),.v (.map none)]
theorem of0 {u:PH}{F:CF}{K:Nat}{v:Value}(hv:Hb u v F K)(sF:CFS F)(hK:K≤1000000) :
  Ae Tryz.prog 68 [v] u PH.mt fun v' u' m'=>Nn m' u' v' F K:=by
 obtain ⟨T,Q,a1,c1,a2,c2,rfl,hT,hQ,cT,cQ,kT,kQ⟩:=hv;have ndT:=cT.srt.nodup Dd;have ndQ:=cQ.srt.nodup Aaz;refine Ae.o Tryz.func68 ?_;refine G.callO _ _ (by kernel_rfl) Tryz.call116 (Wf (n:=0) (by omega) (by omega)) ?_;rintro v1 u1 m1 l1 r1 _;rw [Ci];obtain ⟨b,a,n,c,b',a',n',c',g1,g2,o1,o2,rfl,h1,hne,rfl,h4,h5⟩:=r1;refine G.c Tryz.call133 (Em (SB.tx sF.c)) ?_;intro v2 u2 l2 r2;obtain ⟨b2,x2,n2,d2,b2',x2',n2',d2',rfl⟩:=r2.opn;refine G.l (ι:=Nat) (fun i=>[(1,.p 0 0),(2,.p 1 0),(3,.p 1001 0),(14,.v (.slice a1 T.length c1)),(15,.v (.int .i64 (T.length:Int))),(16,.v (.int .i64 (i:Int)))])
  (fun _=>[(0,⟨36,[.v (.string (mkS (Ag F.c))),.v (.slice a1 T.length c1),.v (.slice a2 Q.length c2)]⟩),(1,⟨93,zvL⟩),(1001,⟨93,[.v (.bool b2),.v (.slice x2 n2 d2),.v (.bool b2'),.v (.slice x2' n2' d2'),.v (.map (some g1)),.v (.map (some g2))]⟩)])
  (fun i u' m'=>i≤T.length∧m' g2=some o2∧∃ o1',m' g1=some o1'∧Cf Ak Ap true u' o1' (fun k=>A5 k (T.take i)) i 12)
  (fun i=>T.length - i) 0
  ⟨by omega,Ab _ _ _,o1,by rw [Ac _ _ hne,Ab],(h4.mf l2).congr fun k=>by simp [A5]⟩ ?_
 rintro J i hJ u3 m3 l3 ⟨hi,hg2,o1',hg1,hR⟩;by_cases hlt:i < T.length
 ·refine G.lT (i:Int) (T.length:Int) ?_;have hTi:T[i]?=some T[i]:=List.getElem?_eq_getElem hlt;obtain ⟨ba,oa,rfl,ea⟩:=Ad.at' (hT.mono ((l1.trans l2).trans l3)) (j:=i) (e:=A3 T[i]) (by simp [hTi]);obtain ⟨hval,h0⟩:=cT.val _ (List.getElem_mem hlt);have hs:SB T[i].2:=by rw [hval]; exact sF.s _
  refine G.a ba oa T.length c1 i 3 (by omega) ?_;refine G.lU (some 3) ba (oa+i*3) (.agg #[.int .i64 T[i].1.1,.string (mkS T[i].1.2),.string (mkS (Ag T[i].2))]) ea ?_;refine G.c Tryz.call133 (Em hs.tx) ?_;intro v4 u4 l4 r4;obtain ⟨b4,x4,n4,d4,b4',x4',n4',d4',rfl⟩:=r4.opn;obtain ⟨l,ho,q2,q3,q4⟩:=(hR.mf l4).at;refine G.mapPut (et:=89) Ba g1 o1' l T[i].1 (.agg #[.bool b4,.slice x4 n4 d4,.bool b4',.slice x4' n4' d4']) (by kernel_rfl) (by kernel_rfl) hg1 ho ?_;intro o' ho';refine G.i i ?_;refine G.b (hJ (i+1) _ _ _ cv (l3.trans l4) ⟨by omega,by rw [Ac _ _ (Ne.symm hne)]; exact hg2,o',Ab _ _ _,?_⟩ (by omega));rw [List.take_add_one,hTi];exact Cf.snoc ho q2 q3 q4 ho' r4 (Y6 ndT hTi) h0 hs
 obtain rfl:i=T.length:=by omega
 refine G.lF (T.length:Int) (T.length:Int) ?_;have hR':Cf Ak Ap true u3 o1' F.s T.length 12:=by
  rw [List.take_length] at hR;exact hR.congr (cT.fn Dd)
 refine G.l (ι:=Nat) (fun i=>[(2,.p 1 0),(3,.p 1001 0),(29,.v (.slice a2 Q.length c2)),(30,.v (.int .i64 (Q.length:Int))),(31,.v (.int .i64 (i:Int)))])
  (fun _=>[(1,⟨93,zvL⟩),(1001,⟨93,[.v (.bool b2),.v (.slice x2 n2 d2),.v (.bool b2'),.v (.slice x2' n2' d2'),.v (.map (some g1)),.v (.map (some g2))]⟩)])
  (fun i u' m'=>i≤Q.length∧m' g1=some o1'∧∃ o2',m' g2=some o2'∧Cf prV Ap true u' o2' (fun k=>A5 k (Q.take i)) i 12)
  (fun i=>Q.length - i) 0
  ⟨by omega,hg1,o2,hg2,(h5.mf (l2.trans l3)).congr fun k=>by simp [A5]⟩ ?_
 rintro J2 i hJ2 u5 m5 l5 ⟨hi2,hg15,o2',hg25,hR2⟩;by_cases hlt:i < Q.length
 ·refine G.lT (i:Int) (Q.length:Int) ?_;have hQi:Q[i]?=some Q[i]:=List.getElem?_eq_getElem hlt;obtain ⟨ba,oa,rfl,ea⟩:=Ad.at' (hQ.mono (((l1.trans l2).trans l3).trans l5)) (j:=i) (e:=Cw Q[i]) (by simp [hQi]);obtain ⟨hval,h0⟩:=cQ.val _ (List.getElem_mem hlt);have hs:SB Q[i].2:=by rw [hval]; exact sF.t _
  refine G.a ba oa Q.length c2 i 5 (by omega) ?_;refine G.lU (some 5) ba (oa+i*5) (.agg #[.int .i64 Q[i].1.1.1,.string (mkS Q[i].1.1.2),.int .i64 Q[i].1.2.1,.string (mkS Q[i].1.2.2),.string (mkS (Ag Q[i].2))]) ea ?_;refine G.c Tryz.call133 (Em hs.tx) ?_;intro v4 u4 l4 r4;obtain ⟨b4,x4,n4,d4,b4',x4',n4',d4',rfl⟩:=r4.opn;obtain ⟨l,ho,q2,q3,q4⟩:=(hR2.mf l4).at;refine G.mapPut (et:=89) Io g2 o2' l Q[i].1 (.agg #[.bool b4,.slice x4 n4 d4,.bool b4',.slice x4' n4' d4']) (by kernel_rfl) (by kernel_rfl) hg25 ho ?_;intro o' ho';refine G.i i ?_;refine G.b (hJ2 (i+1) _ _ _ cv (l5.trans l4) ⟨by omega,by rw [Ac _ _ hne]; exact hg15,o',Ab _ _ _,?_⟩ (by omega));rw [List.take_add_one,hQi];exact Cf.snoc ho q2 q3 q4 ho' r4 (Y6 ndQ hQi) h0 hs
 obtain rfl:i=Q.length:=by omega
 refine G.lF (Q.length:Int) (Q.length:Int) ?_;have hR2':Cf prV Ap true u5 o2' F.t Q.length 12:=by
  rw [List.take_length] at hR2;exact hR2.congr (cQ.fn Aaz)
 refine G.drop ((PH.mt.upd g1 o1').upd g2 o2') (by kernel_rfl) (fun g o hg=>?_) ?_
 ·by_cases e:g=g2
  ·subst e; rw [Ab] at hg; cases hg; exact hg25
  ·rw [Ac _ _ e] at hg;by_cases e:g=g1
   ·subst e; rw [Ab] at hg; cases hg; exact hg15
   ·rw [Ac _ _ e] at hg; cases hg
 exact G.r (.agg #[.bool b2,.slice x2 n2 d2,.bool b2',.slice x2' n2' d2',.map (some g1),.map (some g2)]) ⟨b2,x2,n2,d2,b2',x2',n2',d2',g1,g2,o1',o2',rfl,r2.mono (l3.trans l5),hne,rfl,(hR'.mf l5).up kT (Nat.le_refl _),hR2'.up kQ (Nat.le_refl _)⟩
end
section
open Go.RowKit Go.MapKept Go.Shelf
section
variable {F:Fence} {n:Nat} {P:Program} [Bb P] {w:World} {ops:Array Oper} {rest:List Oper} {o:Oper} {a:Act} {Q:Exit→Act→World→Prop}
theorem Kd (hg:o.guard=none)(x:Operand)(t kt et:TypeId)(hop:o.op=Op.range t x)(ht:P.underlying t=some (.map kt et))(g:Nat)(es:Array MapEntry)(clock:Nat)(hx:a.eval x=.map (some g))(hm:w.heap[g]?=some (.map es clock))
  (hK:wpListIn F n P ops Q rest (a.put o.dst (.pointer (some ⟨w.heap.size,0,none⟩))) (w.alloc (.mapIter (some g) clock (An []) clock))):wpListIn F n P ops Q (o::rest) a w:=by
 refine wpListIn_plain hg fun K' hK'=>?_;have hr:=run_range_map (P:=P) w t kt et g es clock ht hm;unfold Oper.wpIn;refine ⟨by simp [Oper.about,hop],?_⟩;rw [Oper.semAt_plain F _ _ (by rw [hop]; intro c hc'; cases hc')];simp only [execOp,hop,hx];simp only [Sem.run_bind,hr,Result.andThen_ok];exact hK' _ _ hK
theorem Ky (hg:o.guard=none)(x:Operand)(hop:o.op=Op.next x false)(it g:Nat)(es:Array MapEntry)(clock:Nat)(D:List MapEntry)(hx:a.eval x=.pointer (some ⟨it,0,none⟩))(hi:w.heap[it]?=some (.mapIter (some g) clock (An D) clock))(hm:w.heap[g]?=some (.map es clock))(hs:Stamped es clock)(hD:Lw es D)
  (h0:D.Perm es.toList→wpListIn F n P ops Q rest (a.put o.dst (.tuple #[.bool false])) w)
  (h1:∀ e w2,e∈es.toList→Lw es (D++[e])→w2.heap[it]?=some (.mapIter (some g) clock (An (D++[e])) clock)→w.grownBy w2 (some it)→wpListIn F n P ops Q rest (a.put o.dst (.tuple #[.bool true,e.key,e.val])) w2):wpListIn F n P ops Q (o::rest) a w:=by
 refine wpListIn_plain hg fun K' hK'=>?_;unfold Oper.wpIn;refine ⟨by simp [Oper.about,hop],?_⟩;rw [Oper.semAt_plain F _ _ (by rw [hop]; intro c hc'; cases hc')];rcases T4 (P:=P) o.type hi hm hs with ⟨e0,hr⟩ | ⟨e,he,w1,hw1,hr⟩
 ·simp only [execOp,hop,hx];simp only [Sem.run_bind,hr,Result.andThen_ok];exact hK' _ _ (h0 (Uc hs hD e0))
 ·simp only [execOp,hop,hx];simp only [Sem.run_bind,hr,Result.andThen_ok];have hh:w1.heap=w.heap:=by rcases hw1 with rfl | rfl <;> rfl
  refine hK' _ _ (h1 e _ (mem_left he).1 (hD.snoc he) ?_ ⟨?_,?_,?_,?_,fun k hk hne=>?_⟩)
  ·exact Oz (o:=.mapIter (some g) clock (An D) clock) (by rw [hh]; exact hi)
  ·rcases hw1 with rfl | rfl <;> rfl
  ·rcases hw1 with rfl | rfl <;> rfl
  ·rcases hw1 with rfl | rfl <;> rfl
  ·rw [Tt,hh]; exact Nat.le_refl _
  ·rw [Ng (fun e=>hne (by rw [e])),hh]
theorem Q6 {it g:Nat}{es:Array MapEntry}{clock:Nat}{D:List MapEntry}{e:MapEntry}(hi:w.heap[it]?=some (.mapIter (some g) clock (An (D++[e])) clock))(hm:w.heap[g]?=some (.map es clock))(hs:Stamped es clock)(he:e∈es.toList) :
  (Instr.entry (.pointer (some ⟨it,0,none⟩))).run P w=.ok (.tuple #[e.key,e.val]) w:=by
 have hb:(An (D++[e])).back?=some e.born:=by simp [An]
 have hf:es.find? (fun x=>x.born == e.born)=some e:=by rw [← Array.find?_toList]; exact find_born e es.toList hs.2.1 he
 simp only [Instr.entry,getObj,Sem.run_bind,Sem.run,hi,hm,Result.andThen,hb,bne_self_eq_false,Bool.false_eq_true,if_false,hf];rfl
end
def P6 (es:Array MapEntry)(it:Nat)(w:World):Nat:=match w.heap[it]? with | some (.mapIter _ _ seen _)=>es.size - seen.size | _=>0
theorem Np {es:Array MapEntry}{it g clock:Nat}{D:List MapEntry}{w:World}(h:w.heap[it]?=some (.mapIter (some g) clock (An D) clock)):P6 es it w=es.size - D.length:=by
 unfold P6; rw [h]; simp [An]
theorem Lw.lt {es:Array MapEntry}{D:List MapEntry}{e:MapEntry}(h:Lw es (D++[e])):D.length < es.size:=by
 have:=E4 (·.born) h.nod h.sub;simp at this; omega
end
section
open Go.RowKit Go.MapKept Go.Shelf
set_option maxRecDepth 100000 in
theorem Ako (n l Bm g:Nat)(es:Array MapEntry)(clock:Nat)(lk:List ((Par×Par)×Value))(J:List (Par×Par)→World→Prop)(hs:Stamped es clock)(hkv:es.toList.map (fun e=>(e.key,e.val))=lk.map (fun p=>(prV p.1,p.2)))(hnd:(lk.map (·.1)).Nodup)
  (hY:∀ pre x W,J pre W→pre.length < lk.length→YieldAt Fence.wide (n - 1) Tryz.prog l #[prV x] W fun e W'=>e=.returned (.bool true)∧J (pre++[x]) W'∧KeepsWalks W W')
  (W:World) (hJ:AbidesFrom W.heap.size J) (hm:W.cell? ⟨Bm,0,none⟩=some (.map (some g))) (hg:W.heap[g]?=some (.map es clock)) (h0:J [] W) :
  CallsIn Fence.wide n Tryz.prog 226 #[.func (.yield l) #[] #[],.pointer (some ⟨Bm,0,none⟩)] W fun e W'=>(∃ v,e=.returned v)∧∃ ss:List (Par×Par),(ss.Nodup∧∀ k,k∈ss↔k∈lk.map (·.1))∧J ss W':=by
 have mixed:Tryz.prog.follows .mixedOrders=true:=by kernel_rfl
 refine callsIn_of_wp Tryz.func226 rfl trivial ?_ rfl;simp only [Tryz.ntmps226,List.size_toArray,List.length_cons,List.length_nil,Nat.reduceAdd,Nat.reduceSub,Array.replicate_succ,Array.replicate_zero,List.push_toArray,List.append_toArray,List.nil_append,List.cons_append]
 gi_wp2_with (first
  | (gi_at_range; refine Kd rfl _ 91 188 89 rfl (by kernel_rfl) g es clock rfl hg ?_)
  | gi_in)
 go_frame
 gi_loopw [3] (fun _ wr=>∃ (D:List MapEntry) (L:List ((Par×Par)×Value)),wr.heap[W.heap.size]?=some (.mapIter (some g) clock (An D) clock)∧C3 prV es lk D L∧wr.heap[g]?=some (.map es clock)∧W.heap.size≤wr.heap.size∧J (L.map (·.1)) wr)
  (fun _ wr=>P6 es W.heap.size wr)
 case atStart =>
  refine ⟨[],[],Bg _ _,C3.nil _ _,by rw [Aq _ _ (Ax hg)]; exact hg,by rw [Av]; omega,?_⟩;exact hJ [] W _ none h0 ⟨rfl,rfl,rfl,by rw [Av]; omega,fun k hk _=>Aq _ _ hk⟩ (fun r e=>by cases e)
 case round =>
  obtain ⟨D,L,hit,hS,hgr,hsz,hJs⟩:=hrel
  gi_wp2_with (first
   | (gi_at_next; refine Ky rfl _ rfl W.heap.size g es clock D rfl hit hgr hs hS.it ?_ ?_)
   | gi_in)
  ·intro hp
   gi_wp2
   go_end0
   have hall:=hS.all Io.inj hkv hp;exact ⟨⟨_,rfl⟩,L.map (·.1),⟨hS.nod,fun k=>⟨fun h=>by
    obtain ⟨y,hy,rfl⟩:=List.mem_map.1 h;exact List.mem_map.2 ⟨y,hS.sub y hy,rfl⟩,fun h=>by
    obtain ⟨y,hy,rfl⟩:=List.mem_map.1 h;exact List.mem_map.2 ⟨y,hall y hy,rfl⟩⟩⟩,hJs⟩
  ·intro e w2 he0 hi hit2 hgb;have he:e∈es.toList:=by simpa using he0
   obtain ⟨p,hp,hek,hev,hnew,hS'⟩:=hS.snoc Io.inj hkv hnd he hi;have hgw2:w2.heap[g]?=some (.map es clock):=(hgb.block g (Ax hgr) (fun e=>by cases e; rw [hit] at hgr; cases hgr)).trans hgr;have hen:=Q6 (P:=Tryz.prog) hit2 hgw2 hs he;rw [hek,hev,show prV p.1=.agg #[.int .i64 p.1.1.1,.string (mkS p.1.1.2),.int .i64 p.1.2.1,.string (mkS p.1.2.2)] from rfl] at hen ⊢;have hl2:=Ax hit2;have hlen:=hS'.len;simp only [List.length_append,List.length_cons,List.length_nil] at hlen;have hJ2:J (L.map (·.1)) w2:=hJ _ wr w2 (some W.heap.size) hJs hgb (fun r e=>by cases e; exact ⟨Nat.le_refl _,_,hit,rfl⟩);have hJ3:J (L.map (·.1)) (w2.alloc (.cells #[.int .i64 p.1.1.1,.string (mkS p.1.1.2),.int .i64 p.1.2.1,.string (mkS p.1.2.2)] 188)):=hJ _ w2 _ none hJ2 ⟨rfl,rfl,rfl,by rw [Av]; omega,fun k hk _=>Aq _ _ hk⟩ (fun r e=>by cases e);have hS2:w2.heap.size≥W.heap.size:=Nat.le_trans hsz hgb.size;obtain ⟨fn,tmps,assign,body,hy,hR⟩:=hY (L.map (·.1)) p.1 _ hJ3 (by rw [List.length_map]; omega);have hy':(Instr.yield l #[.agg #[.int .i64 p.1.1.1,.string (mkS p.1.1.2),.int .i64 p.1.2.1,.string (mkS p.1.2.2)]]).run Tryz.prog (w2.alloc (.cells #[.int .i64 p.1.1.1,.string (mkS p.1.1.2),.int .i64 p.1.2.1,.string (mkS p.1.2.2)] 188))=.ok (.round l fn tmps assign body) (w2.alloc (.cells #[.int .i64 p.1.1.1,.string (mkS p.1.1.2),.int .i64 p.1.2.1,.string (mkS p.1.2.2)] 188)):=hy;have hit3:∀ W3,KeepsWalks (w2.alloc (.cells #[.int .i64 p.1.1.1,.string (mkS p.1.1.2),.int .i64 p.1.2.1,.string (mkS p.1.2.2)] 188)) W3→W3.heap[W.heap.size]?=some (.mapIter (some g) clock (An (D++[e])) clock)∧W3.heap[g]?=some (.map es clock)∧W.heap.size≤W3.heap.size:=fun W3 hk =>
    ⟨hk.same _ _ (by rw [Aq _ _ hl2]; exact hit2) rfl,hk.same _ _ (by rw [Aq _ _ (Ax hgw2)]; exact hgw2) rfl,by have:=hk.size; rw [Av] at this; omega⟩
   have hHold:(∀ W3,J (L.map (·.1)++[p.1]) W3→KeepsWalks (w2.alloc (.cells #[.int .i64 p.1.1.1,.string (mkS p.1.1.2),.int .i64 p.1.2.1,.string (mkS p.1.2.2)] 188)) W3 →
     (∃ (D:List MapEntry) (L:List ((Par×Par)×Value)),W3.heap[W.heap.size]?=some (.mapIter (some g) clock (An D) clock)∧C3 prV es lk D L∧W3.heap[g]?=some (.map es clock)∧W.heap.size≤W3.heap.size∧J (L.map (·.1)) W3)∧P6 es W.heap.size W3 < P6 es W.heap.size wr):=fun W3 hJ4 hk4=>by
    obtain ⟨a1,a2,a3⟩:=hit3 W3 hk4;refine ⟨⟨D++[e],L++[p],a1,hS',a2,a3,by rw [List.map_append]; exact hJ4⟩,?_⟩;rw [Np a1,Np hit];have:=hi.lt;simp; omega
   have hHold:=Lib.hid hHold;clear hS' hS hJs hit hy hJ3 hJ2 hit3 hlen hi hgb hnew hp hY hJ
   gi_wp2
   refine ⟨fun h=>(by cases h),hR.mono ?_⟩;rintro e3 W3 ⟨rfl,hJ4,hk4⟩;have hfin:=hHold.out W3 hJ4 hk4;clear hHold hJ4 hk4
   gi_wp2
   exact hfin
end
section
open Go.RowKit Go.MapKept Go.Shelf
set_option maxRecDepth 100000 in
theorem Ag1 (n l Bm g:Nat)(es:Array MapEntry)(clock:Nat)(lk:List (Par×Value))(J:List Par→World→Prop)(hs:Stamped es clock)(hkv:es.toList.map (fun e=>(e.key,e.val))=lk.map (fun p=>(Ak p.1,p.2)))(hnd:(lk.map (·.1)).Nodup)
  (hY:∀ pre x W,J pre W→pre.length < lk.length→YieldAt Fence.wide (n - 1) Tryz.prog l #[Ak x] W fun e W'=>e=.returned (.bool true)∧J (pre++[x]) W'∧KeepsWalks W W')
  (W:World) (hJ:AbidesFrom W.heap.size J) (hm:W.cell? ⟨Bm,0,none⟩=some (.map (some g))) (hg:W.heap[g]?=some (.map es clock)) (h0:J [] W) :
  CallsIn Fence.wide n Tryz.prog 223 #[.func (.yield l) #[] #[],.pointer (some ⟨Bm,0,none⟩)] W fun e W'=>(∃ v,e=.returned v)∧∃ ss:List Par,(ss.Nodup∧∀ k,k∈ss↔k∈lk.map (·.1))∧J ss W':=by
 have mixed:Tryz.prog.follows .mixedOrders=true:=by kernel_rfl
 refine callsIn_of_wp Tryz.func223 rfl trivial ?_ rfl;simp only [Tryz.ntmps223,List.size_toArray,List.length_cons,List.length_nil,Nat.reduceAdd,Nat.reduceSub,Array.replicate_succ,Array.replicate_zero,List.push_toArray,List.append_toArray,List.nil_append,List.cons_append]
 gi_wp2_with (first
  | (gi_at_range; refine Kd rfl _ 90 44 89 rfl (by kernel_rfl) g es clock rfl hg ?_)
  | gi_in)
 go_frame
 gi_loopw [3] (fun _ wr=>∃ (D:List MapEntry) (L:List (Par×Value)),wr.heap[W.heap.size]?=some (.mapIter (some g) clock (An D) clock)∧C3 Ak es lk D L∧wr.heap[g]?=some (.map es clock)∧W.heap.size≤wr.heap.size∧J (L.map (·.1)) wr)
  (fun _ wr=>P6 es W.heap.size wr)
 case atStart =>
  refine ⟨[],[],Bg _ _,C3.nil _ _,by rw [Aq _ _ (Ax hg)]; exact hg,by rw [Av]; omega,?_⟩;exact hJ [] W _ none h0 ⟨rfl,rfl,rfl,by rw [Av]; omega,fun k hk _=>Aq _ _ hk⟩ (fun r e=>by cases e)
 case round =>
  obtain ⟨D,L,hit,hS,hgr,hsz,hJs⟩:=hrel
  gi_wp2_with (first
   | (gi_at_next; refine Ky rfl _ rfl W.heap.size g es clock D rfl hit hgr hs hS.it ?_ ?_)
   | gi_in)
  ·intro hp
   gi_wp2
   go_end0
   have hall:=hS.all Ba.inj hkv hp;exact ⟨⟨_,rfl⟩,L.map (·.1),⟨hS.nod,fun k=>⟨fun h=>by
    obtain ⟨y,hy,rfl⟩:=List.mem_map.1 h;exact List.mem_map.2 ⟨y,hS.sub y hy,rfl⟩,fun h=>by
    obtain ⟨y,hy,rfl⟩:=List.mem_map.1 h;exact List.mem_map.2 ⟨y,hall y hy,rfl⟩⟩⟩,hJs⟩
  ·intro e w2 he0 hi hit2 hgb;have he:e∈es.toList:=by simpa using he0
   obtain ⟨p,hp,hek,hev,hnew,hS'⟩:=hS.snoc Ba.inj hkv hnd he hi;have hgw2:w2.heap[g]?=some (.map es clock):=(hgb.block g (Ax hgr) (fun e=>by cases e; rw [hit] at hgr; cases hgr)).trans hgr;have hen:=Q6 (P:=Tryz.prog) hit2 hgw2 hs he;rw [hek,hev,show Ak p.1=.agg #[.int .i64 p.1.1,.string (mkS p.1.2)] from rfl] at hen ⊢;have hl2:=Ax hit2;have hlen:=hS'.len;simp only [List.length_append,List.length_cons,List.length_nil] at hlen;have hJ2:J (L.map (·.1)) w2:=hJ _ wr w2 (some W.heap.size) hJs hgb (fun r e=>by cases e; exact ⟨Nat.le_refl _,_,hit,rfl⟩);have hJ3:J (L.map (·.1)) (w2.alloc (.cells #[.int .i64 p.1.1,.string (mkS p.1.2)] 44)):=hJ _ w2 _ none hJ2 ⟨rfl,rfl,rfl,by rw [Av]; omega,fun k hk _=>Aq _ _ hk⟩ (fun r e=>by cases e);have hS2:w2.heap.size≥W.heap.size:=Nat.le_trans hsz hgb.size;obtain ⟨fn,tmps,assign,body,hy,hR⟩:=hY (L.map (·.1)) p.1 _ hJ3 (by rw [List.length_map]; omega);have hy':(Instr.yield l #[.agg #[.int .i64 p.1.1,.string (mkS p.1.2)]]).run Tryz.prog (w2.alloc (.cells #[.int .i64 p.1.1,.string (mkS p.1.2)] 44))=.ok (.round l fn tmps assign body) (w2.alloc (.cells #[.int .i64 p.1.1,.string (mkS p.1.2)] 44)):=hy;have hit3:∀ W3,KeepsWalks (w2.alloc (.cells #[.int .i64 p.1.1,.string (mkS p.1.2)] 44)) W3→W3.heap[W.heap.size]?=some (.mapIter (some g) clock (An (D++[e])) clock)∧W3.heap[g]?=some (.map es clock)∧W.heap.size≤W3.heap.size:=fun W3 hk =>
    ⟨hk.same _ _ (by rw [Aq _ _ hl2]; exact hit2) rfl,hk.same _ _ (by rw [Aq _ _ (Ax hgw2)]; exact hgw2) rfl,by have:=hk.size; rw [Av] at this; omega⟩
   have hHold:(∀ W3,J (L.map (·.1)++[p.1]) W3→KeepsWalks (w2.alloc (.cells #[.int .i64 p.1.1,.string (mkS p.1.2)] 44)) W3 →
     (∃ (D:List MapEntry) (L:List (Par×Value)),W3.heap[W.heap.size]?=some (.mapIter (some g) clock (An D) clock)∧C3 Ak es lk D L∧W3.heap[g]?=some (.map es clock)∧W.heap.size≤W3.heap.size∧J (L.map (·.1)) W3)∧P6 es W.heap.size W3 < P6 es W.heap.size wr):=fun W3 hJ4 hk4=>by
    obtain ⟨a1,a2,a3⟩:=hit3 W3 hk4;refine ⟨⟨D++[e],L++[p],a1,hS',a2,a3,by rw [List.map_append]; exact hJ4⟩,?_⟩;rw [Np a1,Np hit];have:=hi.lt;simp; omega
   have hHold:=Lib.hid hHold;clear hS' hS hJs hit hy hJ3 hJ2 hit3 hlen hi hgb hnew hp hY hJ
   gi_wp2
   refine ⟨fun h=>(by cases h),hR.mono ?_⟩;rintro e3 W3 ⟨rfl,hJ4,hk4⟩;have hfin:=hHold.out W3 hJ4 hk4;clear hHold hJ4 hk4
   gi_wp2
   exact hfin
end
section
open Go.RowKit Go.MapKept Go.Shelf
abbrev Au (p:Par):List Value:=[.int .i64 p.1,.string (mkS p.2)]
def Kk:Code:=Code.region 2 #[{ dst:=some 5,op:=Op.alloc 44,type:=0,pos := "iter.go:51",after:=#[],guard:=none },{ dst:=none,op:=Op.store 44 (Operand.tmp 5) (Operand.tmp 7),type:=0,pos := "iter.go:51",after:=#[{ on:=0,ground:=Ground.data },{ on:=0,ground:=Ground.phase }],guard:=none }] false
def O6:Code:=Code.block 1 (Code.region 3 #[{ dst:=some 8,op:=Op.load 37 (Operand.tmp 2),type:=37,pos := "iter.go:52",after:=#[],guard:=none },{ dst:=some 9,op:=Op.load 44 (Operand.tmp 5),type:=44,pos := "iter.go:52",after:=#[],guard:=none },{ dst:=some 10,op:=Op.buildSlice 37 1 #[(0,Operand.tmp 9)],type:=37,pos := "iter.go:52",after:=#[{ on:=1,ground:=Ground.data }],guard:=none },{ dst:=some 11,op:=Op.call { callee:=Callee.builtin Builtin.append,args:=#[Operand.tmp 8,Operand.tmp 10],argTypes:=#[37,37] },type:=37,pos := "iter.go:52",after:=#[{ on:=0,ground:=Ground.data },{ on:=2,ground:=Ground.data }],guard:=none },{ dst:=none,op:=Op.store 37 (Operand.tmp 2) (Operand.tmp 11),type:=0,pos := "iter.go:52",after:=#[{ on:=3,ground:=Ground.data },{ on:=3,ground:=Ground.chain },{ on:=0,ground:=Ground.phase },{ on:=1,ground:=Ground.phase },{ on:=2,ground:=Ground.phase },{ on:=3,ground:=Ground.phase }],guard:=none }] false)
def Ed (fn:FuncId)(sv:Value)(Bs D:Nat)(st:LoopState)(pend:Option Code):Loop :=
 { state:=st,pending:=pend,fn,tmps:=#[.slice none 0 0,sv,.pointer (some ⟨Bs,0,none⟩),undef,.slice none 0 0,undef,sv,undef,undef,undef,undef,undef,undef],params:=#[7],assign:=Kk,body:=O6,defers:=D }
structure T7 (w0:World)(fn:FuncId)(sv:Value)(Bs l D:Nat)(ss:List Par)(W:World):Prop where
 box:∃ v,W.heap[Bs]?=some (.cells #[v] 37 (0,0))∧W.ownsRow w0.heap.size 44 2 v ss.length (ss.flatMap Au)∧(v=.slice none 0 0↔ss = [])
 L:W.heap[l]?=some (.loop (Ed fn sv Bs D .ready none))
 K:W.heap[D]?=some (.deferred (some []))
 below:Below w0.heap.size w0 W
theorem Nf (w0:World)(fn:FuncId)(sv:Value)(Bs l D B:Nat)(hB:w0.heap.size≤B):AbidesFrom B (T7 w0 fn sv Bs l D):=fun s W W' row h hg hrow=>by
 have hrow':∀ r,row=some r→∃ o:Obj,W.heap[r]?=some o∧o.isWalk=true:=fun r e=>(hrow r e).2;obtain ⟨v,hv,hr,hn⟩:=h.box;exact ⟨⟨v,(grownBy_keeps hg hrow' hv rfl).trans hv,ownsRow_abides_a hr hg hrow',hn⟩,(grownBy_keeps hg hrow' h.L rfl).trans h.L,(grownBy_keeps hg hrow' h.K rfl).trans h.K,
  h.below.grown hg h.below.size (fun k e=>Nat.le_trans hB (hrow k e).1)⟩
theorem Aay (w:World)(x y:Value)(t:TypeId):∀ j u,[x,y][j]?=some u→(w.alloc (.cells #[x,y] t)).cell? ((⟨w.heap.size,0,none⟩:Addr).add j)=some u:=by
 intro j u hj;have h:=Bg w (.cells #[x,y] t)
 match j,hj with
 | 0,hj =>
  rw [show ((⟨w.heap.size,0,none⟩:Addr).add 0)=⟨w.heap.size,0,none⟩ from rfl];unfold World.cell?; rw [h]; simpa using hj
 | 1,hj =>
  rw [show ((⟨w.heap.size,0,none⟩:Addr).add 1)=⟨w.heap.size,1,none⟩ from rfl];unfold World.cell?; rw [h]; simpa using hj
 | j+2,hj=>simp at hj
set_option maxRecDepth 100000 in
theorem Abo (m : Nat) (w0 : World) (fn : FuncId) (sv : Value) (Bs l D : Nat) (hBl : Bs ≠ l) (hDl : D ≠ l) (hDB : D ≠ Bs) (h0B : w0.heap.size ≤ Bs) (h0l : w0.heap.size ≤ l)
    (N : Nat) (hN : N ≤ 1000000) (ss : List Par) (x : Par) (W00 : World) (h00 : T7 w0 fn sv Bs l D ss W00) (hlen : ss.length < N) :
    YieldAt Fence.wide m Tryz.prog l #[Ak x] W00 fun e W' => e = .returned (.bool true) ∧ T7 w0 fn sv Bs l D (ss ++ [x]) W' ∧ KeepsWalks W00 W' := by
  have mixed : Tryz.prog.follows .mixedOrders = true := by kernel_rfl
  have hne : 37 ≠ 44 := by decide
  obtain ⟨i0, hi, hz0, hz1, hz2⟩ : ∃ i, Tryz.prog.info? 44 = some i ∧ i.zero = some (.agg #[.int .i64 0, .string ⟨#[]⟩]) ∧ i.size = 2 ∧ i.bytes = 24 := ⟨_, rfl, by kernel_rfl, by kernel_rfl, by kernel_rfl⟩
  obtain ⟨xf, xc⟩ := x
  have hmax : maxLen ≥ 1000000 := by decide
  refine ⟨fn, #[.slice none 0 0, sv, .pointer (some ⟨Bs, 0, none⟩), undef, .slice none 0 0, undef, sv, Ak (xf, xc), undef, undef, undef, undef, undef], Kk, O6, by simpa [Ed] using run_yield (P := Tryz.prog) (args := #[Ak (xf, xc)]) h00.L rfl, roundIn_of_wpIn trivial ?_⟩
  obtain ⟨W, hW⟩ : ∃ W, W00.alloc (.cells #[.int .i64 xf, .string (mkS xc)] 44) = W := ⟨_, rfl⟩
  have h : T7 w0 fn sv Bs l D ss W := by
    refine Nf w0 fn sv Bs l D w0.heap.size (Nat.le_refl _) ss W00 W none h00 ?_ (fun r e => by cases e)
    rw [← hW]; exact ⟨rfl, rfl, rfl, by rw [Av]; omega, fun k hk _ => Aq _ _ hk⟩
  have hkW : W.heap[W00.heap.size]? = some (.cells #[.int .i64 xf, .string (mkS xc)] 44 (0, 0)) := by rw [← hW]; exact Bg _ _
  have hk00 : KeepsWalks W00 W := by rw [← hW]; exact KeepsWalks.alloc _ _
  obtain ⟨v, hv, hrow, _⟩ := h.box
  have hl : l < W.heap.size := (Array.getElem?_eq_some_iff.1 h.L).1
  have hl0 : l < W00.heap.size := Ax h00.L
  have hbr := run_beginRound (P := Tryz.prog) h.L rfl
  obtain ⟨W2, hW2⟩ : ∃ W2, W.putObj l (.loop { Ed fn sv Bs D .ready none with state := .busy }) = W2 := ⟨_, rfl⟩
  rw [hW2] at hbr
  have hg2 : W.grownBy W2 (some l) := by rw [← hW2]; exact grownBy_putObj_a _ _ _
  have hk2 : KeepsWalks W W2 := by rw [← hW2]; exact KeepsWalks.putObj _ h.L rfl
  have hv2 : W2.heap[Bs]? = some (.cells #[v] 37 (0, 0)) := by rw [← hW2]; exact (World.putObj_heap_other hBl).trans hv
  have hK2 : W2.heap[D]? = some (.deferred (some [])) := by rw [← hW2]; exact (World.putObj_heap_other hDl).trans h.K
  have hL2 : W2.heap[l]? = some (.loop { Ed fn sv Bs D .ready none with state := .busy }) := by rw [← hW2]; exact World.putObj_heap_same hl
  have hx2 : W2.heap[W00.heap.size]? = some (.cells #[.int .i64 xf, .string (mkS xc)] 44 (0, 0)) := by rw [← hW2]; exact (World.putObj_heap_other (by omega)).trans hkW
  have hrow2 : W2.ownsRow w0.heap.size 44 2 v ss.length (ss.flatMap Au) := hrow.kept hg2 (ownsRow_ne_a hrow h.L (fun cur e => by cases e))
  have hb2 : Below w0.heap.size w0 W2 := h.below.grown hg2 h.below.size (fun k e => by cases e; exact h0l)
  obtain ⟨hc2, hf2⟩ := cell_of_box_a hv2
  have hxc0 : W2.cell? ⟨W00.heap.size, 0, none⟩ = some (.int .i64 xf) := by simp [World.cell?, hx2]
  have hxc1 : W2.cell? ⟨W00.heap.size, 1, none⟩ = some (.string (mkS xc)) := by simp [World.cell?, hx2]
  have hBlt : Bs < W2.heap.size := (Array.getElem?_eq_some_iff.1 hv2).1
  have hl2 : l < W2.heap.size := (Array.getElem?_eq_some_iff.1 hL2).1
  have hDlt : D < W2.heap.size := (Array.getElem?_eq_some_iff.1 hK2).1
  have ne_of : ∀ {j : Nat} {o : Obj}, W2.heap[j]? = some o → (∀ cur, o ≠ .cells cur 44 (0, 0)) → some j ≠ v.ownBlock := fun hj hno => by
    rcases ownsRow_ne_a hrow2 hj hno with e | e
    · rw [e]; simp
    · exact fun e' => e e'.symm
  clear hW2
  unfold Kk
  rw [show Ak (xf, xc) = .agg #[.int .i64 xf, .string (mkS xc)] from rfl]
  gi_wp2_with gi_round_op_a
  unfold O6
  gi_wp2_with (first
    | (gi_at_builtin; refine wpListIn_append_own _ rfl _ _ 37 rfl w0.heap.size 44 i0 (.agg #[.int .i64 0, .string ⟨#[]⟩]) 2 24 (by kernel_rfl) hi hz0 hz1 hz2 rfl (by decide) _ _ _ rfl (hrow2.alloc _) ⟨W2.heap.size, 0, none⟩ 1 1 (Au (xf, xc)) rfl rfl (Aay _ _ _ _) (fun u hu => by simp at hu; rcases hu with rfl | rfl <;> rfl) (by omega) (by omega) (by have := hb2.size; simp; omega) ?_; intro v' w3 hown' hg3 hnil3
       have hv3 : w3.heap[Bs]? = some (.cells #[v] 37 (0, 0)) := (hg3.block Bs (by simp; omega) (ne_of hv2 (fun cur e => by cases e))).trans ((Below.heap_alloc _ _ Bs hBlt).trans hv2)
       obtain ⟨hc3, hf3⟩ := cell_of_box_a hv3
       obtain ⟨g', cap', cur', rfl, hbase', hgb', hr1, hr2, hr3, hr4⟩ : ∃ g' cap' cur', v' = .slice (some ⟨g', 0, none⟩) (ss.length + 1) cap' ∧ w0.heap.size ≤ g' ∧ w3.heap[g']? = some (.cells cur' 44 (0, 0)) ∧ ss.length + 1 ≤ cap' ∧ cap' ≤ maxLen ∧ cur'.size = cap' * 2 ∧ cur'.toList.take ((ss.length + 1) * 2) = ss.flatMap Au ++ Au (xf, xc) := by
         rcases hown'.2 with ⟨_, h0⟩ | h'
         · exact absurd h0 (by omega)
         · exact h'
       go_frame)
    | gi_round_op_a)
  have hg3' : (W2.alloc (.cells #[.int .i64 xf, .string (mkS xc)] 44)).grownBy w3 v.ownBlock := hg3
  have hL3 : w3.heap[l]? = some (.loop { Ed fn sv Bs D .ready none with state := .busy }) := (hg3'.block l (by simp; omega) (ne_of hL2 (fun cur e => by cases e))).trans ((Below.heap_alloc _ _ l hl2).trans hL2)
  have hK3 : w3.heap[D]? = some (.deferred (some [])) := (hg3'.block D (by simp; omega) (ne_of hK2 (fun cur e => by cases e))).trans ((Below.heap_alloc _ _ D hDlt).trans hK2)
  obtain ⟨w4, hw4⟩ : ∃ w4, w3.setCell ⟨Bs, 0, none⟩ (.slice (some ⟨g', 0, none⟩) (ss.length + 1) cap') = w4 := ⟨_, rfl⟩
  rw [hw4]
  have hg4 : w3.grownBy w4 (some Bs) := by rw [← hw4]; exact grownBy_setCell0_a _ _ _
  have hv4 : w4.heap[Bs]? = some (.cells #[.slice (some ⟨g', 0, none⟩) (ss.length + 1) cap'] 37 (0, 0)) := by rw [← hw4]; exact heap_setCell_box_a _ hv3
  have hL4 : w4.heap[l]? = some (.loop { Ed fn sv Bs D .ready none with state := .busy }) := (hg4.block l (Array.getElem?_eq_some_iff.1 hL3).1 (fun e => hBl (by cases e; rfl))).trans hL3
  have hK4 : w4.heap[D]? = some (.deferred (some [])) := (hg4.block D (Array.getElem?_eq_some_iff.1 hK3).1 (fun e => hDB (by cases e; rfl))).trans hK3
  have hrow4 := hown'.kept hg4 (ownsRow_ne_a hown' hv3 (fun cur e => hne (Obj.cells.inj e).2.1))
  have hl4 : l < w4.heap.size := (Array.getElem?_eq_some_iff.1 hL4).1
  have hb3 : Below w0.heap.size w0 w3 := (hb2.alloc hb2.size _).grown hg3' (by have := hb2.size; simp; omega) (fun k e => (hrow2.lt k e).1)
  have hb4 : Below w0.heap.size w0 w4 := hb3.grown hg4 hb3.size (fun k e => by cases e; exact h0B)
  have hk4 : KeepsWalks W w4 := ((hk2.trans (KeepsWalks.alloc _ _)).trans (KeepsWalks.of_grownBy hg3' (ownsRow_not_walk_a (hrow2.alloc _)))).trans (by rw [← hw4]; exact KeepsWalks.setCell _ _ _)
  clear hw4
  refine ⟨_, _, run_endRound none hL4, rfl, ⟨⟨_, (World.putObj_heap_other hBl).trans hv4, ?_, by simp⟩, World.putObj_heap_same hl4, (World.putObj_heap_other hDl).trans hK4, hb4.grown (grownBy_putObj_a _ _ _) hb4.size (fun k e => by cases e; exact h0l)⟩, hk00.trans (hk4.trans (KeepsWalks.putObj _ hL4 rfl))⟩
  have := hrow4.kept (grownBy_putObj_a w4 l (.loop { { Ed fn sv Bs D .ready none with state := .busy } with state := if (none : Option Code).isNone then .ready else .done, pending := none })) (ownsRow_ne_a hrow4 hL4 (fun cur e => by cases e))
  simpa using this
def Agf (lk:List (Par×Value))(ss:List Par):Prop:=ss.Nodup∧∀ k,k∈ss↔k∈lk.map (·.1)
set_option maxRecDepth 100000 in
theorem W5 (n g : Nat) (lb : Array Value) (eg : ∀ args w, (callFunc g args).run Tryz.prog w = .ok (.enter g args) w) (S : List Par → Prop) (N : Nat) (hN : N ≤ 1000000) (w : World) (hseq : SeqGives Fence.wide (n - 1) Tryz.prog g lb Ak S N w) :
    CallsIn Fence.wide n Tryz.prog 264 #[.slice none 0 0, .func (.func g) #[] lb] w fun e w' => ∃ (v : Value) (ss : List Par), e = .returned v ∧ S ss ∧ w'.ownsRow w.heap.size 44 2 v ss.length (ss.flatMap Au) ∧ (v = .slice none 0 0 ↔ ss = []) ∧ Below w.heap.size w w' := by
  have mixed : Tryz.prog.follows .mixedOrders = true := by kernel_rfl
  have hne : 37 ≠ 44 := by decide
  have hro : Fence.wide.round = none := rfl
  refine callsIn_of_wp_marks Tryz.func264 rfl trivial ?_ rfl
  simp only [Tryz.ntmps264, List.size_toArray, List.length_cons, List.length_nil, Nat.reduceAdd, Nat.reduceSub, Array.replicate_succ, Array.replicate_zero, List.push_toArray, List.append_toArray, List.nil_append, List.cons_append]
  gi_wp2
  refine wpIn_rangeFunc ?_
  intro fn hfn
  rw [hro]
  obtain ⟨W0, hW0⟩ : ∃ W0, w.alloc (.cells #[.slice none 0 0] 37) = W0 := ⟨_, rfl⟩
  have hs0 : W0.heap.size = w.heap.size + 1 := by rw [← hW0]; simp
  have hv0 : W0.heap[w.heap.size]? = some (.cells #[.slice none 0 0] 37 (0, 0)) := by rw [← hW0]; exact World.alloc_heap_new w _
  have hb0 : Below w.heap.size w W0 := by rw [← hW0]; exact (Below.refl _ w).alloc (Nat.le_refl _) _
  rw [hW0]
  obtain ⟨W1, hW1⟩ : ∃ W1, (W0.alloc (.deferred (some []))).alloc (.loop (Ed fn (.func (.func g) #[] lb) w.heap.size W0.heap.size .ready none)) = W1 := ⟨_, rfl⟩
  have hold : ∀ k, k < W0.heap.size → W1.heap[k]? = W0.heap[k]? := fun k hk => by
    rw [← hW1]; exact (Below.heap_alloc _ _ k (by simp; omega)).trans (Below.heap_alloc _ _ k hk)
  have hb1 : Below w.heap.size w W1 := by rw [← hW1]; exact (hb0.alloc hb0.size _).alloc (by have := hb0.size; simp; omega) _
  have hs1 : W1.heap.size = W0.heap.size + 2 := by rw [← hW1]; simp
  have hM : T7 w fn (.func (.func g) #[] lb) w.heap.size (W0.heap.size + 1) W0.heap.size [] W1 :=
    ⟨⟨_, (hold w.heap.size (by omega)).trans hv0, ⟨rfl, .inl ⟨rfl, rfl⟩⟩, by simp⟩,
     by rw [← hW1]; have := World.alloc_heap_new (W0.alloc (.deferred (some []))) (.loop (Ed fn (.func (.func g) #[] lb) w.heap.size W0.heap.size .ready none)); rwa [World.size_alloc] at this,
     by rw [← hW1]; exact (Below.heap_alloc _ _ _ (by simp)).trans (World.alloc_heap_new W0 _), hb1⟩
  refine ⟨W0.heap.size + 1, [{ target := .collected W0.heap.size, args := #[] }], W1, { target := .fn (.func g) lb, args := #[.func (.yield (W0.heap.size + 1)) #[] #[]] }, W1, g,
    #[.func (.yield (W0.heap.size + 1)) #[] #[]] ++ lb, W1, ?_, ?_, ?_, ?_, fun h => (by cases h), ?_⟩
  · rw [← hW1]; exact run_enterLoop_outer _ _ _ _ _
  · simp [resolve, go_sem]
  · intro f' hf'; exact trivial
  · simp [invoke, go_sem, eg]
  · refine (hseq (W0.heap.size + 1) (T7 w fn (.func (.func g) #[] lb) w.heap.size (W0.heap.size + 1) W0.heap.size) W1 hb1 (Nf _ _ _ _ _ _ _ hb1.size)
      (fun pre x W hJ hl => Abo (n - 1 - 1) w fn _ w.heap.size (W0.heap.size + 1) W0.heap.size (by omega) (by omega) (by omega) (Nat.le_refl _) (by omega) N hN pre x W hJ hl) hM).mono ?_
    rintro e W2 ⟨⟨v0, rfl⟩, ss, hS, h2⟩
    obtain ⟨v, hv, hrow, hnil⟩ := h2.box
    have hend := run_endLoop (P := Tryz.prog) h2.L (by simp [Ed])
    obtain ⟨W3, hW3⟩ : ∃ W3, W2.putObj (W0.heap.size + 1) (.loop { Ed fn (.func (.func g) #[] lb) w.heap.size W0.heap.size .ready none with state := .exhausted }) = W3 := ⟨_, rfl⟩
    rw [hW3] at hend
    have hg3 : W2.grownBy W3 (some (W0.heap.size + 1)) := by rw [← hW3]; exact grownBy_putObj_a _ _ _
    have hv3 : W3.heap[w.heap.size]? = some (.cells #[v] 37 (0, 0)) := by rw [← hW3]; exact (World.putObj_heap_other (by omega)).trans hv
    have hK3 : W3.heap[W0.heap.size]? = some (.deferred (some [])) := by rw [← hW3]; exact (World.putObj_heap_other (by omega)).trans h2.K
    have hrow3 := hrow.kept hg3 (ownsRow_ne_a hrow h2.L (fun cur e => by cases e))
    have hb3 : Below w.heap.size w W3 := h2.below.grown hg3 h2.below.size (fun k e => by cases e; omega)
    obtain ⟨hc3, hf3⟩ := cell_of_box_a hv3
    clear hW3
    refine ⟨none, W3, hend, ?_⟩
    gi_wp2
    rw [← hs0]
    refine ⟨by simp, .inl ⟨_, _, rfl, run_takeDeferred hK3, ?_⟩⟩
    exact ⟨_, results_tmp rfl _ _ _, v, ss, rfl, hS, hrow3.kept (grownBy_putObj_a _ _ _) (ownsRow_ne_a hrow3 hK3 (fun cur e => by cases e)), hnil, hb3.grown (grownBy_putObj_a _ _ _) hb3.size (fun k e => by cases e; omega)⟩
theorem Vp (n Bm g:Nat)(es:Array MapEntry)(clock:Nat)(lk:List (Par×Value))(hs:Stamped es clock)(hkv:es.toList.map (fun e=>(e.key,e.val))=lk.map (fun p=>(Ak p.1,p.2)))(hnd:(lk.map (·.1)).Nodup)(w:World)(hm:w.cell? ⟨Bm,0,none⟩=some (.map (some g)))(hBm:Bm < w.heap.size)(hg:w.heap[g]?=some (.map es clock)) :
  SeqGives Fence.wide n Tryz.prog 223 #[.pointer (some ⟨Bm,0,none⟩)] Ak (Agf lk) lk.length w:=fun l J W hW hJ hY h0=>by
 exact Ag1 n l Bm g es clock lk J hs hkv hnd hY W hJ ((hW.cell (p:=⟨Bm,0,none⟩) hBm).trans hm) ((hW.block g (Ax hg)).trans hg) h0
theorem Abu (g:Nat)(lb:Array Value)(eg:∀ args w,(callFunc g args).run Tryz.prog w=.ok (.enter g args) w)(S:List Par→Prop)(N:Nat)(hN:N≤1000000)(w:World)(hseq:SeqGives Fence.wide 0 Tryz.prog g lb Ak S N w) :
  Calls Tryz.prog 222 #[.func (.func g) #[] lb] w fun e w'=>∃ (v:Value) (ss:List Par),e=.returned v∧S ss∧w'.ownsRow w.heap.size 44 2 v ss.length (ss.flatMap Au)∧(v=.slice none 0 0↔ss = [])∧Below w.heap.size w w':=by
 have mixed:Tryz.prog.follows .mixedOrders=true:=by kernel_rfl
 have c1:=callsIn_wide.1 (W5 1 g lb eg S N hN w hseq);clear hseq
 go_enter Tryz.func222,Tryz.ntmps222
 go_wp2_with (go_at_call 264; refine c1.mono ?_; rintro e w' ⟨v,ss,rfl,hS,hrow,hnil,hb⟩)
 go_ret
 exact ⟨v,ss,rfl,hS,hrow,hnil,hb⟩
end
section
open Go.RowKit Go.MapKept Go.Shelf
abbrev C0 (p:Par×Par):List Value:=[.int .i64 p.1.1,.string (mkS p.1.2),.int .i64 p.2.1,.string (mkS p.2.2)]
def Mo:Code:=Code.region 2 #[{ dst:=some 5,op:=Op.alloc 188,type:=0,pos := "iter.go:51",after:=#[],guard:=none },{ dst:=none,op:=Op.store 188 (Operand.tmp 5) (Operand.tmp 7),type:=0,pos := "iter.go:51",after:=#[{ on:=0,ground:=Ground.data },{ on:=0,ground:=Ground.phase }],guard:=none }] false
def Ss:Code:=Code.block 1 (Code.region 3 #[{ dst:=some 8,op:=Op.load 233 (Operand.tmp 2),type:=233,pos := "iter.go:52",after:=#[],guard:=none },{ dst:=some 9,op:=Op.load 188 (Operand.tmp 5),type:=188,pos := "iter.go:52",after:=#[],guard:=none },{ dst:=some 10,op:=Op.buildSlice 233 1 #[(0,Operand.tmp 9)],type:=233,pos := "iter.go:52",after:=#[{ on:=1,ground:=Ground.data }],guard:=none },{ dst:=some 11,op:=Op.call { callee:=Callee.builtin Builtin.append,args:=#[Operand.tmp 8,Operand.tmp 10],argTypes:=#[233,233] },type:=233,pos := "iter.go:52",after:=#[{ on:=0,ground:=Ground.data },{ on:=2,ground:=Ground.data }],guard:=none },{ dst:=none,op:=Op.store 233 (Operand.tmp 2) (Operand.tmp 11),type:=0,pos := "iter.go:52",after:=#[{ on:=3,ground:=Ground.data },{ on:=3,ground:=Ground.chain },{ on:=0,ground:=Ground.phase },{ on:=1,ground:=Ground.phase },{ on:=2,ground:=Ground.phase },{ on:=3,ground:=Ground.phase }],guard:=none }] false)
def Fs (fn:FuncId)(sv:Value)(Bs D:Nat)(st:LoopState)(pend:Option Code):Loop :=
 { state:=st,pending:=pend,fn,tmps:=#[.slice none 0 0,sv,.pointer (some ⟨Bs,0,none⟩),undef,.slice none 0 0,undef,sv,undef,undef,undef,undef,undef,undef],params:=#[7],assign:=Mo,body:=Ss,defers:=D }
structure Aex (w0:World)(fn:FuncId)(sv:Value)(Bs l D:Nat)(ss:List (Par×Par))(W:World):Prop where
 box:∃ v,W.heap[Bs]?=some (.cells #[v] 233 (0,0))∧W.ownsRow w0.heap.size 188 4 v ss.length (ss.flatMap C0)∧(v=.slice none 0 0↔ss = [])
 L:W.heap[l]?=some (.loop (Fs fn sv Bs D .ready none))
 K:W.heap[D]?=some (.deferred (some []))
 below:Below w0.heap.size w0 W
theorem Pr (w0:World)(fn:FuncId)(sv:Value)(Bs l D B:Nat)(hB:w0.heap.size≤B):AbidesFrom B (Aex w0 fn sv Bs l D):=fun s W W' row h hg hrow=>by
 have hrow':∀ r,row=some r→∃ o:Obj,W.heap[r]?=some o∧o.isWalk=true:=fun r e=>(hrow r e).2;obtain ⟨v,hv,hr,hn⟩:=h.box;exact ⟨⟨v,(grownBy_keeps hg hrow' hv rfl).trans hv,ownsRow_abides_a hr hg hrow',hn⟩,(grownBy_keeps hg hrow' h.L rfl).trans h.L,(grownBy_keeps hg hrow' h.K rfl).trans h.K,
  h.below.grown hg h.below.size (fun k e=>Nat.le_trans hB (hrow k e).1)⟩
theorem Aa9 (w:World)(x y x' y':Value)(t:TypeId):∀ j u,[x,y,x',y'][j]?=some u→(w.alloc (.cells #[x,y,x',y'] t)).cell? ((⟨w.heap.size,0,none⟩:Addr).add j)=some u:=by
 intro j u hj;have h:=Bg w (.cells #[x,y,x',y'] t)
 match j,hj with
 | 0,hj =>
  rw [show ((⟨w.heap.size,0,none⟩:Addr).add 0)=⟨w.heap.size,0,none⟩ from rfl];unfold World.cell?; rw [h]; simpa using hj
 | 1,hj =>
  rw [show ((⟨w.heap.size,0,none⟩:Addr).add 1)=⟨w.heap.size,1,none⟩ from rfl];unfold World.cell?; rw [h]; simpa using hj
 | 2,hj =>
  rw [show ((⟨w.heap.size,0,none⟩:Addr).add 2)=⟨w.heap.size,2,none⟩ from rfl];unfold World.cell?; rw [h]; simpa using hj
 | 3,hj =>
  rw [show ((⟨w.heap.size,0,none⟩:Addr).add 3)=⟨w.heap.size,3,none⟩ from rfl];unfold World.cell?; rw [h]; simpa using hj
 | j+4,hj=>simp at hj
set_option maxRecDepth 100000 in
theorem Aev (m : Nat) (w0 : World) (fn : FuncId) (sv : Value) (Bs l D : Nat) (hBl : Bs ≠ l) (hDl : D ≠ l) (hDB : D ≠ Bs) (h0B : w0.heap.size ≤ Bs) (h0l : w0.heap.size ≤ l)
    (N : Nat) (hN : N ≤ 1000000) (ss : List (Par × Par)) (x : Par × Par) (W00 : World) (h00 : Aex w0 fn sv Bs l D ss W00) (hlen : ss.length < N) :
    YieldAt Fence.wide m Tryz.prog l #[prV x] W00 fun e W' => e = .returned (.bool true) ∧ Aex w0 fn sv Bs l D (ss ++ [x]) W' ∧ KeepsWalks W00 W' := by
  have mixed : Tryz.prog.follows .mixedOrders = true := by kernel_rfl
  have hne : 233 ≠ 188 := by decide
  obtain ⟨i0, hi, hz0, hz1, hz2⟩ : ∃ i, Tryz.prog.info? 188 = some i ∧ i.zero = some (.agg #[.int .i64 0, .string ⟨#[]⟩, .int .i64 0, .string ⟨#[]⟩]) ∧ i.size = 4 ∧ i.bytes = 48 := ⟨_, rfl, by kernel_rfl, by kernel_rfl, by kernel_rfl⟩
  obtain ⟨⟨xf, xc⟩, ⟨yf, yc⟩⟩ := x
  have hmax : maxLen ≥ 1000000 := by decide
  refine ⟨fn, #[.slice none 0 0, sv, .pointer (some ⟨Bs, 0, none⟩), undef, .slice none 0 0, undef, sv, prV ((xf, xc), (yf, yc)), undef, undef, undef, undef, undef], Mo, Ss, by simpa [Fs] using run_yield (P := Tryz.prog) (args := #[prV ((xf, xc), (yf, yc))]) h00.L rfl, roundIn_of_wpIn trivial ?_⟩
  obtain ⟨W, hW⟩ : ∃ W, W00.alloc (.cells #[.int .i64 xf, .string (mkS xc), .int .i64 yf, .string (mkS yc)] 188) = W := ⟨_, rfl⟩
  have h : Aex w0 fn sv Bs l D ss W := by
    refine Pr w0 fn sv Bs l D w0.heap.size (Nat.le_refl _) ss W00 W none h00 ?_ (fun r e => by cases e)
    rw [← hW]; exact ⟨rfl, rfl, rfl, by rw [Av]; omega, fun k hk _ => Aq _ _ hk⟩
  have hkW : W.heap[W00.heap.size]? = some (.cells #[.int .i64 xf, .string (mkS xc), .int .i64 yf, .string (mkS yc)] 188 (0, 0)) := by rw [← hW]; exact Bg _ _
  have hk00 : KeepsWalks W00 W := by rw [← hW]; exact KeepsWalks.alloc _ _
  obtain ⟨v, hv, hrow, _⟩ := h.box
  have hl : l < W.heap.size := (Array.getElem?_eq_some_iff.1 h.L).1
  have hl0 : l < W00.heap.size := Ax h00.L
  have hbr := run_beginRound (P := Tryz.prog) h.L rfl
  obtain ⟨W2, hW2⟩ : ∃ W2, W.putObj l (.loop { Fs fn sv Bs D .ready none with state := .busy }) = W2 := ⟨_, rfl⟩
  rw [hW2] at hbr
  have hg2 : W.grownBy W2 (some l) := by rw [← hW2]; exact grownBy_putObj_a _ _ _
  have hk2 : KeepsWalks W W2 := by rw [← hW2]; exact KeepsWalks.putObj _ h.L rfl
  have hv2 : W2.heap[Bs]? = some (.cells #[v] 233 (0, 0)) := by rw [← hW2]; exact (World.putObj_heap_other hBl).trans hv
  have hK2 : W2.heap[D]? = some (.deferred (some [])) := by rw [← hW2]; exact (World.putObj_heap_other hDl).trans h.K
  have hL2 : W2.heap[l]? = some (.loop { Fs fn sv Bs D .ready none with state := .busy }) := by rw [← hW2]; exact World.putObj_heap_same hl
  have hx2 : W2.heap[W00.heap.size]? = some (.cells #[.int .i64 xf, .string (mkS xc), .int .i64 yf, .string (mkS yc)] 188 (0, 0)) := by rw [← hW2]; exact (World.putObj_heap_other (by omega)).trans hkW
  have hrow2 : W2.ownsRow w0.heap.size 188 4 v ss.length (ss.flatMap C0) := hrow.kept hg2 (ownsRow_ne_a hrow h.L (fun cur e => by cases e))
  have hb2 : Below w0.heap.size w0 W2 := h.below.grown hg2 h.below.size (fun k e => by cases e; exact h0l)
  obtain ⟨hc2, hf2⟩ := cell_of_box_a hv2
  have hxc0 : W2.cell? ⟨W00.heap.size, 0, none⟩ = some (.int .i64 xf) := by simp [World.cell?, hx2]
  have hxc1 : W2.cell? ⟨W00.heap.size, 1, none⟩ = some (.string (mkS xc)) := by simp [World.cell?, hx2]
  have hxc2 : W2.cell? ⟨W00.heap.size, 2, none⟩ = some (.int .i64 yf) := by simp [World.cell?, hx2]
  have hxc3 : W2.cell? ⟨W00.heap.size, 3, none⟩ = some (.string (mkS yc)) := by simp [World.cell?, hx2]
  have hBlt : Bs < W2.heap.size := (Array.getElem?_eq_some_iff.1 hv2).1
  have hl2 : l < W2.heap.size := (Array.getElem?_eq_some_iff.1 hL2).1
  have hDlt : D < W2.heap.size := (Array.getElem?_eq_some_iff.1 hK2).1
  have ne_of : ∀ {j : Nat} {o : Obj}, W2.heap[j]? = some o → (∀ cur, o ≠ .cells cur 188 (0, 0)) → some j ≠ v.ownBlock := fun hj hno => by
    rcases ownsRow_ne_a hrow2 hj hno with e | e
    · rw [e]; simp
    · exact fun e' => e e'.symm
  clear hW2
  unfold Mo
  rw [show prV ((xf, xc), (yf, yc)) = .agg #[.int .i64 xf, .string (mkS xc), .int .i64 yf, .string (mkS yc)] from rfl]
  gi_wp2_with gi_round_op_a
  unfold Ss
  gi_wp2_with (first
    | (gi_at_builtin; refine wpListIn_append_own _ rfl _ _ 233 rfl w0.heap.size 188 i0 (.agg #[.int .i64 0, .string ⟨#[]⟩, .int .i64 0, .string ⟨#[]⟩]) 4 48 (by kernel_rfl) hi hz0 hz1 hz2 rfl (by decide) _ _ _ rfl (hrow2.alloc _) ⟨W2.heap.size, 0, none⟩ 1 1 (C0 ((xf, xc), (yf, yc))) rfl rfl (Aa9 _ _ _ _ _ _) (fun u hu => by simp at hu; rcases hu with rfl | rfl | rfl | rfl <;> rfl) (by omega) (by omega) (by have := hb2.size; simp; omega) ?_; intro v' w3 hown' hg3 hnil3
       have hv3 : w3.heap[Bs]? = some (.cells #[v] 233 (0, 0)) := (hg3.block Bs (by simp; omega) (ne_of hv2 (fun cur e => by cases e))).trans ((Below.heap_alloc _ _ Bs hBlt).trans hv2)
       obtain ⟨hc3, hf3⟩ := cell_of_box_a hv3
       obtain ⟨g', cap', cur', rfl, hbase', hgb', hr1, hr2, hr3, hr4⟩ : ∃ g' cap' cur', v' = .slice (some ⟨g', 0, none⟩) (ss.length + 1) cap' ∧ w0.heap.size ≤ g' ∧ w3.heap[g']? = some (.cells cur' 188 (0, 0)) ∧ ss.length + 1 ≤ cap' ∧ cap' ≤ maxLen ∧ cur'.size = cap' * 4 ∧ cur'.toList.take ((ss.length + 1) * 4) = ss.flatMap C0 ++ C0 ((xf, xc), (yf, yc)) := by
         rcases hown'.2 with ⟨_, h0⟩ | h'
         · exact absurd h0 (by omega)
         · exact h'
       go_frame)
    | gi_round_op_a)
  have hg3' : (W2.alloc (.cells #[.int .i64 xf, .string (mkS xc), .int .i64 yf, .string (mkS yc)] 188)).grownBy w3 v.ownBlock := hg3
  have hL3 : w3.heap[l]? = some (.loop { Fs fn sv Bs D .ready none with state := .busy }) := (hg3'.block l (by simp; omega) (ne_of hL2 (fun cur e => by cases e))).trans ((Below.heap_alloc _ _ l hl2).trans hL2)
  have hK3 : w3.heap[D]? = some (.deferred (some [])) := (hg3'.block D (by simp; omega) (ne_of hK2 (fun cur e => by cases e))).trans ((Below.heap_alloc _ _ D hDlt).trans hK2)
  obtain ⟨w4, hw4⟩ : ∃ w4, w3.setCell ⟨Bs, 0, none⟩ (.slice (some ⟨g', 0, none⟩) (ss.length + 1) cap') = w4 := ⟨_, rfl⟩
  rw [hw4]
  have hg4 : w3.grownBy w4 (some Bs) := by rw [← hw4]; exact grownBy_setCell0_a _ _ _
  have hv4 : w4.heap[Bs]? = some (.cells #[.slice (some ⟨g', 0, none⟩) (ss.length + 1) cap'] 233 (0, 0)) := by rw [← hw4]; exact heap_setCell_box_a _ hv3
  have hL4 : w4.heap[l]? = some (.loop { Fs fn sv Bs D .ready none with state := .busy }) := (hg4.block l (Array.getElem?_eq_some_iff.1 hL3).1 (fun e => hBl (by cases e; rfl))).trans hL3
  have hK4 : w4.heap[D]? = some (.deferred (some [])) := (hg4.block D (Array.getElem?_eq_some_iff.1 hK3).1 (fun e => hDB (by cases e; rfl))).trans hK3
  have hrow4 := hown'.kept hg4 (ownsRow_ne_a hown' hv3 (fun cur e => hne (Obj.cells.inj e).2.1))
  have hl4 : l < w4.heap.size := (Array.getElem?_eq_some_iff.1 hL4).1
  have hb3 : Below w0.heap.size w0 w3 := (hb2.alloc hb2.size _).grown hg3' (by have := hb2.size; simp; omega) (fun k e => (hrow2.lt k e).1)
  have hb4 : Below w0.heap.size w0 w4 := hb3.grown hg4 hb3.size (fun k e => by cases e; exact h0B)
  have hk4 : KeepsWalks W w4 := ((hk2.trans (KeepsWalks.alloc _ _)).trans (KeepsWalks.of_grownBy hg3' (ownsRow_not_walk_a (hrow2.alloc _)))).trans (by rw [← hw4]; exact KeepsWalks.setCell _ _ _)
  clear hw4
  refine ⟨_, _, run_endRound none hL4, rfl, ⟨⟨_, (World.putObj_heap_other hBl).trans hv4, ?_, by simp⟩, World.putObj_heap_same hl4, (World.putObj_heap_other hDl).trans hK4, hb4.grown (grownBy_putObj_a _ _ _) hb4.size (fun k e => by cases e; exact h0l)⟩, hk00.trans (hk4.trans (KeepsWalks.putObj _ hL4 rfl))⟩
  have := hrow4.kept (grownBy_putObj_a w4 l (.loop { { Fs fn sv Bs D .ready none with state := .busy } with state := if (none : Option Code).isNone then .ready else .done, pending := none })) (ownsRow_ne_a hrow4 hL4 (fun cur e => by cases e))
  simpa using this
def Agj (lk:List ((Par×Par)×Value))(ss:List (Par×Par)):Prop:=ss.Nodup∧∀ k,k∈ss↔k∈lk.map (·.1)
set_option maxRecDepth 100000 in
theorem Yb (n g : Nat) (lb : Array Value) (eg : ∀ args w, (callFunc g args).run Tryz.prog w = .ok (.enter g args) w) (S : List (Par × Par) → Prop) (N : Nat) (hN : N ≤ 1000000) (w : World) (hseq : SeqGives Fence.wide (n - 1) Tryz.prog g lb prV S N w) :
    CallsIn Fence.wide n Tryz.prog 265 #[.slice none 0 0, .func (.func g) #[] lb] w fun e w' => ∃ (v : Value) (ss : List (Par × Par)), e = .returned v ∧ S ss ∧ w'.ownsRow w.heap.size 188 4 v ss.length (ss.flatMap C0) ∧ (v = .slice none 0 0 ↔ ss = []) ∧ Below w.heap.size w w' := by
  have mixed : Tryz.prog.follows .mixedOrders = true := by kernel_rfl
  have hne : 233 ≠ 188 := by decide
  have hro : Fence.wide.round = none := rfl
  refine callsIn_of_wp_marks Tryz.func265 rfl trivial ?_ rfl
  simp only [Tryz.ntmps265, List.size_toArray, List.length_cons, List.length_nil, Nat.reduceAdd, Nat.reduceSub, Array.replicate_succ, Array.replicate_zero, List.push_toArray, List.append_toArray, List.nil_append, List.cons_append]
  gi_wp2
  refine wpIn_rangeFunc ?_
  intro fn hfn
  rw [hro]
  obtain ⟨W0, hW0⟩ : ∃ W0, w.alloc (.cells #[.slice none 0 0] 233) = W0 := ⟨_, rfl⟩
  have hs0 : W0.heap.size = w.heap.size + 1 := by rw [← hW0]; simp
  have hv0 : W0.heap[w.heap.size]? = some (.cells #[.slice none 0 0] 233 (0, 0)) := by rw [← hW0]; exact World.alloc_heap_new w _
  have hb0 : Below w.heap.size w W0 := by rw [← hW0]; exact (Below.refl _ w).alloc (Nat.le_refl _) _
  rw [hW0]
  obtain ⟨W1, hW1⟩ : ∃ W1, (W0.alloc (.deferred (some []))).alloc (.loop (Fs fn (.func (.func g) #[] lb) w.heap.size W0.heap.size .ready none)) = W1 := ⟨_, rfl⟩
  have hold : ∀ k, k < W0.heap.size → W1.heap[k]? = W0.heap[k]? := fun k hk => by
    rw [← hW1]; exact (Below.heap_alloc _ _ k (by simp; omega)).trans (Below.heap_alloc _ _ k hk)
  have hb1 : Below w.heap.size w W1 := by rw [← hW1]; exact (hb0.alloc hb0.size _).alloc (by have := hb0.size; simp; omega) _
  have hs1 : W1.heap.size = W0.heap.size + 2 := by rw [← hW1]; simp
  have hM : Aex w fn (.func (.func g) #[] lb) w.heap.size (W0.heap.size + 1) W0.heap.size [] W1 :=
    ⟨⟨_, (hold w.heap.size (by omega)).trans hv0, ⟨rfl, .inl ⟨rfl, rfl⟩⟩, by simp⟩,
     by rw [← hW1]; have := World.alloc_heap_new (W0.alloc (.deferred (some []))) (.loop (Fs fn (.func (.func g) #[] lb) w.heap.size W0.heap.size .ready none)); rwa [World.size_alloc] at this,
     by rw [← hW1]; exact (Below.heap_alloc _ _ _ (by simp)).trans (World.alloc_heap_new W0 _), hb1⟩
  refine ⟨W0.heap.size + 1, [{ target := .collected W0.heap.size, args := #[] }], W1, { target := .fn (.func g) lb, args := #[.func (.yield (W0.heap.size + 1)) #[] #[]] }, W1, g,
    #[.func (.yield (W0.heap.size + 1)) #[] #[]] ++ lb, W1, ?_, ?_, ?_, ?_, fun h => (by cases h), ?_⟩
  · rw [← hW1]; exact run_enterLoop_outer _ _ _ _ _
  · simp [resolve, go_sem]
  · intro f' hf'; exact trivial
  · simp [invoke, go_sem, eg]
  · refine (hseq (W0.heap.size + 1) (Aex w fn (.func (.func g) #[] lb) w.heap.size (W0.heap.size + 1) W0.heap.size) W1 hb1 (Pr _ _ _ _ _ _ _ hb1.size)
      (fun pre x W hJ hl => Aev (n - 1 - 1) w fn _ w.heap.size (W0.heap.size + 1) W0.heap.size (by omega) (by omega) (by omega) (Nat.le_refl _) (by omega) N hN pre x W hJ hl) hM).mono ?_
    rintro e W2 ⟨⟨v0, rfl⟩, ss, hS, h2⟩
    obtain ⟨v, hv, hrow, hnil⟩ := h2.box
    have hend := run_endLoop (P := Tryz.prog) h2.L (by simp [Fs])
    obtain ⟨W3, hW3⟩ : ∃ W3, W2.putObj (W0.heap.size + 1) (.loop { Fs fn (.func (.func g) #[] lb) w.heap.size W0.heap.size .ready none with state := .exhausted }) = W3 := ⟨_, rfl⟩
    rw [hW3] at hend
    have hg3 : W2.grownBy W3 (some (W0.heap.size + 1)) := by rw [← hW3]; exact grownBy_putObj_a _ _ _
    have hv3 : W3.heap[w.heap.size]? = some (.cells #[v] 233 (0, 0)) := by rw [← hW3]; exact (World.putObj_heap_other (by omega)).trans hv
    have hK3 : W3.heap[W0.heap.size]? = some (.deferred (some [])) := by rw [← hW3]; exact (World.putObj_heap_other (by omega)).trans h2.K
    have hrow3 := hrow.kept hg3 (ownsRow_ne_a hrow h2.L (fun cur e => by cases e))
    have hb3 : Below w.heap.size w W3 := h2.below.grown hg3 h2.below.size (fun k e => by cases e; omega)
    obtain ⟨hc3, hf3⟩ := cell_of_box_a hv3
    clear hW3
    refine ⟨none, W3, hend, ?_⟩
    gi_wp2
    rw [← hs0]
    refine ⟨by simp, .inl ⟨_, _, rfl, run_takeDeferred hK3, ?_⟩⟩
    exact ⟨_, results_tmp rfl _ _ _, v, ss, rfl, hS, hrow3.kept (grownBy_putObj_a _ _ _) (ownsRow_ne_a hrow3 hK3 (fun cur e => by cases e)), hnil, hb3.grown (grownBy_putObj_a _ _ _) hb3.size (fun k e => by cases e; omega)⟩
theorem Yz (n Bm g:Nat)(es:Array MapEntry)(clock:Nat)(lk:List ((Par×Par)×Value))(hs:Stamped es clock)(hkv:es.toList.map (fun e=>(e.key,e.val))=lk.map (fun p=>(prV p.1,p.2)))(hnd:(lk.map (·.1)).Nodup)(w:World)(hm:w.cell? ⟨Bm,0,none⟩=some (.map (some g)))(hBm:Bm < w.heap.size)(hg:w.heap[g]?=some (.map es clock)) :
  SeqGives Fence.wide n Tryz.prog 226 #[.pointer (some ⟨Bm,0,none⟩)] prV (Agj lk) lk.length w:=fun l J W hW hJ hY h0=>by
 exact Ako n l Bm g es clock lk J hs hkv hnd hY W hJ ((hW.cell (p:=⟨Bm,0,none⟩) hBm).trans hm) ((hW.block g (Ax hg)).trans hg) h0
theorem Aey (g:Nat)(lb:Array Value)(eg:∀ args w,(callFunc g args).run Tryz.prog w=.ok (.enter g args) w)(S:List (Par×Par)→Prop)(N:Nat)(hN:N≤1000000)(w:World)(hseq:SeqGives Fence.wide 0 Tryz.prog g lb prV S N w) :
  Calls Tryz.prog 224 #[.func (.func g) #[] lb] w fun e w'=>∃ (v:Value) (ss:List (Par×Par)),e=.returned v∧S ss∧w'.ownsRow w.heap.size 188 4 v ss.length (ss.flatMap C0)∧(v=.slice none 0 0↔ss = [])∧Below w.heap.size w w':=by
 have mixed:Tryz.prog.follows .mixedOrders=true:=by kernel_rfl
 have c1:=callsIn_wide.1 (Yb 1 g lb eg S N hN w hseq);clear hseq
 go_enter Tryz.func224,Tryz.ntmps224
 go_wp2_with (go_at_call 265; refine c1.mono ?_; rintro e w' ⟨v,ss,rfl,hS,hrow,hnil,hb⟩)
 go_ret
 exact ⟨v,ss,rfl,hS,hrow,hnil,hb⟩
end
end Go.Proofs.YtnlfnomchebmcaaGreatDoor
section
namespace Go.Proofs
open Go.Shelf
def Tryz.sortPar_ren:Go.Shelf.Ren:=⟨fun | 6=>171 | 15=>213 | 14=>212 | 28=>256 | 29=>257 | 20=>248 | 21=>249 | 22=>250 | 23=>251 | 24=>252 | 25=>253 | 26=>254 | 27=>255 | 46=>280 | 47=>281 | 48=>282 | 49=>283 | 50=>284 | 57=>307 | n=>n,fun | 22=>37 | 24=>44 | 25=>219 | 3=>3 | 39=>263 | 0=>0 | 53=>304 | 55=>214 | 4=>4 | 46=>298 | 45=>297 | 50=>222 | 5=>5 | 9=>9 | 66=>322 | 70=>325 | 76=>340 | 77=>341 | n=>n,fun | n=>n⟩
theorem Tryz.sortPar:Go.Proofs.SlLaysF0.n6 Tryz.prog Tryz.sortPar_ren:={
 mixed:=by kernel_rfl
 f6:=⟨Tryz.f171.name,by decide,Tryz.func171.trans (congrArg some (by kernel_rfl))⟩
 f14:=⟨Tryz.f212.name,by decide,Tryz.func212.trans (congrArg some (by kernel_rfl))⟩
 f15:=Tryz.func213.trans (congrArg some (by kernel_rfl))
 f20:=⟨Tryz.f248.name,by decide,Tryz.func248.trans (congrArg some (by kernel_rfl))⟩
 f21:=⟨Tryz.f249.name,by decide,Tryz.func249.trans (congrArg some (by kernel_rfl))⟩
 f22:=⟨Tryz.f250.name,by decide,Tryz.func250.trans (congrArg some (by kernel_rfl))⟩
 f23:=⟨Tryz.f251.name,by decide,Tryz.func251.trans (congrArg some (by kernel_rfl))⟩
 f24:=⟨Tryz.f252.name,by decide,Tryz.func252.trans (congrArg some (by kernel_rfl))⟩
 f25:=⟨Tryz.f253.name,by decide,Tryz.func253.trans (congrArg some (by kernel_rfl))⟩
 f26:=⟨Tryz.f254.name,by decide,Tryz.func254.trans (congrArg some (by kernel_rfl))⟩
 f27:=⟨Tryz.f255.name,by decide,Tryz.func255.trans (congrArg some (by kernel_rfl))⟩
 f28:=Tryz.func256.trans (congrArg some (by kernel_rfl))
 f29:=Tryz.func257.trans (congrArg some (by kernel_rfl))
 f46:=⟨Tryz.f280.name,by decide,Tryz.func280.trans (congrArg some (by kernel_rfl))⟩
 f47:=Tryz.func281.trans (congrArg some (by kernel_rfl))
 f48:=Tryz.func282.trans (congrArg some (by kernel_rfl))
 f49:=⟨Tryz.f283.name,by decide,Tryz.func283.trans (congrArg some (by kernel_rfl))⟩
 f50:=⟨Tryz.f284.name,by decide,Tryz.func284.trans (congrArg some (by kernel_rfl))⟩
 f57:=⟨Tryz.f307.name,by decide,Tryz.func307.trans (congrArg some (by kernel_rfl))⟩
 t0:=Tryz.underlying0
 a0:=Tryz.isAgg0
 z0:=Tryz.sizeOf0
 v0:=Tryz.zeroValue0
 t3:=Tryz.underlying3
 a3:=Tryz.isAgg3
 z3:=Tryz.sizeOf3
 v3:=Tryz.zeroValue3
 t4:=Tryz.underlying4
 a4:=Tryz.isAgg4
 z4:=Tryz.sizeOf4
 v4:=Tryz.zeroValue4
 t5:=Tryz.underlying5
 a5:=Tryz.isAgg5
 z5:=Tryz.sizeOf5
 v5:=Tryz.zeroValue5
 t9:=Tryz.underlying9
 a9:=Tryz.isAgg9
 z9:=Tryz.sizeOf9
 v9:=Tryz.zeroValue9
 t22:=Tryz.underlying37
 a22:=Tryz.isAgg37
 z22:=Tryz.sizeOf37
 v22:=Tryz.zeroValue37
 t25:=Tryz.underlying219
 a25:=Tryz.isAgg219
 z25:=Tryz.sizeOf219
 v25:=Tryz.zeroValue219
 t39:=Tryz.underlying263
 a39:=Tryz.isAgg263
 z39:=Tryz.sizeOf263
 v39:=Tryz.zeroValue263
 t45:=Tryz.underlying297
 a45:=Tryz.isAgg297
 z45:=Tryz.sizeOf297
 v45:=Tryz.zeroValue297
 t46:=Tryz.underlying298
 a46:=Tryz.isAgg298
 z46:=Tryz.sizeOf298
 v46:=Tryz.zeroValue298
 t50:=Tryz.underlying222
 a50:=Tryz.isAgg222
 z50:=Tryz.sizeOf222
 v50:=Tryz.zeroValue222
 t53:=Tryz.underlying304
 a53:=Tryz.isAgg304
 z53:=Tryz.sizeOf304
 v53:=Tryz.zeroValue304
 t55:=Tryz.underlying214
 a55:=Tryz.isAgg214
 z55:=Tryz.sizeOf214
 v55:=Tryz.zeroValue214
 t66:=Tryz.underlying322
 a66:=Tryz.isAgg322
 z66:=Tryz.sizeOf322
 v66:=Tryz.zeroValue322
 t70:=Tryz.underlying325
 a70:=Tryz.isAgg325
 z70:=Tryz.sizeOf325
 v70:=Tryz.zeroValue325
 t76:=Tryz.underlying340
 a76:=Tryz.isAgg340
 z76:=Tryz.sizeOf340
 v76:=Tryz.zeroValue340
 t77:=Tryz.underlying341
 a77:=Tryz.isAgg341
 z77:=Tryz.sizeOf341
 v77:=Tryz.zeroValue341 }
def Tryz.sortPr_ren:Go.Shelf.Ren:=⟨fun | 6=>225 | 15=>213 | 14=>266 | 28=>256 | 29=>257 | 20=>286 | 21=>287 | 22=>288 | 23=>289 | 24=>290 | 25=>291 | 26=>292 | 27=>293 | 46=>308 | 47=>281 | 48=>282 | 49=>309 | 50=>310 | 57=>316 | n=>n,fun | 22=>233 | 24=>188 | 25=>238 | 3=>3 | 39=>263 | 0=>0 | 53=>304 | 55=>214 | 4=>4 | 46=>298 | 45=>297 | 50=>222 | 5=>5 | 9=>9 | 66=>322 | 70=>325 | 76=>340 | 77=>341 | n=>n,fun | n=>n⟩
theorem Tryz.sortPr:Go.Proofs.SlLaysF0.n6 Tryz.prog Tryz.sortPr_ren:={
 mixed:=by kernel_rfl
 f6:=⟨Tryz.f225.name,by decide,Tryz.func225.trans (congrArg some (by kernel_rfl))⟩
 f14:=⟨Tryz.f266.name,by decide,Tryz.func266.trans (congrArg some (by kernel_rfl))⟩
 f15:=Tryz.func213.trans (congrArg some (by kernel_rfl))
 f20:=⟨Tryz.f286.name,by decide,Tryz.func286.trans (congrArg some (by kernel_rfl))⟩
 f21:=⟨Tryz.f287.name,by decide,Tryz.func287.trans (congrArg some (by kernel_rfl))⟩
 f22:=⟨Tryz.f288.name,by decide,Tryz.func288.trans (congrArg some (by kernel_rfl))⟩
 f23:=⟨Tryz.f289.name,by decide,Tryz.func289.trans (congrArg some (by kernel_rfl))⟩
 f24:=⟨Tryz.f290.name,by decide,Tryz.func290.trans (congrArg some (by kernel_rfl))⟩
 f25:=⟨Tryz.f291.name,by decide,Tryz.func291.trans (congrArg some (by kernel_rfl))⟩
 f26:=⟨Tryz.f292.name,by decide,Tryz.func292.trans (congrArg some (by kernel_rfl))⟩
 f27:=⟨Tryz.f293.name,by decide,Tryz.func293.trans (congrArg some (by kernel_rfl))⟩
 f28:=Tryz.func256.trans (congrArg some (by kernel_rfl))
 f29:=Tryz.func257.trans (congrArg some (by kernel_rfl))
 f46:=⟨Tryz.f308.name,by decide,Tryz.func308.trans (congrArg some (by kernel_rfl))⟩
 f47:=Tryz.func281.trans (congrArg some (by kernel_rfl))
 f48:=Tryz.func282.trans (congrArg some (by kernel_rfl))
 f49:=⟨Tryz.f309.name,by decide,Tryz.func309.trans (congrArg some (by kernel_rfl))⟩
 f50:=⟨Tryz.f310.name,by decide,Tryz.func310.trans (congrArg some (by kernel_rfl))⟩
 f57:=⟨Tryz.f316.name,by decide,Tryz.func316.trans (congrArg some (by kernel_rfl))⟩
 t0:=Tryz.underlying0
 a0:=Tryz.isAgg0
 z0:=Tryz.sizeOf0
 v0:=Tryz.zeroValue0
 t3:=Tryz.underlying3
 a3:=Tryz.isAgg3
 z3:=Tryz.sizeOf3
 v3:=Tryz.zeroValue3
 t4:=Tryz.underlying4
 a4:=Tryz.isAgg4
 z4:=Tryz.sizeOf4
 v4:=Tryz.zeroValue4
 t5:=Tryz.underlying5
 a5:=Tryz.isAgg5
 z5:=Tryz.sizeOf5
 v5:=Tryz.zeroValue5
 t9:=Tryz.underlying9
 a9:=Tryz.isAgg9
 z9:=Tryz.sizeOf9
 v9:=Tryz.zeroValue9
 t22:=Tryz.underlying233
 a22:=Tryz.isAgg233
 z22:=Tryz.sizeOf233
 v22:=Tryz.zeroValue233
 t25:=Tryz.underlying238
 a25:=Tryz.isAgg238
 z25:=Tryz.sizeOf238
 v25:=Tryz.zeroValue238
 t39:=Tryz.underlying263
 a39:=Tryz.isAgg263
 z39:=Tryz.sizeOf263
 v39:=Tryz.zeroValue263
 t45:=Tryz.underlying297
 a45:=Tryz.isAgg297
 z45:=Tryz.sizeOf297
 v45:=Tryz.zeroValue297
 t46:=Tryz.underlying298
 a46:=Tryz.isAgg298
 z46:=Tryz.sizeOf298
 v46:=Tryz.zeroValue298
 t50:=Tryz.underlying222
 a50:=Tryz.isAgg222
 z50:=Tryz.sizeOf222
 v50:=Tryz.zeroValue222
 t53:=Tryz.underlying304
 a53:=Tryz.isAgg304
 z53:=Tryz.sizeOf304
 v53:=Tryz.zeroValue304
 t55:=Tryz.underlying214
 a55:=Tryz.isAgg214
 z55:=Tryz.sizeOf214
 v55:=Tryz.zeroValue214
 t66:=Tryz.underlying322
 a66:=Tryz.isAgg322
 z66:=Tryz.sizeOf322
 v66:=Tryz.zeroValue322
 t70:=Tryz.underlying325
 a70:=Tryz.isAgg325
 z70:=Tryz.sizeOf325
 v70:=Tryz.zeroValue325
 t76:=Tryz.underlying340
 a76:=Tryz.isAgg340
 z76:=Tryz.sizeOf340
 v76:=Tryz.zeroValue340
 t77:=Tryz.underlying341
 a77:=Tryz.isAgg341
 z77:=Tryz.sizeOf341
 v77:=Tryz.zeroValue341 }
end Go.Proofs
end
namespace Go.Proofs.YtnlfnomchebmcaaGreatDoor
section
open Go.RowKit Go.Sort
def Alq (w:World):PH:=fun g=>w.heap[g]?
theorem Anv (w:World):Bx (Alq w) PH.mt w:=⟨fun _ _ h=>h,D6.mt w,fun _=>.inr rfl,fun _ _ _ _ _ _ h _=>h⟩
@[reducible] def Cb.yes:Cb:=⟨True⟩
theorem Yo [Fl:Cb](hF:Fl.on){w w':World}{u':PH}(h:B0 (Alq w) PH.mt w u' PH.mt w'):∃ n os,w'=grow (w.drewN n) os:=by
 have hd:=h.dr hF;refine ⟨w'.drawn - w.drawn,w'.heap.extract w.heap.size w'.heap.size,?_⟩;obtain ⟨hp,tp,dr,os,out⟩:=w;obtain ⟨hp',tp',dr',os',out'⟩:=w';have h1:=hd.tape;have h2:=hd.dr;have h3:=h.io.1;have h4:=h.io.2;have h5:=h.sz;have h6:=fun g hg=>h.old g hg rfl;simp only at h1 h2 h3 h4 h5 h6;subst h1 h3 h4;unfold grow World.drewN;simp only [World.mk.injEq,and_true,true_and];refine ⟨?_,by omega⟩;apply Array.ext_getElem?;intro i;by_cases hi:i < hp.size
 ·rw [Array.getElem?_append_left hi]; exact h6 i hi
 ·rw [Array.getElem?_append_right (by omega),Array.getElem?_extract];by_cases hi':i < hp'.size
  ·rw [if_pos (by omega)]; congr 1; omega
  ·rw [if_neg (by omega),Array.getElem?_eq_none (by omega)]
theorem Fn0.exact [Fl:Cb](hF:Fl.on){P:Program}{f:FuncId}{args:List Value}{r:Value}(h:∀ u,Fn0 P f args u (fun v _=>v=r))(w:World):Calls P f args.toArray w fun e w'=>e=.returned r∧∃ n os,w'=grow (w.drewN n) os:=by
 refine Calls.mono (h (Alq w) w (Anv w)) fun e w' he=>?_;obtain ⟨v,u',m',e1,_,e3,e4,e5⟩:=he;subst e4 e5;exact ⟨e1,Yo hF e3⟩
theorem Sf (blk off size:Nat)(w:World):Go.Proofs.CmpLays Tryz.prog 172 #[] (fun p:Par=>[.int .i64 p.1,.string (mkS p.2)]) 2 A4 blk off size w :=
 fun m os dk _ x y=>@Fn0.exact Cb.yes trivial _ _ _ _ (fun u=>@K9 Cb.yes u x y) _
theorem Adz (blk off size:Nat)(w:World):Go.Proofs.CmpLays Tryz.prog 186 #[] (fun p:Par×Par=>[.int .i64 p.1.1,.string (mkS p.1.2),.int .i64 p.2.1,.string (mkS p.2.2)]) 4 Gp blk off size w :=
 fun m os dk _ x y=>@Fn0.exact Cb.yes trivial _ _ _ _ (fun u=>@To Cb.yes u x y) _
end
section
open Go.RowKit Go.Sort
section
variable {κ:Type} {c:κ→κ→Int}
theorem Ord.swo (h:Ord c):SWO (ltOf c) where
 irrefl x:=by simp [ltOf,h.irr x]
 trans x y z h1 h2:=by
  simp only [ltOf,decide_eq_true_eq] at *
  exact h.trans x y z h1 h2
 ntrans x y z h1 h2:=by
  simp only [ltOf,decide_eq_false_iff_not] at *
  intro h3;rcases Int.lt_trichotomy (c x y) 0 with e | e | e
  ·exact h1 e
  ·rw [h.eq x y e] at h3; exact h2 h3
  ·exact h2 (h.trans y x z ((h.sym y x).2 e) h3)
theorem Ord.tot (h:Ord c)(x y:κ)(h1:ltOf c x y=false)(h2:ltOf c y x=false):x=y:=by
 simp only [ltOf,decide_eq_false_iff_not] at *
 rcases Int.lt_trichotomy (c x y) 0 with e | e | e
 ·exact absurd e h1
 ·exact h.eq x y e
 ·exact absurd ((h.sym y x).2 e) h2
def C1 (c:κ→κ→Int)(l:List κ):List κ:=l.mergeSort fun x y=>!(ltOf c) y x
theorem Eh (l:List κ):(C1 c l).Perm l:=List.mergeSort_perm _ _
theorem Il (h:Ord c){l:List κ}(hn:l.Nodup):Dx c (C1 c l):=by
 have h1:(C1 c l).Pairwise fun a b=>(!(ltOf c) b a)=true:=by
  refine List.pairwise_mergeSort (fun a b d h1 h2=>?_) (fun a b=>?_) l
  ·simp only [Bool.not_eq_true'] at h1 h2 ⊢;exact h.swo.ntrans d b a h2 h1
  ·simp only [Bool.or_eq_true,Bool.not_eq_true'];cases e:ltOf c b a with
   | false=>exact .inl rfl
   | true =>
    right;simp only [ltOf,decide_eq_true_eq,decide_eq_false_iff_not] at *
    have:=(h.sym b a).1 e;omega
 have h2:(C1 c l).Nodup:=(Eh l).nodup_iff.2 hn;refine (h1.and h2).imp fun {a b} ⟨e1,e2⟩=>?_;simp only [Bool.not_eq_true',ltOf,decide_eq_false_iff_not] at e1;rcases Int.lt_trichotomy (c a b) 0 with e | e | e
 ·exact e
 ·exact absurd (h.eq a b e) e2
 ·exact absurd ((h.sym b a).2 e) e1
end
section
variable {κ:Type} [Inhabited κ] {enc:κ→List Value} {k:Nat}
theorem Mx (hk:∀ x,(enc x).length=k):∀ (ss:List κ) (t:Nat),t < ss.length*k→(ss.flatMap enc)[t]?=some ((enc ss.toArray[t / k]!)[t % k]!)
 | [],t,h=>by simp at h
 | x::ss,t,h=>by
  have hk0:0 < k:=by
   rcases Nat.eq_zero_or_pos k with h0 | h0
   ·rw [h0] at h; simp at h
   ·exact h0
  rw [List.flatMap_cons];by_cases ht:t < k
  ·rw [List.getElem?_append_left (by rw [hk]; exact ht),Nat.div_eq_of_lt ht,Nat.mod_eq_of_lt ht];have:t < (enc x).length:=by rw [hk]; exact ht
   simp [getElem!_pos,this]
  ·rw [List.getElem?_append_right (by rw [hk]; omega),hk,Mx hk ss (t - k) (by simp only [List.length_cons,Nat.add_mul] at h; omega)];have e1:t / k=(t - k) / k+1:=by rw [Nat.div_eq_sub_div hk0 (by omega)]
   have e2:t % k=(t - k) % k:=Nat.mod_eq_sub_mod (by omega);rw [e1,e2];simp
theorem Pd (hk:∀ x,(enc x).length=k){W:World}{gb:Nat}{e:TypeId}{cur:Array Value}{ss:List κ}(hgb:W.heap[gb]?=some (.cells cur e (0,0)))(hcur:cur.toList.take (ss.length*k)=ss.flatMap enc):HoldsK enc k W gb 0 ss.toArray:=by
 intro t ht;rw [size_flatK] at ht;have ht':t < ss.length*k:=by simpa using ht
 have h1:cur[t]?=some ((flatK enc k ss.toArray)[t]!):=by
  rw [get_flatK enc k _ t ht,← Mx hk ss t ht',← hcur,List.getElem?_take,if_pos ht',Array.getElem?_toList]
 constructor
 ·simp [World.cell?,hgb,h1]
 ·simp [World.frozen?,hgb]
theorem Aiu (hk:∀ x,(enc x).length=k){W:World}{gb:Nat}{ts:List κ}(h:HoldsK enc k W gb 0 ts.toArray){j i:Nat}{p:κ}{x:Value}(hj:ts[j]?=some p)(hi:(enc p)[i]?=some x):W.cell? ⟨gb,j*k+i,none⟩=some x:=by
 obtain ⟨hjl,rfl⟩:=List.getElem?_eq_some_iff.1 hj;obtain ⟨hil,rfl⟩:=List.getElem?_eq_some_iff.1 hi;rw [hk] at hil;have hlt:j*k+i < ts.toArray.size*k:=by
  have:(j+1)*k≤ts.length*k:=Nat.mul_le_mul_right k hjl;rw [Nat.add_mul] at this;simp; omega
 have h1:=(h (j*k+i) (by rw [size_flatK]; exact hlt)).1;rw [Nat.zero_add,get_flatK enc k _ _ hlt] at h1;rw [h1];have e1:(j*k+i) / k=j:=by rw [Nat.add_comm,Nat.add_mul_div_right _ _ (by omega),Nat.div_eq_of_lt hil]; omega
 have e2:(j*k+i) % k=i:=by rw [Nat.add_comm,Nat.add_mul_mod_self_right,Nat.mod_eq_of_lt hil]
 rw [e1,e2];simp [getElem!_pos,hjl,hil,hk]
theorem Kb {w0 w:World}{blk off m:Nat}{dk:Array κ}{os:Array Obj}(h:Below w0.heap.size w0 w)(hb:w0.heap.size≤blk):Below w0.heap.size w0 (sortWorldK enc k w blk off m dk os):=by
 refine ⟨h.os,h.tape,h.output,Nat.le_trans h.size (size_sortWorldK_c enc k w blk off m dk os),fun j hj=>?_⟩;rw [← h.block j hj];have hjw:j < w.heap.size:=Nat.lt_of_lt_of_le hj h.size;unfold sortWorldK grow putRowK putRow mapBlock Sort.ahead;simp only;rw [Array.getElem?_append_left (by rw [Array.size_modify]; exact hjw),Array.getElem?_modify,if_neg (by omega)]
end
theorem Fn0.ofB {P:Program}{f:FuncId}{args:List Value}{u:PH}{R:Value→PH→Prop}(Q:Value→World→World→Prop)(h:∀ w,D6 u w→Calls P f args.toArray w fun e w'=>∃ v,e=.returned v∧Q v w w'∧Below w.heap.size w w')
  (hq:∀ v w w' u',Q v w w'→PH.le u u'→(∀ g o,w.heap.size≤g→w'.heap[g]?=some o→u' g=some o)→R v u'):Fn0 P f args u R:=by
 intro w hg;refine Calls.mono (h w hg.pu) fun e w' he=>?_;obtain ⟨v,e1,e2,e3⟩:=he;have hsz:w.heap.size≤w'.heap.size:=e3.size;have hold:∀ g,g < w.heap.size→w'.heap[g]?=w.heap[g]?:=fun g hg=>Below.block e3 g hg;have g1:D6 (fun g=>if g < w.heap.size then u g else w'.heap[g]?) w':=by
  intro g o hgo;simp only at hgo;split at hgo
  ·rename_i hlt; rw [hold g hlt]; exact hg.pu g o hgo
  ·exact hgo
 have g2:Tv (fun g=>if g < w.heap.size then u g else w'.heap[g]?) w':=by
  intro g cs t fr j z hgo hj;simp only;split
  ·rename_i hlt; rw [hold g hlt] at hgo; exact hg.cl g cs t fr j z hgo hj
  ·exact hgo
 have g3:PH.le u (fun g=>if g < w.heap.size then u g else w'.heap[g]?):=fun g o hgo=>by simp only; rw [if_pos (hg.pu.lt hgo)]; exact hgo
 refine ⟨v,_,PH.mt,e1,⟨g1,D6.mt _,fun _=>.inr rfl,g2⟩,⟨hsz,fun g hg _=>hold g hg,fun g hg=>by simp only; rw [if_pos hg],fun _ _ h=>h,⟨e3.os,e3.output⟩,fun f=>f.elim⟩,rfl,hq v w w' _ e2 g3 (fun g o hgs hgo=>by show (if g < w.heap.size then u g else w'.heap[g]?)=some o; rw [if_neg (by omega)]; exact hgo)⟩
end
section
open Go.RowKit Go.MapKept Go.Shelf Go.Sort
def Gt {κ:Type}(c:κ→κ→Int)(enc:κ→List Value)(k:Nat)(keys:List κ)(v:Value)(w w':World):Prop :=
 ∃ (ts:List κ) (a:Option Addr) (cap:Nat),v=.slice a ts.length cap∧ts.length≤cap∧Dx c ts∧(∀ x,x∈ts↔x∈keys)∧∀ (j:Nat) (p:κ),ts[j]?=some p→∃ b,a=some ⟨b,0,none⟩∧w.heap.size≤b∧∀ (i:Nat) (x:Value),(enc p)[i]?=some x→w'.cell? ⟨b,j*k+i,none⟩=some x
theorem Gt.list {κ:Type}{c:κ→κ→Int}{enc:κ→List Value}{k:Nat}{keys:List κ}{v:Value}{w w':World}{u':PH}(val:κ→Value)(hval:∀ p,(val p).cells.toList=enc p)(h:Gt c enc k keys v w w')(hu:∀ g o,w.heap.size≤g→w'.heap[g]?=some o→u' g=some o) :
  ∃ ts:List κ,Ad u' v k (ts.map val)∧Dx c ts∧∀ x,x∈ts↔x∈keys:=by
 obtain ⟨ts,a,cap,rfl,hc,hs,hm,hcell⟩:=h;refine ⟨ts,⟨a,cap,by rw [List.length_map],by rw [List.length_map]; exact hc,fun j e hj=>?_⟩,hs,hm⟩;rw [List.getElem?_map] at hj;obtain ⟨p,hp,rfl⟩:=Option.map_eq_some_iff.1 hj;obtain ⟨b,e,hb,hx⟩:=hcell j p hp;refine ⟨b,0,e,fun i x hi=>?_⟩;rw [← Array.getElem?_toList,hval] at hi;have h1:=hx i x hi;unfold World.cell? at h1;simp only at h1;split at h1
 ·rename_i cs t fr hh;exact ⟨cs,t,fr,hu b _ hb hh,by rw [Nat.zero_add]; simpa using h1⟩
 ·cases h1
theorem F0 (x:Par):(Au x).length=2:=rfl
def El (P:Program)(st:List KI×S):List KI×S:=match one P (Iu P 200 st).1 (Iu P 200 st).2 with | some st'=>st' | none=>st
section
variable {P:Program} [Bb P] {fn:Func} {Post:B4} {st:List KI×S} {u m:PH}
theorem G.pastI (h:G P fn Post (El P st) u m):G P fn Post st u m:=by
 unfold El at h;split at h
 ·rename_i st' he;exact ⟨Mb 200 st (Lu Bb.mx he h.out)⟩
 ·exact h
theorem Fn0.weak {f:FuncId}{args:List Value}{R R':Value→PH→Prop}(h:Fn0 P f args u R)(hr:∀ v u',R v u'→R' v u'):Fn0 P f args u R':=fun w hg=>Calls.mono (h w hg) fun e w' ⟨v,u',m',e1,e2,e3,e4,e5⟩=>⟨v,u',m',e1,e2,e3,e4,hr _ _ e5⟩
end
theorem Aan (Bm g:Nat)(es:Array MapEntry)(clock:Nat)(lk:List (Par×Value))(hs:Stamped es clock)(hkv:es.toList.map (fun e=>(e.key,e.val))=lk.map (fun p=>(Ak p.1,p.2)))(hnd:(lk.map (·.1)).Nodup)(hN:lk.length≤1000000)(w:World)(hm:w.cell? ⟨Bm,0,none⟩=some (.map (some g)))(hg:w.heap[g]?=some (.map es clock)) :
  Calls Tryz.prog 182 #[.func (.func 223) #[] #[.pointer (some ⟨Bm,0,none⟩)],.func (.func 172) #[] #[]] w fun e w'=>∃ v,e=.returned v∧Gt A4 Au 2 (lk.map (·.1)) v w w'∧Below w.heap.size w w':=by
 have mixed:Tryz.prog.follows .mixedOrders=true:=by kernel_rfl
 have hBm:Bm < w.heap.size:=by
  unfold World.cell? at hm;split at hm
  ·rename_i h; exact Ax h
  ·cases hm
 have c1:=Abu _ _ Tryz.call223 (Agf lk) lk.length hN w (Vp 0 Bm g es clock lk hs hkv hnd w hm hBm hg);have c2:∀ (v:Value) (ss:List Par) (W:World),Agf lk ss→W.ownsRow w.heap.size 44 2 v ss.length (ss.flatMap Au)→Below w.heap.size w W→Calls Tryz.prog 171 #[v,.func (.func 172) #[] #[]] W fun e w'=>e=.returned (.tuple #[])∧Gt A4 Au 2 (lk.map (·.1)) v w w'∧Below w.heap.size w w':=by
  intro v ss W hS hrow hb;rcases hrow.2 with ⟨rfl,hz⟩ | ⟨gb,cap,cur,rfl,hbase,hgb,r1,r2,r3,r4⟩
  ·have hss:ss = []:=List.eq_nil_of_length_eq_zero hz;subst hss;refine (AnyF.slices_SortFunc_none Tryz.sortPar none 0 _ W).mono ?_;rintro e w' ⟨rfl,rfl⟩;exact ⟨rfl,⟨[],none,0,rfl,Nat.le_refl _,List.Pairwise.nil,hS.2,fun j p hj=>by simp at hj⟩,hb⟩
  ·have hH:HoldsK Au 2 W gb 0 ss.toArray:=Pd (enc:=Au) (k:=2) F0 hgb r4;have hgl:gb < W.heap.size:=Ax hgb;have hsz:ss.toArray.size < 4611686018427387904:=by
    have:=E4 (fun x:Par=>x) (L:=ss) (l:=lk.map (·.1)) (by simpa using hS.1) (fun p hp=>(hS.2 p).1 hp);simp at this;simp;omega
   have hcon:=AnyQ.slices_SortFunc_total Tryz.sortPar 2 (fun w=>by kernel_rfl) (fun w=>by kernel_rfl) Au (fun _=>rfl) (fun x v hv=>by simp at hv; rcases hv with rfl | rfl <;> rfl) A4 Dd.swo 172 #[] gb 0 cap ss.toArray W Tryz.call172 (Sf gb 0 _ W) hH hgl hsz Dd.tot
   change Calls Tryz.prog 171 _ _ _ at hcon;simp only [List.size_toArray] at hcon;refine Calls.mono hcon ?_;rintro e w' ⟨rfl,nn,os,rfl⟩;have hp:=Eh (c:=A4) ss;refine ⟨rfl,⟨C1 A4 ss,some ⟨gb,0,none⟩,cap,by rw [hp.length_eq],by rw [hp.length_eq]; exact r1,Il Dd hS.1,fun x=>(hp.mem_iff).trans (hS.2 x),fun j p hj=>⟨gb,rfl,hbase,fun i x hi=>?_⟩⟩,Kb hb hbase⟩;have h2:=holdsK_sortWorldK_c Au 2 W gb 0 ss.toArray (C1 A4 ss).toArray nn os hH hgl (by simp [hp.length_eq]);exact Aiu (enc:=Au) (k:=2) F0 h2 hj hi
 clear hm hg hs hkv hnd
 go_enter Tryz.func182,Tryz.ntmps182
 go_wp2_with (go_at_call 222; refine c1.mono ?_; rintro e w' ⟨v,ss,rfl,hS,hrow,hnil,hb⟩)
 have c3:=c2 v ss w' hS hrow hb;clear hS hrow hnil hb c2 c1
 go_wp2_with (go_at_call 171; refine c3.mono ?_; rintro e w' ⟨rfl,hSo,hbo⟩)
 go_ret
 exact ⟨v,rfl,hSo,hbo⟩
theorem Zo {u:PH}{Bm g:Nat}{o:Obj}{lk:List (Par×Value)}(hm:I4 u Bm 0 (.map (some g)))(hg:u g=some o)(ho:Ce Ak o lk)(hN:lk.length≤1000000) :
  Fn0 Tryz.prog 182 [.func (.func 223) #[] #[.pointer (some ⟨Bm,0,none⟩)],.func (.func 172) #[] #[]] u fun v u'=>∃ ts:List Par,Ad u' v 2 (ts.map Ak)∧Dx A4 ts∧∀ x,x∈ts↔x∈lk.map (·.1):=by
 have hnd:=ho.nodup;obtain ⟨es,clock,rfl,hkv,hs⟩:=ho;refine Fn0.ofB (fun v w w'=>Gt A4 Au 2 (lk.map (·.1)) v w w') (fun w hp=>?_) (fun v w w' u' h _ hu=>Gt.list (enc:=Au) Ak (fun _=>rfl) h hu);exact Aan Bm g es clock lk hs hkv hnd hN w (hm.cell hp) (hp g _ hg)
theorem Afu {u:PH}{g:Nat}:Fn0 Tryz.prog 183 [.map (some g)] u fun v u'=>∃ b,v=.func (.func 223) #[] #[.pointer (some ⟨b,0,none⟩)]∧I4 u' b 0 (.map (some g)):=by
 have h:Ae Tryz.prog 183 [.map (some g)] u PH.mt (fun v u' m'=>∃ b,v=.func (.func 223) #[] #[.pointer (some ⟨b,0,none⟩)]∧I4 m' b 0 (.map (some g))):=by
  refine Ae.o Tryz.func183 ?_;refine G.pastI ?_;refine G.pub 0 90 [.map (some g)] (by kernel_rfl) (by kernel_rfl) ?_;intro b hu hm;exact G.r (.func (.func 223) #[] #[.pointer (some ⟨b,0,none⟩)]) ⟨b,rfl,_,_,_,Ab _ _ _,rfl⟩
 refine Fn0.weak h.giveAll ?_;rintro v u' ⟨u1,m1,_,l2,b,e,hc⟩;exact ⟨b,e,hc.mono l2⟩
end
section
open Go.RowKit Go.MapKept Go.Shelf Go.Sort
theorem P4 (x:Par×Par):(C0 x).length=4:=rfl
theorem Aeu (Bm g:Nat)(es:Array MapEntry)(clock:Nat)(lk:List ((Par×Par)×Value))(hs:Stamped es clock)(hkv:es.toList.map (fun e=>(e.key,e.val))=lk.map (fun p=>(prV p.1,p.2)))(hnd:(lk.map (·.1)).Nodup)(hN:lk.length≤1000000)(w:World)(hm:w.cell? ⟨Bm,0,none⟩=some (.map (some g)))(hg:w.heap[g]?=some (.map es clock)) :
  Calls Tryz.prog 184 #[.func (.func 226) #[] #[.pointer (some ⟨Bm,0,none⟩)],.func (.func 186) #[] #[]] w fun e w'=>∃ v,e=.returned v∧Gt Gp C0 4 (lk.map (·.1)) v w w'∧Below w.heap.size w w':=by
 have mixed:Tryz.prog.follows .mixedOrders=true:=by kernel_rfl
 have hBm:Bm < w.heap.size:=by
  unfold World.cell? at hm;split at hm
  ·rename_i h; exact Ax h
  ·cases hm
 have c1:=Aey _ _ Tryz.call226 (Agj lk) lk.length hN w (Yz 0 Bm g es clock lk hs hkv hnd w hm hBm hg);have c2:∀ (v:Value) (ss:List (Par×Par)) (W:World),Agj lk ss→W.ownsRow w.heap.size 188 4 v ss.length (ss.flatMap C0)→Below w.heap.size w W→Calls Tryz.prog 225 #[v,.func (.func 186) #[] #[]] W fun e w'=>e=.returned (.tuple #[])∧Gt Gp C0 4 (lk.map (·.1)) v w w'∧Below w.heap.size w w':=by
  intro v ss W hS hrow hb;rcases hrow.2 with ⟨rfl,hz⟩ | ⟨gb,cap,cur,rfl,hbase,hgb,r1,r2,r3,r4⟩
  ·have hss:ss = []:=List.eq_nil_of_length_eq_zero hz;subst hss;refine (AnyF.slices_SortFunc_none Tryz.sortPr none 0 _ W).mono ?_;rintro e w' ⟨rfl,rfl⟩;exact ⟨rfl,⟨[],none,0,rfl,Nat.le_refl _,List.Pairwise.nil,hS.2,fun j p hj=>by simp at hj⟩,hb⟩
  ·have hH:HoldsK C0 4 W gb 0 ss.toArray:=Pd (enc:=C0) (k:=4) P4 hgb r4;have hgl:gb < W.heap.size:=Ax hgb;have hsz:ss.toArray.size < 4611686018427387904:=by
    have:=E4 (fun x:Par×Par=>x) (L:=ss) (l:=lk.map (·.1)) (by simpa using hS.1) (fun p hp=>(hS.2 p).1 hp);simp at this;simp;omega
   have hcon:=AnyQ.slices_SortFunc_total Tryz.sortPr 4 (fun w=>by kernel_rfl) (fun w=>by kernel_rfl) C0 (fun _=>rfl) (fun x v hv=>by simp at hv; rcases hv with rfl | rfl | rfl | rfl <;> rfl) Gp Aaz.swo 186 #[] gb 0 cap ss.toArray W Tryz.call186 (Adz gb 0 _ W) hH hgl hsz Aaz.tot
   change Calls Tryz.prog 225 _ _ _ at hcon;simp only [List.size_toArray] at hcon;refine Calls.mono hcon ?_;rintro e w' ⟨rfl,nn,os,rfl⟩;have hp:=Eh (c:=Gp) ss;refine ⟨rfl,⟨C1 Gp ss,some ⟨gb,0,none⟩,cap,by rw [hp.length_eq],by rw [hp.length_eq]; exact r1,Il Aaz hS.1,fun x=>(hp.mem_iff).trans (hS.2 x),fun j p hj=>⟨gb,rfl,hbase,fun i x hi=>?_⟩⟩,Kb hb hbase⟩;have h2:=holdsK_sortWorldK_c C0 4 W gb 0 ss.toArray (C1 Gp ss).toArray nn os hH hgl (by simp [hp.length_eq]);exact Aiu (enc:=C0) (k:=4) P4 h2 hj hi
 clear hm hg hs hkv hnd
 go_enter Tryz.func184,Tryz.ntmps184
 go_wp2_with (go_at_call 224; refine c1.mono ?_; rintro e w' ⟨v,ss,rfl,hS,hrow,hnil,hb⟩)
 have c3:=c2 v ss w' hS hrow hb;clear hS hrow hnil hb c2 c1
 go_wp2_with (go_at_call 225; refine c3.mono ?_; rintro e w' ⟨rfl,hSo,hbo⟩)
 go_ret
 exact ⟨v,rfl,hSo,hbo⟩
theorem Aes {u:PH}{Bm g:Nat}{o:Obj}{lk:List ((Par×Par)×Value)}(hm:I4 u Bm 0 (.map (some g)))(hg:u g=some o)(ho:Ce prV o lk)(hN:lk.length≤1000000) :
  Fn0 Tryz.prog 184 [.func (.func 226) #[] #[.pointer (some ⟨Bm,0,none⟩)],.func (.func 186) #[] #[]] u fun v u'=>∃ ts:List (Par×Par),Ad u' v 4 (ts.map prV)∧Dx Gp ts∧∀ x,x∈ts↔x∈lk.map (·.1):=by
 have hnd:=ho.nodup;obtain ⟨es,clock,rfl,hkv,hs⟩:=ho;refine Fn0.ofB (fun v w w'=>Gt Gp C0 4 (lk.map (·.1)) v w w') (fun w hp=>?_) (fun v w w' u' h _ hu=>Gt.list (enc:=C0) prV (fun _=>rfl) h hu);exact Aeu Bm g es clock lk hs hkv hnd hN w (hm.cell hp) (hp g _ hg)
theorem Ake {u:PH}{g:Nat}:Fn0 Tryz.prog 185 [.map (some g)] u fun v u'=>∃ b,v=.func (.func 226) #[] #[.pointer (some ⟨b,0,none⟩)]∧I4 u' b 0 (.map (some g)):=by
 have h:Ae Tryz.prog 185 [.map (some g)] u PH.mt (fun v u' m'=>∃ b,v=.func (.func 226) #[] #[.pointer (some ⟨b,0,none⟩)]∧I4 m' b 0 (.map (some g))):=by
  refine Ae.o Tryz.func185 ?_;refine G.pastI ?_;refine G.pub 0 91 [.map (some g)] (by kernel_rfl) (by kernel_rfl) ?_;intro b hu hm;exact G.r (.func (.func 226) #[] #[.pointer (some ⟨b,0,none⟩)]) ⟨b,rfl,_,_,_,Ab _ _ _,rfl⟩
 refine Fn0.weak h.giveAll ?_;rintro v u' ⟨u1,m1,_,l2,b,e,hc⟩;exact ⟨b,e,hc.mono l2⟩
end
section
open Go.RowKit Go.MapKept
theorem Af.le {m0 m:PH}{v:Value}{t:TypeId}{sz:Nat}{es:List Value}(h:Af m0 m v t sz es):PH.le m0 m:=by
 rcases h.2 with ⟨_,_,rfl⟩ | ⟨g,cap,rest,hg0,rfl,_⟩
 ·exact PH.le_refl _
 ·exact Jr _ hg0
theorem Ag8 {u:PH}{x p:Value}{q:Rat}(ht:Ib u)(h:Ap u x q)(hq:Tx q):Fn0 Tryz.prog 181 [x,p] u fun v _=>v=.string (mkS (Ag q)):=by
 obtain ⟨b,a,n,c,b',a',n',c',rfl⟩:=h.opn;refine Fn0.o Tryz.func181 ?_;refine G.c Tryz.call40 (Gs ht h hq) ?_;rintro v1 u1 l1 rfl;refine G.nF 0 0 ?_;exact G.r _ ⟨rfl,rfl⟩
theorem Ji (p:Par×Rat):A9 3 [A3 p]:=fun e he=>by
 simp at he; subst he;exact ⟨rfl,fun y hy=>by simp [A3,Value.cells] at hy; rcases hy with rfl | rfl | rfl <;> rfl⟩
theorem Qk (p:(Par×Par)×Rat):A9 5 [Cw p]:=fun e he=>by
 simp at he; subst he;exact ⟨rfl,fun y hy=>by simp [Cw,Value.cells] at hy; rcases hy with rfl | rfl | rfl | rfl | rfl <;> rfl⟩
theorem Zj {κ:Type}{c:κ→κ→Int}{f:κ→Rat}{ts keys:List κ}(hs:Dx c ts)(hm:∀ x,x∈ts↔x∈keys)(h0:∀ p∈keys,f p≠0)(h1:∀ k,k∉keys→f k=0):Can c f (ts.map fun p=>(p,f p)):=by
 have e:(ts.map fun p=>(p,f p)).map (·.1)=ts:=by rw [List.map_map]; simp [Function.comp_def]
 refine ⟨by rw [e]; exact hs,fun p hp=>?_,fun k hk=>h1 k fun h=>hk (by rw [e]; exact (hm k).2 h)⟩;obtain ⟨x,hx,rfl⟩:=List.mem_map.1 hp;exact ⟨rfl,h0 x ((hm x).1 hx)⟩
theorem Uh {u:PH}{F:CF}{N:Nat}{v:Value}(ht:Ib u)(hv:Df u v F N)(sF:CFS F)(hN:N≤1000000) :
  Fn0 Tryz.prog 119 [v] u fun v' u'=>∃ r,v'=.tuple #[r,.int .i64 0]∧Hb u' r F N:=by
 obtain ⟨b,a,n,c,b',a',n',c',g1,g2,o1,o2,rfl,hc,e1,e2,h1,h2⟩:=hv;obtain ⟨k1,ho1,q1,z1,n1⟩:=h1.at;obtain ⟨k2,ho2,q2,z2,n2⟩:=h2.at;refine Fn0.o Tryz.func119 ?_;refine G.pastI ?_;refine G.pastI ?_;refine G.pub 1000 40 [.int .i64 0] (by kernel_rfl) (by kernel_rfl) ?_;intro e hu hm;refine G.c Tryz.call181 (Ag8 (p:=.pointer (some ⟨e,0,none⟩)) ht hc (SB.tx sF.c)) ?_;rintro v1 u1 l1 rfl;refine G.c Tryz.call183 (Afu (g:=g1)) ?_;rintro v2 u2 l2 ⟨b2,rfl,hb2⟩;refine G.c Tryz.call182 (Zo hb2 ((l1.trans l2) _ _ e1) ho1 (by omega)) ?_;rintro v3 u3 l3 ⟨ts,hts,hss,hsm⟩;have le3:=(l1.trans l2).trans l3;obtain ⟨ta,tc,rfl⟩:=Ad.opn hts;rw [List.length_map] at hts ⊢;have hlen:ts.length≤N:=by
  have:=E4 (fun x:Par=>x) (L:=ts) (l:=k1.map (·.1)) (by simpa using hss.nodup Dd) (fun p hp=>(hsm p).1 hp);simp at this; omega
 obtain ⟨m0,hm0⟩:∃ m0:PH,m0=PH.mt.upd e (.cells [Value.int .i64 0].toArray 40 (0,0)):=⟨_,rfl⟩;rw [← hm0];refine G.l (ι:=Nat×(Option Addr×Nat×Nat)) (fun i=>[(1,.p 0 0),(2,.p 1 0),(4,.v (.pointer (some ⟨e,0,none⟩))),(5,.v (.func (.func 181) #[] #[.pointer (some ⟨e,0,none⟩)])),(6,.p 3005 0),(20,.v (.slice ta ts.length tc)),(21,.v (.int .i64 (ts.length:Int))),(22,.v (.int .i64 (i.1:Int)))])
  (fun i=>[(0,⟨93,[.v (.bool b),.v (.slice a n c),.v (.bool b'),.v (.slice a' n' c'),.v (.map (some g1)),.v (.map (some g2))]⟩),(1,⟨36,[.v (.string (mkS [])),.v (.slice none 0 0),.v (.slice none 0 0)]⟩),(3005,⟨36,[.v (.string (mkS (Ag F.c))),.v (.slice i.2.1 i.2.2.1 i.2.2.2),.v (.slice none 0 0)]⟩)])
  (fun i u' m'=>i.1≤ts.length∧Af m0 m' (.slice i.2.1 i.2.2.1 i.2.2.2) 107 3 ((ts.take i.1).map fun p=>A3 (p,F.s p)))
  (fun i=>ts.length - i.1) (0,(none,0,0)) ⟨by simp,Af.nil _ _ _⟩ ?_
 rintro J ⟨i,⟨xa,xn,xc⟩⟩ hJ u4 m4 l4 ⟨hi,hA⟩;simp only at hi hA hJ;have le4:=le3.trans l4;by_cases hlt:i < ts.length
 ·refine G.lT (i:Int) (ts.length:Int) ?_;have hTi:ts[i]?=some ts[i]:=List.getElem?_eq_getElem hlt;obtain ⟨ba,oa,rfl,ea⟩:=Ad.at' (hts.mono l4) (j:=i) (e:=Ak ts[i]) (by simp [hTi]);obtain ⟨y,hy,hye⟩:=List.mem_map.1 ((hsm ts[i]).1 (List.getElem_mem hlt));obtain ⟨hfy,hy0,_⟩:=q1 y hy;have has:=Jo ho1.nodup (show (y.1,y.2)∈k1 from hy);rw [hye] at has hfy;obtain ⟨w1,w2,w3,w4,w5,w6,w7,w8,hwe⟩:=hfy.opn;rw [hwe] at has hfy;refine G.a ba oa ts.length tc i 2 (by omega) ?_;refine G.lU (some 2) ba (oa+i*2) (.agg #[.int .i64 ts[i].1,.string (mkS ts[i].2)]) ea ?_;refine G.mapIs (et:=89) Ba fz g1 o1 k1 ts[i] (.agg #[.bool w1,.slice w2 w3 w4,.bool w5,.slice w6 w7 w8]) (by kernel_rfl) (by kernel_rfl) (.inl (le4 _ _ e1)) ho1 has ?_;refine G.c Tryz.call181 (Ag8 (p:=.pointer (some ⟨e,0,none⟩)) (ht.mono le4) (hfy.mono le4) (SB.tx (sF.s _))) ?_;rintro v5 u5 l5 rfl;refine G.B 107 3 40 (.agg #[.int .i64 0,.string (mkS []),.string (mkS [])]) [.agg #[.int .i64 ts[i].1,.string (mkS ts[i].2),.string (mkS (Ag (F.s ts[i])))]] (Ji (ts[i],F.s ts[i])) ?_;intro g6 u6 l6 e6;have hel:((ts.take i).map fun p=>A3 (p,F.s p)).length=i:=by simp; omega
  refine G.append 107 3 40 (.agg #[.int .i64 0,.string (mkS []),.string (mkS [])]) m0 ((ts.take i).map fun p=>A3 (p,F.s p)) [.agg #[.int .i64 ts[i].1,.string (mkS ts[i].2),.string (mkS (Ag (F.s ts[i])))]] (.slice xa xn xc) g6 0 1 1 (by kernel_rfl) rfl rfl (by omega) hA e6 (Ji (ts[i],F.s ts[i])) rfl (by omega) (by omega) (by omega) ?_;intro v7 m7 hA7;rw [show ((ts.take i).map fun p=>A3 (p,F.s p))++[.agg #[.int .i64 ts[i].1,.string (mkS ts[i].2),.string (mkS (Ag (F.s ts[i])))]]=(ts.take (i+1)).map fun p=>A3 (p,F.s p) by rw [List.take_add_one,hTi,List.map_append]; rfl] at hA7;obtain ⟨a7,c7,rfl⟩:=hA7.shape;refine G.i i ?_;exact G.b (hJ (i+1,(a7,((ts.take (i+1)).map fun p=>A3 (p,F.s p)).length,c7)) _ _ _ cv ((l4.trans l5).trans l6) ⟨by dsimp only; omega,hA7⟩ (by dsimp only; omega))
 obtain rfl:i=ts.length:=by omega
 refine G.lF (ts.length:Int) (ts.length:Int) ?_;rw [List.take_length] at hA;have hxn:xn=ts.length:=by have:=hA.len; simpa using this
 subst hxn;refine G.c Tryz.call185 (Ake (g:=g2)) ?_;rintro v5 u5 l5 ⟨b5,rfl,hb5⟩;refine G.c Tryz.call184 (Aes hb5 ((le4.trans l5) _ _ e2) ho2 (by omega)) ?_;rintro v6 u6 l6 ⟨qs,hqs,hqss,hqsm⟩;have le6:=(le4.trans l5).trans l6;obtain ⟨qa,qc,rfl⟩:=Ad.opn hqs;rw [List.length_map] at hqs ⊢;have hlen2:qs.length≤N:=by
  have:=E4 (fun x:Par×Par=>x) (L:=qs) (l:=k2.map (·.1)) (by simpa using hqss.nodup Aaz) (fun p hp=>(hqsm p).1 hp);simp at this; omega
 refine G.l (ι:=Nat×(Option Addr×Nat×Nat)) (fun i=>[(1,.p 0 0),(2,.p 1 0),(4,.v (.pointer (some ⟨e,0,none⟩))),(5,.v (.func (.func 181) #[] #[.pointer (some ⟨e,0,none⟩)])),(6,.p 3005 0),(43,.v (.slice qa qs.length qc)),(44,.v (.int .i64 (qs.length:Int))),(45,.v (.int .i64 (i.1:Int)))])
  (fun i=>[(0,⟨93,[.v (.bool b),.v (.slice a n c),.v (.bool b'),.v (.slice a' n' c'),.v (.map (some g1)),.v (.map (some g2))]⟩),(1,⟨36,[.v (.string (mkS [])),.v (.slice none 0 0),.v (.slice none 0 0)]⟩),(3005,⟨36,[.v (.string (mkS (Ag F.c))),.v (.slice xa ts.length xc),.v (.slice i.2.1 i.2.2.1 i.2.2.2)]⟩)])
  (fun i u' m'=>i.1≤qs.length∧Af m4 m' (.slice i.2.1 i.2.2.1 i.2.2.2) 103 5 ((qs.take i.1).map fun p=>Cw (p,F.t p)))
  (fun i=>qs.length - i.1) (0,(none,0,0)) ⟨by simp,Af.nil _ _ _⟩ ?_
 rintro J2 ⟨i,⟨ya,yn,yc⟩⟩ hJ2 u7 m7 l7 ⟨hi2,hB⟩;simp only at hi2 hB hJ2;have le7:=le6.trans l7;by_cases hlt:i < qs.length
 ·refine G.lT (i:Int) (qs.length:Int) ?_;have hTi:qs[i]?=some qs[i]:=List.getElem?_eq_getElem hlt;obtain ⟨ba,oa,rfl,ea⟩:=Ad.at' (hqs.mono l7) (j:=i) (e:=prV qs[i]) (by simp [hTi]);obtain ⟨y,hy,hye⟩:=List.mem_map.1 ((hqsm qs[i]).1 (List.getElem_mem hlt));obtain ⟨hfy,hy0,_⟩:=q2 y hy;have has:=Jo ho2.nodup (show (y.1,y.2)∈k2 from hy);rw [hye] at has hfy;obtain ⟨w1,w2,w3,w4,w5,w6,w7,w8,hwe⟩:=hfy.opn;rw [hwe] at has hfy;refine G.a ba oa qs.length qc i 4 (by omega) ?_;refine G.lU (some 4) ba (oa+i*4) (.agg #[.int .i64 qs[i].1.1,.string (mkS qs[i].1.2),.int .i64 qs[i].2.1,.string (mkS qs[i].2.2)]) ea ?_;refine G.mapIs (et:=89) Io fz g2 o2 k2 qs[i] (.agg #[.bool w1,.slice w2 w3 w4,.bool w5,.slice w6 w7 w8]) (by kernel_rfl) (by kernel_rfl) (.inl (le7 _ _ e2)) ho2 has ?_;refine G.c Tryz.call181 (Ag8 (p:=.pointer (some ⟨e,0,none⟩)) (ht.mono le7) (hfy.mono le7) (SB.tx (sF.t _))) ?_;rintro v8 u8 l8 rfl;refine G.B 103 5 64 (.agg #[.int .i64 0,.string (mkS []),.int .i64 0,.string (mkS []),.string (mkS [])]) [.agg #[.int .i64 qs[i].1.1,.string (mkS qs[i].1.2),.int .i64 qs[i].2.1,.string (mkS qs[i].2.2),.string (mkS (Ag (F.t qs[i])))]] (Qk (qs[i],F.t qs[i])) ?_;intro g9 u9 l9 e9;have hel:((qs.take i).map fun p=>Cw (p,F.t p)).length=i:=by simp; omega
  refine G.append 103 5 64 (.agg #[.int .i64 0,.string (mkS []),.int .i64 0,.string (mkS []),.string (mkS [])]) m4 ((qs.take i).map fun p=>Cw (p,F.t p)) [.agg #[.int .i64 qs[i].1.1,.string (mkS qs[i].1.2),.int .i64 qs[i].2.1,.string (mkS qs[i].2.2),.string (mkS (Ag (F.t qs[i])))]] (.slice ya yn yc) g9 0 1 1 (by kernel_rfl) rfl rfl (by omega) hB e9 (Qk (qs[i],F.t qs[i])) rfl (by omega) (by omega) (by omega) ?_;intro v10 m10 hB10;rw [show ((qs.take i).map fun p=>Cw (p,F.t p))++[.agg #[.int .i64 qs[i].1.1,.string (mkS qs[i].1.2),.int .i64 qs[i].2.1,.string (mkS qs[i].2.2),.string (mkS (Ag (F.t qs[i])))]]=(qs.take (i+1)).map fun p=>Cw (p,F.t p) by rw [List.take_add_one,hTi,List.map_append]; rfl] at hB10;obtain ⟨a10,c10,rfl⟩:=hB10.shape;refine G.i i ?_;exact G.b (hJ2 (i+1,(a10,((qs.take (i+1)).map fun p=>Cw (p,F.t p)).length,c10)) _ _ _ cv ((l7.trans l8).trans l9) ⟨by dsimp only; omega,hB10⟩ (by dsimp only; omega))
 obtain rfl:i=qs.length:=by omega
 refine G.lF (qs.length:Int) (qs.length:Int) ?_;rw [List.take_length] at hB;have hyn:yn=qs.length:=by have:=hB.len; simpa using this
 subst hyn;have hme:m7 e=some (.cells [Value.int .i64 0].toArray 40 (0,0)):=hB.le _ _ (hA.le _ _ (by rw [hm0]; exact Ab _ _ _));refine G.lM none e 0 (.int .i64 0) (fun i y hy=>by
  match i,hy with
  | 0,hy=>simp [Value.cells] at hy; subst hy; exact ⟨_,_,_,hme,rfl⟩
  | k+1,hy=>simp [Value.cells] at hy) ?_
 refine G.nF 0 0 ?_;refine G.give m4 _ _ (by kernel_rfl) hB (fun _=>.inl rfl) ?_;intro u8 l8 hLq;refine G.give m0 _ _ (by kernel_rfl) hA (fun _=>.inl rfl) ?_;intro u9 l9 hLt;refine G.drop PH.mt (by kernel_rfl) (PH.mt_le _) ?_;refine G.r (.tuple #[.agg #[.string (mkS (Ag F.c)),.slice xa ts.length xc,.slice ya qs.length yc],.int .i64 0]) ⟨rfl,_,rfl,ts.map (fun p=>(p,F.s p)),qs.map (fun p=>(p,F.t p)),xa,xc,ya,yc,by rw [List.length_map,List.length_map],?_,?_,Zj hss hsm (fun p hp=>?_) z1,Zj hqss hqsm (fun p hp=>?_) z2,by rw [List.length_map]; exact hlen,by rw [List.length_map]; exact hlen2⟩
 ·rw [List.length_map,List.map_map]; exact hLt
 ·rw [List.length_map,List.map_map]; exact hLq.mono l9
 ·obtain ⟨y,hy,rfl⟩:=List.mem_map.1 hp;exact (q1 y hy).2.1 rfl
 ·obtain ⟨y,hy,rfl⟩:=List.mem_map.1 hp;exact (q2 y hy).2.1 rfl
end
end Go.Proofs.YtnlfnomchebmcaaGreatDoor
