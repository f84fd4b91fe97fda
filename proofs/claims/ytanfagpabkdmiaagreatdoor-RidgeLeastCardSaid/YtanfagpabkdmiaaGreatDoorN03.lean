/- Parts of one proof, joined by a program. -/
import Derived.Test.YtanfagpabkdmiaaGreatDoorN02
import Derived.Outline
import Derived.Deep.RegionWith
import Derived.Deep.DeepCutAuto
import Derived.Laws.CopyOwn
import Derived.Deep.LoopGhost
import Derived.Deep.RegionHeld3
import Derived.Laws.AppendOwn
import Derived.Laws.MakeOwn
import Derived.IntWalk
import Derived.Lib.TrimByte
import Derived.Lib.ItoaNum
import Derived.Laws.IdiomStrings
set_option linter.unusedVariables false
set_option linter.unusedSimpArgs false
set_option linter.unusedSectionVars false
set_option maxHeartbeats 16000000
namespace Go.Proofs.YtanfagpabkdmiaaGreatDoor
open Go.Proofs.Tryz
open Go.RowKit
open _root_.Array renaming ext' -> A4i, getElem?_eq_some_iff -> A4z, length_toList -> A29, mk.injEq -> A3z, range -> A6d, toList_append -> Baf
open Below renaming block -> A7k
open Instr renaming fill -> A73, loadAt -> A74, slice -> A7m, sliceAt -> A5r, sliceBound -> A51, sliceBounds -> A5u, sureAddr -> A3x
open Int renaming ediv_nonneg -> A77, emod_eq_of_lt -> Ba3, le_of_lt -> Bam, mul_add -> Bba, mul_ediv_add_emod -> A9s, mul_neg -> A9o, natAbs_natCast -> A1z, natCast_add -> Bbp, natCast_mul -> A4j, neg_mul -> A8k, neg_neg -> Bbb, toNat_natCast -> A22
open Lib renaming hid -> A0r
open List renaming all_eq_true -> A08, append_assoc -> A1j, append_nil -> A1i, cons.injEq -> A18, drop_drop -> A7a, drop_eq_nil_of_le -> A5i, drop_left -> A8i, eq_nil_of_length_eq_zero -> A13, getElem?_append_left -> A1d, getElem?_eq_some_iff -> A0s, getElem?_toArray -> A2x, length_append -> A0z, length_cons -> A2n, length_nil -> A3i, length_pos_iff -> A4u, length_replicate -> A3e, mem_append -> A01, mem_cons_of_mem -> A1w, mem_flatMap -> A7s, mem_map -> A0u, mem_of_mem_drop -> A3k, nil_append -> A2t, replicate -> A0x, size_toArray -> A7d, take_left -> Bb2, take_of_length_le -> A03, take_zero -> A3y, toList_toArray -> A2z
open Nat renaming add_mul -> A1o, add_zero -> A3f, div_add_mod -> A26, div_lt_iff_lt_mul -> A2w, eq_of_beq_eq_true -> A1h, eq_zero_or_pos -> A1p, gcd -> A2p, gcd_comm -> A87, le_of_succ_le -> A7f, le_refl -> A0w, lt_or_ge -> A11, mod_lt -> A2s, mul_le_mul_right -> A12, mul_pos -> A5h, one_mul -> A3d, pow_le_pow_right -> A1l, sub_zero -> A6i, zero_add -> A2b, zero_mul -> A4p
open Option renaming isSome -> A6o, some.injEq -> A0t
open Rat renaming add_def' -> Bch, divInt -> A2m, divInt_eq_div -> A4h, divInt_ofNat -> A7r, intCast_neg -> A6x, mkRat_def -> Bb6, mkRat_one -> Bb7, mul_def' -> Bcg, normalize_eq -> Bbh
open Result renaming andThen_ok -> A0y
open Sem renaming run_bind -> A1n, run_ite -> A7n, run_pure -> A3g
open Value renaming agg.injEq -> A33, bool.injEq -> A4o, cells -> A1e, int -> A15, ownBlock -> Bb1, slice -> A06, slice.injEq -> A09
open World renaming cell? -> A8j
section
variable {N base g k n:Nat}{e:TypeId}{w w':World}{xs:List Value}
def Q0 (w:World)(m n:Nat)(e:Ending)(w':World):Prop:=∃ u v,e=.returned (.tuple #[u,v])/\Ci w' u m/\Ci w' v n/\Ext w w'
theorem Aa4 {m n:Nat}(h:n<=m):0<=sgn ((m:Int)-n):=by
 rcases A11 n m with h1|h1
 ·rw[B9 oV];omega
 ·rw[show (m:Int)-n=0 by omega,Ny];omega
set_option maxRecDepth 100000 in
theorem Zo (va vb:Value)(m n:Nat)(w:World)(ha:Ci w va m)(hb:Ci w vb n)(sa:nl m<=10000000000000)(sb:nl n<=10000000000000)(hlt:m<n) :
 Calls prog 249 #[va,vb] w (Q0 w 0 m):=by
 have HA:=A0r ha;have hc:=Fa va vb m n w ha hb sa sb;rw[C0 oV]at hc;have HC:=A0r hc;clear ha hb hc
 go_enter func249,ntmps249
 go_wp2_with fail
 refine HC.out.mono ?_;rintro e w' ⟨rfl,q,rfl⟩
 go_wp2_with fail
 go_ret2
 exact⟨_,_,rfl,Ci.zero _ _ _,HA.out.ext ((Ext.refl w).drewN q),(Ext.refl w).drewN q⟩
theorem Dv {d:Nat}(h0:d≠0)(h:d<1000000000):Aa d = [d]:=by
 rw[Ex h0,show d/1000000000=0 by omega,Bd,show d%1000000000=d by omega]
theorem Adp (w1:World)(r:Nat):Row (w1.alloc (Obj.cells #[A15 IntKind.u64 (r:Int)] 266)) (some ⟨w1.heap.size,0,none⟩) (E2 [r]):=by
 intro j hj;obtain rfl:j=0:=by simpa[E2] using hj
 exact⟨_,_,rfl,by simp[E2]⟩
set_option maxRecDepth 100000 in
theorem Xg (va vb:Value)(m n:Nat)(w:World)(ha:Ci w va m)(hb:Ci w vb n)(sa:nl m<=10000000000000)(hn0:0<n)(hn:n<1000000000)(hge:n<=m) :
 Calls prog 249 #[va,vb] w (Q0 w (m/n) (m%n)):=by
 have hl:=Dv oV hn;have HA:=A0r ha;have hc:=Fa va vb m n w ha hb sa (by unfold nl;rw[hl];simp);obtain⟨s,hs⟩:∃ s,s=sgn ((m:Int)-n):=⟨_,rfl⟩;have hs0:0<=s:=by rw[hs];exact Aa4 hge
 rw[<-hs]at hc;have HC:=A0r hc;obtain⟨b,cb,rfl,_,hrow⟩:=hb;rw[hl]at hrow HC⊢;obtain⟨bb,ob,rfl,hcb⟩:=hrow.at (j:=0) mV;simp only[List.getD_cons_zero,A3f]at hcb;have hd0:decide (s<0)=false:=gV
 clear ha hc hrow hs hl
 go_enter func249,ntmps249
 go_wp2_with fail
 refine HC.out.mono ?_;rintro e w' ⟨rfl,q,rfl⟩
 go_wp2_with fail
 have hsh:=O3 va m n _ (HA.out.ext ((Ext.refl w).drewN q)) sa hn0 hn;obtain⟨r,hr⟩:∃ r,r=m%n:=⟨_,rfl⟩;rw[<-hr]at hsh;have hrn:r<1000000000:=by rw[hr];have:=A2s m hn0;omega
 have HR:=A0r hr;clear hr;refine hsh.mono ?_;rintro e w1 ⟨v,rfl,hv,hx⟩;have HV:=A0r hv;have HX:=A0r hx;clear hv hx hsh
 go_wp2_with fail
 have hrow:Row (w1.alloc (Obj.cells #[A15 IntKind.u64 (r:Int)] 266)) (some ⟨w1.heap.size,0,none⟩) (E2 [r]):=Adp w1 r;refine (Fk _ _ _ [r] _ rfl mV mV hrow).mono ?_;rintro e w' ⟨rfl,rfl⟩;have hnat:=C3 (cap:=1) (Low.cons hrn Low.nil) hrow (n:=r) (by simp[val]) mV;have HNAT:=A0r hnat;clear hnat hrow
 go_wp2_with fail
 go_ret2
 have hx2:=(((Ext.refl w).drewN q).trans HX.out).alloc (Obj.cells #[A15 IntKind.u64 (r:Int)] 266);exact⟨_,_,rfl,HV.out.ext ((Ext.refl w1).alloc _),by rw[<-HR.out];exact HNAT.out,hx2⟩
def Wj (n:Nat):Array Value:=(E2 (A0x n 0)).toArray
theorem R6 (W:World)(N:Int)(n:Nat)(hN:N=n)(hn:n<=30000000000000) :
 (Instr.makeSlice 112 (.int .i64 N) (.int .i64 N)).run prog W=.ok (.slice (some ⟨W.heap.size,0,none⟩) n n) (W.alloc (.cells (Wj n) 266)):=by
 subst hN;obtain⟨i0,hi,hz0,hz1,hz2⟩:=info_parts Tryz.info266;have:=run_make (P:=prog) W 112 266 i0 (.int .u64 0) Tryz.underlying112 hi hz0 .i64 .i64 n n oV oV (by rw[hz2];omega) oV;rw[this,A22,hz1];have e:madeCells (A15 .u64 0).cells (n*1)=Wj n:=by
  apply A4i;rw[Jf];rfl
 rw[e]
theorem So (W:World)(base n:Nat)(hb:base<=W.heap.size)(hn:n<=30000000000000) :
 (W.alloc (.cells (Wj n) 266)).ownsRow base 266 1 (.slice (some ⟨W.heap.size,0,none⟩) n n) n (E2 (A0x n 0)):=by
 have:=World.ownsRow_lit (e:=266) (size:=1) (base:=base) W (Wj n) n hb (by unfold maxLen;omega) (by simp[Wj]);exact this
def Xr (w:World)(B N V:Nat)(u v:Value)(wx:World):Prop :=
 ∃ g av nv cv,u=.slice (some ⟨g,0,none⟩) N N/\v=.slice av nv cv/\nv=nl V/\wx.ownsRow B 266 1 (.slice (some ⟨g,0,none⟩) N N) N (E2 (A0x N 0)) /\
  Et wx g av (E2 (Aa V))/\Ext w wx/\w.heap.size<=g
theorem Ext.grownBy (h:Ext w w')(r:Option Nat):w.grownBy w' r:=⟨h.os,h.tape,h.output,h.size,fun k hk _=>A7k h k hk⟩
theorem Atf {size g n cap k:Nat}(h:w.ownsRow base e size (.slice (some ⟨g,0,none⟩) n cap) k xs)(x:Ext w w') :
 w'.ownsRow base e size (.slice (some ⟨g,0,none⟩) n cap) k xs:=h.kept (x.grownBy none) (Or.inr (by simp[Bb1]))
theorem Aoi {W2 w3:World}{N V kk cap:Nat}(hN:N<=30000000000000)(hv:Ci w3 (.slice (some ⟨(W2.alloc (.cells (Wj N) 266)).drew.heap.size,0,none⟩) kk cap) V)
 (hx:Ext (W2.alloc (.cells (Wj N) 266)).drew w3) :
 Xr W2 W2.heap.size N V (.slice (some ⟨W2.heap.size,0,none⟩) N N) (.slice (some ⟨W2.heap.size+1,0,none⟩) kk cap) w3:=by
 have hs:(W2.alloc (.cells (Wj N) 266)).drew.heap.size=W2.heap.size+1:=mV
 rw[hs]at hv;obtain⟨a',c',e1,_,hr⟩:=hv;simp only[A09]at e1;obtain⟨rfl,e2,rfl⟩:=e1;refine⟨W2.heap.size,_,_,_,rfl,rfl,e2,Atf (World.ownsRow.drew (So W2 _ N (A0w _) hN)) hx,⟨hr,?_⟩,(((Ext.refl W2).alloc _).drew).trans hx,A0w _⟩;intro b off hb;simp only[A0t,Addr.mk.injEq,and_true]at hb;omega
theorem Ao4 {W2 w3:World}{N V kk cap:Nat}(hN:N<=30000000000000)(hV:0<V)(hv:Ci w3 (.slice (some ⟨W2.drew.heap.size,0,none⟩) kk cap) V)(hx:Ext W2.drew w3) :
 Xr W2 W2.heap.size N V (.slice (some ⟨w3.heap.size,0,none⟩) N N) (.slice (some ⟨W2.heap.size,0,none⟩) kk cap) (w3.alloc (.cells (Wj N) 266)):=by
 have hs:W2.drew.heap.size=W2.heap.size:=rfl;rw[hs]at hv;obtain⟨a',c',e1,_,hr⟩:=hv;simp only[A09]at e1;obtain⟨rfl,e2,rfl⟩:=e1;have hlt:W2.heap.size<w3.heap.size:=by
  obtain⟨b,off,h1,h2⟩:=hr.at (j:=0) (by
   have:Aa V≠[]:=fun e=>by have:=Fh.1 e;omega
   exact A4u.2 this)
  simp only[A0t,Addr.mk.injEq,and_true]at h1;have:=block_lt_of_cell h2;simp only at this;omega
 have hx2:Ext W2 w3:=((Ext.refl W2).drew).trans hx;refine⟨w3.heap.size,_,_,_,rfl,rfl,e2,So w3 _ N hx2.size hN,⟨hr.ext ((Ext.refl w3).alloc _),?_⟩,hx2.alloc _,hx2.size⟩;intro b off hb;simp only[A0t,Addr.mk.injEq,and_true]at hb;omega
theorem Nd (h:w.ownsRow base e 1 (.slice (some ⟨g,0,none⟩) n n) n xs) :
 w.heap[g]?=some (.cells xs.toArray e (0,0))/\base<=g:=by
 rcases h.2 with ⟨h',_⟩|⟨g',cap',cur,h',hb,hg,_,_,hsz,htake⟩
 ·simp at h'
 ·simp only[A09,A0t,Addr.mk.injEq,and_true,true_and]at h';obtain⟨rfl,rfl⟩:=h';rw[A03 gV]at htake;rw[<-htake];exact⟨by simpa using hg,hb⟩
theorem Abt (h:w.heap[g]?=some (.cells xs.toArray e (0,0)))(hb:base<=g)(hn:xs.length=n)(hm:n<=30000000000000) :
 w.ownsRow base e 1 (.slice (some ⟨g,0,none⟩) n n) n xs:=by
 refine⟨oV,Or.inr ⟨g,n,xs.toArray,rfl,hb,h,A0w _,by unfold maxLen;omega,gV,?_⟩⟩;rw[A03 gV]
theorem V4 (w:World)(g:Nat)(cs:Array Value):w.grownBy (w.setRow g cs) (some g) :=
 ⟨rfl,rfl,rfl,mV,fun k _ hk=>setRow_other w g k _ (fun e=>hk (by simp[e]))⟩
theorem An3 {l:List Nat}(h:w.ownsRow base 266 1 (.slice (some ⟨g,0,none⟩) N N) N (E2 (A0x N 0)))(hl:l.length<=N)(hN:N<=30000000000000) :
 (w.setRow g ((E2 (A0x N 0)).toArray.toList.take 0++(E2 l++(E2 (A0x N 0)).toArray.toList.drop (0+(E2 l).length))).toArray).ownsRow base 266 1 (.slice (some ⟨g,0,none⟩) N N) N
  (E2 (l++A0x (N-l.length) 0)):=by
 obtain⟨h1,h2⟩:=Nd h;have e:(E2 (A0x N 0)).toArray.toList.take 0++(E2 l++(E2 (A0x N 0)).toArray.toList.drop (0+(E2 l).length))=E2 (l++A0x (N-l.length) 0):=by
  simp[E2]
 rw[e];exact Abt (setRow_heap w g _ _ _ _ h1) h2 gV hN
theorem Of {w:World}{ops:Array Oper}{rest:List Oper}{o:Oper}{a:Act}{Q:Exit->Act->World->Prop}(hgd:o.guard=none)(d s:Operand)
 (ho:o.op=.call { callee:=.builtin .copy,args:=#[d,s],argTypes:=#[112,112] })
 (base g N sLen sCap:Nat) (ad:Addr) (l:List Nat) (hd:a.eval d=.slice (some ⟨g,0,none⟩) N N) (hs:a.eval s=.slice (some ad) sLen sCap)
 (hown:w.ownsRow base 266 1 (.slice (some ⟨g,0,none⟩) N N) N (E2 (A0x N 0))) (hl:l.length=sLen) (hN:N<=30000000000000) (hle:l.length<=N)
 (hsrc:Row w (some ad) (E2 l))
 (h:∀ w',w'.ownsRow base 266 1 (.slice (some ⟨g,0,none⟩) N N) N (E2 (l++A0x (N-l.length) 0))->w.grownBy w' (some g)->wpList prog ops Q rest (a.put o.dst (goInt (E2 l).length)) w') :
 wpList prog ops Q (o::rest) a w:=by
 obtain⟨i0,hi,hz0,hz1,hz2⟩:=info_parts Tryz.info266;refine wpList_copy_own hgd d s _ _ ho 266 Tryz.underlying112 (by rw[hi];simp[hz1]) g 0 N N ad sLen sCap hd hs (E2 (A0x N 0)).toArray 266 (Nd hown).1 (E2 l)
  (by rw[Qh,hl];exact (Nat.min_eq_left oV).symm) (fun j v hj=>?_) gV (fun v hv=>?_) (h _ (An3 hown hle hN) (V4 _ _ _))
 ·have hjl:j<l.length:=by
   rcases A11 j l.length with h|h
   ·exact h
   ·rw[List.getElem?_eq_none (by simpa using h)]at hj;cases hj
  obtain⟨b',off',h1,h2⟩:=hsrc j (by simpa using hjl);simp only[A0t]at h1;subst h1;have:(⟨b',off',none⟩:Addr).add j=⟨b',off'+j,none⟩:=by
   unfold Addr.add;split
   ·rename_i h;subst h;rfl
   ·rfl
  rw[this,h2,List.getD_eq_getElem?_getD,hj];rfl
 ·obtain⟨x,_,rfl⟩:=A0u.1 hv;rfl
def Anv (w:World)(A V n M N g gq:Nat)(av:Option Addr)(i:Value)(wr:World):Prop :=
 ∃ (j:Nat) (u qs:List Nat),j<=M/\i=.int .i64 ((j:Int)-1)/\K7 A V n M j u qs /\
  wr.ownsRow w.heap.size 266 1 (.slice (some ⟨g,0,none⟩) N N) N (E2 u)/\wr.ownsRow w.heap.size 266 1 (.slice (some ⟨gq,0,none⟩) M M) M (E2 qs) /\
  Et wr g av (E2 (Aa V))/\Et wr gq av (E2 (Aa V))/\Ext w wr
theorem Et.ext {w w':World}{g:Nat}{a:Option Addr}{cs:List Value}(h:Et w g a cs)(x:Ext w w'):Et w' g a cs:=⟨h.1.ext x,h.2⟩
theorem Et.new {a:Option Addr}{cs:List Value}(h:Et w g a cs)(hc:0<cs.length)(x:Ext w w'):Et w' w.heap.size a cs:=by
 refine⟨h.1.ext x,fun b off hb=>?_⟩;obtain⟨b',off',h1,h2⟩:=h.1 0 hc;have:=block_lt_of_cell h2;rw[hb]at h1;simp only[A0t,Addr.mk.injEq,and_true]at h1;simp only at this;omega
theorem Al4 (h:w.ownsRow base e 1 (.slice (some ⟨g,0,none⟩) n n) k xs):g<w.heap.size:=(h.lt g rfl).2
theorem R9 {base e g g' n k:Nat}(h:w.ownsRow base e 1 (.slice (some ⟨g,0,none⟩) n n) k xs)(hg:w.grownBy w' (some g'))(hne:g≠g') :
 w'.ownsRow base e 1 (.slice (some ⟨g,0,none⟩) n n) k xs:=h.kept hg (Or.inr (by simp[Bb1,hne]))
set_option maxRecDepth 100000 in
theorem Zi (va vb:Value)(m n k:Nat)(w:World)(ha:Ci w va m)(hb:Ci w vb n)(sa:nl m<=5000000000000)(hn:nl n=k+2)(hge:n<=m) :
 Calls prog 249 #[va,vb] w (Q0 w (m/n) (m%n)):=by
 obtain⟨i0,hi,hz0,hz1,hz2⟩:=info_parts Tryz.info266;have HI:=A0r hi;have HZ0:=A0r hz0;have HZ1:=A0r hz1;have HZ2:=A0r hz2;clear hi hz0 hz1 hz2;have hnm:k+2<=nl m:=by rw[<-hn];exact C6 hge
 have hc:=Fa va vb m n w ha hb oV oV;obtain⟨s,hs⟩:∃ s,s=sgn ((m:Int)-n):=⟨_,rfl⟩;have hs0:0<=s:=by rw[hs];exact Aa4 hge
 rw[<-hs]at hc;have HC:=A0r hc;have HNP:Hid (0<n):=by
  rcases A1p n with h0|h0
  ·rw[h0,Qy]at hn;omega
  ·exact h0
 have HA:=A0r ha;have HB:=A0r hb;have hnorm:=Ama.make hn;obtain⟨a,ca,rfl,_,hrowa⟩:=ha;obtain⟨b,cb,rfl,_,hrow⟩:=hb;have hlen:(Aa n).length=k+2:=hn;have hlenm:(Aa m).length=nl m:=rfl;obtain⟨bb,ob,rfl,hcb⟩:=hrow.at (j:=k+1) oV;obtain⟨b1,hb1⟩:∃ b1,b1=(Aa n).getD (k+1) 0:=⟨_,rfl⟩;have hb1l:b1<1000000000:=by rw[hb1];exact (Am n).getD _
 rw[<-hb1]at hcb hnorm;rw[hlen]at HC HB⊢;rw[hlenm]at HC HA⊢;obtain⟨f,hf⟩:∃ f,f=1000000000/(b1+1):=⟨_,rfl⟩;rw[<-hf]at hnorm;obtain⟨L,hL⟩:∃ L,L=nl m:=⟨_,rfl⟩;rw[<-hL]at HC HA sa hnm⊢;have hfi:(1000000000:Int)/((b1:Int)+1)=(f:Int):=by rw[hf];simp
 have hf1:=hnorm.pos;have hf2:=hnorm.low;have HNM:=A0r hnorm;have HL:=A0r hL;have HF:=A0r hf;have hd0:decide (s<0)=false:=gV
 have hd1:(((k:Int)+2)==1)=false:=gV
 clear hc hrow hrowa hs hlen hlenm hnorm hb1 hL hf hn
 go_enter func249,ntmps249
 go_wp2_with fail
 refine HC.out.mono ?_;rintro e w' ⟨rfl,q,rfl⟩
 go_upto_region 7 with fail
 have x2:Ext w ((w.drewN q).alloc (Obj.cells #[A15 IntKind.u64 (f:Int)] 266)):=((Ext.refl w).drewN q).alloc _;have hfr:Ci ((w.drewN q).alloc (Obj.cells #[A15 IntKind.u64 (f:Int)] 266)) (.slice (some ⟨w.heap.size,0,none⟩) 1 1) f:=by
  refine⟨_,1,by rw[Dv oV hf2];rfl,by rw[Dv oV hf2];simp,?_⟩;rw[Dv oV hf2];exact Adp (w.drewN q) f
 have hfc:((w.drewN q).alloc (Obj.cells #[A15 IntKind.u64 (f:Int)] 266)).cell? ⟨w.heap.size,0,none⟩=some (.int .u64 (f:Int)):=World.cell?_alloc_new (w:=w.drewN q) _ _ _;generalize (w.drewN q).alloc (Obj.cells #[A15 IntKind.u64 (f:Int)] 266)=W2 at *
 have X2:=A0r x2;have HFR:=A0r hfr;have HFC:=A0r hfc;clear x2 hfr hfc HC
 go_cut [9,10] (Xr W2 W2.heap.size (L+1) (n*f))
 case first =>
  have hmk:=fun W:World=>R6 W ((L:Int)+1) (L+1) oV oV;have hmul:=fun (W:World) (x:Ext W2 W)=>O6 _ _ n f W (HB.out.ext (X2.out.trans x)) (HFR.out.ext x) (by rw[HNM.out.len];omega) (by unfold nl;rw[Dv oV hf2];simp);have HM:=A0r hmul;clear hmul;have hw1:IntKind.i64.wrap ((L:Int)+1)=(L:Int)+1:=IntWalk.i64_in _ oV
  go_region_with (first|(go_at_call 198;refine (HM.out _ ?_).mono ?_;(first|exact (Ext.refl _).drew|exact ((Ext.refl _).alloc _).drew|exact ((Ext.refl _).drew).alloc _);rintro e w3 ⟨kk,cap,rfl,hv,hx⟩))
  all_goals (try go_wp2_with fail)
  all_goals go_meet
  ·exact Aoi oV hv hx
  ·exact Ao4 oV (A5h HNP.out oV) hv hx
 case rest =>
  obtain⟨g,av,nv,cv,rfl,rfl,hnv,hown,hvr,hx,hg⟩:=hcut;rw[HNM.out.vlen]at hnv;subst hnv;have HO:=A0r hown;have HV:=A0r hvr;have HX:=A0r hx;clear hown hvr hx
  go_wp2_with fail
  refine (O6 _ _ m f _ (HA.out.ext (X2.out.trans HX.out)) (HFR.out.ext HX.out) (by rw[<-HL.out];omega) (by unfold nl;rw[Dv oV hf2];simp)).mono ?_;rintro e w3 ⟨kk,cap,rfl,hv,hx⟩;obtain⟨au,cu,e1,_,hru⟩:=hv;simp only[A09]at e1;obtain⟨rfl,e2,rfl⟩:=e1;have hlu:(Aa (m*f)).length<=L+1:=by
   have h1:=Fp m f;have h2:nl f<=1:=by unfold nl;rw[Dv oV hf2];simp
   rw[<-HL.out]at h1;unfold nl at h1 h2;omega
  have ho3:=Atf HO.out hx;have HO3:=A0r ho3;have HX3:=A0r hx;have HLU:=A0r hlu;have HE2:=A0r e2;have HRU:=A0r hru;clear ho3 hx hlu e2 hru;obtain⟨M,hM⟩:∃ M,M=L+1-(k+2):=⟨_,rfl⟩;have hM1:L+1=M+(k+2):=oV
  have HMM:=A0r hM;have HM1:=A0r hM1;have hM2:M<=L:=oV
  clear hM hM1
  go_wp2_with (first
   |(with_reducible refine Of rfl (.tmp 49) (.tmp 52) rfl W2.heap.size g (L+1) kk _ ⟨wc.heap.size,0,none⟩ (Aa (m*f)) rfl rfl HO3.out HE2.out.symm oV HLU.out HRU.out ?_;intro w4 ho4 hg4;have HO4:=A0r ho4;have HG4:=A0r hg4;clear ho4 hg4;have X4:=A0r ((HX.out.trans HX3.out).grown HG4.out (fun k' hk'=>by cases hk';exact hg));have HV4:=A0r ((HV.out.ext HX3.out).grown HG4.out))
   |(at_make;refine wpList_make_full _ rfl _ _ 112 rfl W2.heap.size 266 i0 (.int .u64 0) 1 Tryz.underlying112 HI.out HZ0.out HZ1.out .i64 .i64 _ _ M rfl rfl (by have:=HMM.out;omega) (by have:=HMM.out;omega) (by rw[HZ2.out];omega) (by unfold maxLen;omega) X4.out.size ?_;intro w5 ho5 hg5;rw[Jf]at ho5;have HO5:=A0r ho5;have X5:Hid (Ext w4 w5):=(Ext.refl w4).grown hg5 (fun k' hk'=>by cases hk');clear ho5 hg5))
  have hgq:g≠w4.heap.size:=by have:=Al4 HO4.out;omega
  have hvlen:0<(E2 (Aa (n*f))).length:=by rw[Qh];have:=HNM.out.vlen;unfold nl at this;omega
  have HV5:=A0r (HV4.out.ext X5.out);have HQ5:=A0r (HV4.out.new hvlen X5.out);have HU5:=A0r (Atf HO4.out X5.out);have XX5:=A0r (X4.out.trans X5.out);generalize w4.heap.size=gq at *
  clear HO HV HO3 HX3 HRU HV4 HO4 HG4 X4 X5 hvlen
  go_loopw [12] (Anv W2 (m*f) (n*f) (k+2) M (L+1) g gq av) (fun i _=>(intOf i+1).toNat)
  case atStart =>
   have hu5:=HU5.out;rw[show L+1-(Aa (m*f)).length=M+(k+2)-nl (m*f) by unfold nl;have:=HM1.out;omega]at hu5;exact⟨M,_,_,A0w _,rfl,K7.start HNM.out (by rw[<-HL.out];exact HM1.out),hu5,HO5.out,HV5.out,HQ5.out,XX5.out⟩
  case round =>
   obtain⟨j,u,qs,hj,rfl,hst,hou,hoq,hvu,hvq,hx⟩:=hrel;have HS:=A0r hst;have HU:=A0r hou;have HQ:=A0r hoq;have HVU:=A0r hvu;have HVQ:=A0r hvq;have HXR:=A0r hx;clear hst hou hoq hvu hvq hx HV5 HQ5 HU5 XX5 HO5;rcases j with _|j
   ·have hdone:=HS.out.done (A5h HNP.out oV);rw[(Aan (m:=m) (n:=n) (show 0<f by omega)).1,(Aan (m:=m) (n:=n) (show 0<f by omega)).2]at hdone;have hul:u.length=L+1:=by rw[HS.out.ulen];exact HM1.out.symm
    have hrowu:=Row.of_owns HU.out;have hrowq:=Row.of_owns HQ.out;have hfc:=HXR.out.cell HFC.out;have hut:val (u.take (k+2))=(m%n)*f:=by
     rw[<-hdone.2];have:=Gi (u:=u) (j:=0) (k:=k+2) (fun i hi=>HS.out.zero i hi);simpa using this
    have HUT:=A0r hut;have HDN:=A0r hdone;have HRU:=A0r hrowu;have HRQ:=A0r hrowq;have HUL:=A0r hul;clear hdone hul hrowu hrowq hut;have hrt:Row wr (some ⟨g,0,none⟩) (E2 (u.take (k+2))):=by rw[<-U1];exact HRU.out.take _
    have hltk:(u.take (k+2)).length=k+2:=by rw[List.length_take,HUL.out];have:=HM1.out;omega
    obtain⟨X,hX⟩:∃ X,X=A06 (some ⟨g,0,none⟩) (Bj (u.take (k+2)) (u.take (k+2)).length) (L+1):=⟨_,rfl⟩;have hXn:Ci wr X ((m%n)*f):=by
     rw[hX];exact C3 (HS.out.ulow.take _) hrt HUT.out (by rw[hltk];have:=HM1.out;omega)
    have htr:∀ W,Ext wr W->Calls prog 228 #[.slice (some ⟨g,0,none⟩) (k+2) (L+1)] W fun e w'=>e=.returned X/\W=w':=fun W x=>by
     rw[hX];exact Fk _ _ _ _ W hltk oV (by have:=HM1.out;omega) (hrt.ext x)
    have hmn:nl ((m%n)*f)<=10000000000000:=by
     have h1:=Fp (m%n) f;have h2:nl f<=1:=by unfold nl;rw[Dv oV hf2];simp
     have h3:nl (m%n)<=nl m:=C6 (Nat.mod_le _ _);rw[<-HL.out]at h3;omega
    have hsh:∀ W,Ext wr W->Calls prog 292 #[X,.int .u64 f] W (M3 W (m%n) 0):=fun W x=>by
     have:=O3 X ((m%n)*f) f W (hXn.ext x) hmn oV hf2;rw[Nat.mul_div_cancel _ oV,Nat.mul_mod_left]at this;exact this
    have HTR:=A0r htr;have HSH:=A0r hsh;clear htr hsh hX hrt hltk hXn hmn;have hM3:M<=9223372036854775807:=oV
    have hqz:HQ=HQ:=rfl;clear hqz
    go_wp2_with fail
    go_region_with (first
     |(go_at_call 228;refine (HTR.out _ ?_).mono ?_;(exact (Ext.refl _).drew);rintro e w7 ⟨rfl,rfl⟩)
     |(go_at_call 292;refine (HSH.out _ ?_).mono ?_;(exact (Ext.refl _).drew);rintro e w7 ⟨v7,rfl,hv7,hx7⟩))
    all_goals
     have HV7:=A0r hv7;have HX7:Hid (Ext wr w7):=((Ext.refl wr).drew).trans hx7;clear hv7 hx7
     go_wp2_with fail
     refine (Fk _ _ _ qs _ HS.out.qlen hM3 (A0w _) (HRQ.out.ext HX7.out)).mono ?_;rintro e w8 ⟨rfl,rfl⟩
     go_wp2_with fail
     go_ret2
     have hqn:=C3 (cap:=M) HS.out.qlow (HRQ.out.ext HX7.out) (n:=m/n) HDN.out.1 (by rw[HS.out.qlen];exact A0w _);exact⟨_,_,rfl,hqn,HV7.out,(X2.out.trans HXR.out).trans HX7.out⟩
   ·rw[show ((j+1:Nat):Int)-1=j by omega];have hul:u.length=L+1:=by rw[HS.out.ulen];exact HM1.out.symm
    have hbef:=HS.out.before (show j<M by omega);have hqlt:val ((u.drop j).take (k+2+1))/(n*f)<1000000000:=by
     rw[A2w (A5h HNP.out oV)];exact hbef
    have hstep:=Aft W2.heap.size g (L+1) j k (L+1-j) av cv u (Aa (n*f)) wr HU.out HVU.out hul HS.out.ulow (Am _) HNM.out.vlen (by have:=HM1.out;omega) oV (by have:=HM1.out;omega) HNM.out.vtop (by rw[Aj];exact hbef);rw[Aj]at hstep;obtain⟨qd,hqd⟩:∃ qd,qd=val ((u.drop j).take (k+2+1))/(n*f):=⟨_,rfl⟩;have HQD:=A0r hqd;have HST:=A0r hstep;have hm1:=HM1.out;have hjj:j+(k+2)+1<=L+1:=oV
    have hjm:j<M:=oV
    have hcz:L+1≠j:=oV
    clear hqd hstep hbef hul hm1
    go_wp2_with fail
    rw[show j+(k+2)+1-j=k+3 by omega];refine HST.out.mono ?_;rintro e w6 ⟨o,rfl,hsd,how,hgr⟩;rw[<-HQD.out];have hq6:=R9 HQ.out hgr hgq.symm;have hcq:=Fs hq6 (j:=j) (by rw[HS.out.qlen];omega);have hfq:=hq6.frozenAt j;have HQ6:=A0r hq6;have HU6:=A0r how;have HGR:=A0r hgr;have HSD:=A0r hsd;clear hq6 how hgr hsd
    go_wp2_with fail
    have hset:=Js j qd HQ6.out (Rq w6 (some gq));refine⟨⟨j,o,qs.set j qd,oV,rfl,?_,R9 HU6.out hset.2 hgq,hset.1,?_,?_,?_⟩,by simp only[intOf];omega⟩
    ·rw[HQD.out];exact HS.out.step hjm (A5h HNP.out oV) (by have:=Cd (n*f);rw[HNM.out.vlen]at this;exact this) HSD.out hqlt
    ·refine⟨?_,HVU.out.2⟩;exact (Et.grown ⟨(HVU.out.grown HGR.out).1,HVQ.out.2⟩ hset.2).1
    ·exact Et.grown ⟨(HVU.out.grown HGR.out).1,HVQ.out.2⟩ hset.2
    ·have x6:=HXR.out.grown HGR.out (fun k' hk'=>by cases hk';exact hg);exact x6.grown hset.2 (fun k' hk'=>by cases hk';exact (Nd HQ.out).2)
theorem Ub (va vb:Value)(m n:Nat)(w:World)(ha:Ci w va m)(hb:Ci w vb n)(sa:nl m<=5000000000000)(sb:nl n<=5000000000000)(hn:0<n) :
 Calls prog 249 #[va,vb] w (Q0 w (m/n) (m%n)):=by
 rcases A11 m n with h|h
 ·rw[Nat.div_eq_of_lt h,Nat.mod_eq_of_lt h];exact Zo va vb m n w ha hb oV oV h
 ·rcases A11 n 1000000000 with h2|h2
  ·exact Xg va vb m n w ha hb oV hn h2 h
  ·have h3:2<=nl n:=by
    rcases A11 (nl n) 2 with h4|h4
    ·have h5:=Cd n;have h6:1000000000^nl n<=1000000000^1:=A1l oV oV;rw[Nat.pow_one]at h6;omega
    ·exact h4
   exact Zi va vb m n (nl n-2) w ha hb sa oV h
end
section
variable {n:Nat}
theorem Aeu (h:nl n<=2):n=(Aa n).getD 1 0*1000000000+(Aa n).getD 0 0:=by
 have h1:=Wh (Aa n) 0;rw[A03 (show (Aa n).length<=0+2 from h),Aj]at h1;simp only[A3y,val,Nat.pow_zero,A3d,A2b]at h1;omega
set_option maxRecDepth 100000 in
theorem W9 (va:Value)(n:Nat)(w:World)(ha:Ci w va n)(h:nl n<=2) :
 Calls prog 291 #[va] w fun e w'=>e=.returned (.int .u64 (n:Int))/\w=w':=by
 have hs:=Aeu h;obtain⟨a,c,rfl,_,hr⟩:=ha;have hx:=Tk a c (Aa n) 1 w (by unfold nl at h;omega) oV hr;have hy:=Tk a c (Aa n) 0 w (by unfold nl at h;omega) oV hr;rw[show (1:Int).toNat=1 by rfl]at hx;rw[show (0:Int).toNat=0 by rfl]at hy;have b1:=(Am n).getD 1;have b0:=(Am n).getD 0;obtain⟨x,ex⟩:∃ x,x=(Aa n).getD 1 0:=⟨_,rfl⟩;obtain⟨y,ey⟩:∃ y,y=(Aa n).getD 0 0:=⟨_,rfl⟩;rw[<-ex]at hx b1 hs;rw[<-ey]at hy b0 hs;have HX:=A0r hx;have HY:=A0r hy;have HS:=A0r hs;clear hx hy hs ex ey hr
 go_enter func291,ntmps291
 go_wp2_with fail
 refine HX.out.mono ?_;rintro e w' ⟨rfl,rfl⟩
 go_wp2_with fail
 refine HY.out.mono ?_;rintro e w' ⟨rfl,rfl⟩
 go_wp2_with fail
 go_ret
 exact⟨Al8 (by have:=HS.out;omega),rfl⟩
theorem U9 (h:nl n<=2):n<1000000000000000000:=by
 have h1:=Cd n;have h2:1000000000^nl n<=1000000000^2:=A1l oV h;rw[show (1000000000:Nat)^2=1000000000000000000 by rfl]at h2;omega
theorem T3 (m n:Nat):A2p n (m%n)=A2p m n:=by rw[A87 m n,Nat.gcd_rec n m,A87]
end
section
variable {b:Bool}{g n:Nat}{s:Value}{t:TypeId}{w:World}
def Abu (w:World)(v:Value)(z:Int):Prop:=∃ a n c,v=.agg #[.bool (decide (z<0)),.slice a n c]/\Ci w (.slice a n c) z.natAbs
theorem Abu.ext {w w':World}{v:Value}{z:Int}(h:Abu w v z)(x:Ext w w'):Abu w' v z:=by
 obtain⟨a,n,c,h1,h2⟩:=h;exact⟨a,n,c,h1,h2.ext x⟩
def Ah9 (w:World)(z:Int)(e:Ending)(w':World):Prop:=∃ v,e=.returned v/\Abu w' v z/\Ext w w'
def Bp (neg:Bool)(n:Nat):Int:=if neg then -(n:Int) else n
theorem Ik (neg:Bool)(n:Nat):(Bp neg n).natAbs=n:=by unfold Bp;split<;>omega
theorem Tr (neg:Bool)(n:Nat):decide (Bp neg n<0)=(neg&&decide (0<n)):=by
 unfold Bp;cases neg<;>simp<;>omega
theorem Po (z:Int):Bp (decide (z<0)) z.natAbs=z:=by
 unfold Bp;by_cases h:z<0<;>simp[h]<;>omega
theorem W5 {b neg:Bool}(hb:b=(neg&&decide (0<n)))(hs:Ci w s n):Abu w (.agg #[.bool b,s]) (Bp neg n):=by
 obtain⟨a,c,rfl,h2⟩:=id hs;exact⟨a,_,c,by rw[Tr,hb],by rw[Ik];exact hs⟩
theorem Amq {z:Int}(hb:b=decide (z<0))(hs:Ci w s z.natAbs):Abu w (.agg #[.bool b,s]) z:=by
 obtain⟨a,c,rfl,h2⟩:=id hs;exact⟨a,_,c,by rw[hb],hs⟩
theorem Ce :0<(Aa n).length↔0<n:=by
 constructor
 ·intro h;rcases A1p n with h0|h0
  ·rw[h0,Bd]at h;simp at h
  ·exact h0
 ·intro h;exact A4u.2 (fun e=>by have:=Fh.1 e;omega)
theorem Mq (w:World)(a:Addr)(v:Value):w.grownBy (w.setCell a v) (some a.block) :=
 ⟨rfl,rfl,rfl,by simp[World.setCell],fun k _ hk=>Below.heap_setCell _ _ _ _ (fun e=>hk (by rw[e]))⟩
def Aj4 (w:World)(g:Nat):Prop:=∃ (cs:Array Value) (t:TypeId) (fr:Nat×Nat),w.heap[g]?=some (.cells cs t fr)/\∀ (j:Nat) (k:IntKind) (z:Int),cs[j]?≠some (A15 k z)
theorem Ci.grown {w w':World}(h:Ci w s n)(hg:Aj4 w g)(hw:w.grownBy w' (some g)):Ci w' s n:=by
 obtain⟨a,c,h1,h2,h3⟩:=h;refine⟨a,c,h1,h2,fun j hj=>?_⟩;obtain⟨b,off,e1,e2⟩:=h3 j hj;refine⟨b,off,e1,hw.cell e2 ?_⟩;simp only[ne_eq,A0t];intro e;obtain⟨cs,t,fr,hb,hno⟩:=hg;rw[<-e]at hb;rw[cell_of_row _ _ _ _ _ _ hb]at e2;have hj':j<(Aa n).length:=by simpa using hj
 refine hno _ .u64 ((Aa n).getD j 0:Nat) (e2.trans ?_);simp[E2,hj']
theorem Ai4 {o0 o1 v0 v1:Value}(h:w.heap[g]?=some (.cells #[o0,o1] t (0,0))) :
 ((w.setCell ⟨g,0,none⟩ v0).setCell ⟨g,1,none⟩ v1).heap[g]?=some (.cells #[v0,v1] t (0,0)):=by
 rw[heap_setCell_same _ _ _ _ _ _ (heap_setCell_same _ _ _ _ _ _ h)];rfl
theorem An0 (w:World)(g:Nat)(v0 v1:Value):w.grownBy ((w.setCell ⟨g,0,none⟩ v0).setCell ⟨g,1,none⟩ v1) (some g) :=
 Qd (Mq _ _ _) (Mq _ _ _)
theorem Apx {a w:World}(h:Ext a w)(hg:a.heap.size<=g)(v0 v1:Value):Ext a ((w.setCell ⟨g,0,none⟩ v0).setCell ⟨g,1,none⟩ v1) :=
 (h.setCell (p:=⟨g,0,none⟩) hg v0).setCell (p:=⟨g,1,none⟩) hg v1
theorem Ak8 {a:Option Addr}{n c:Nat}(h:w.heap[g]?=some (.cells #[.bool b,.slice a n c] t (0,0))):Aj4 w g:=by
 refine⟨_,_,_,h,fun j k z e=>?_⟩
 match j with
 |0=>simp at e
 |1=>simp at e
 |j+2=>simp at e
theorem Tryz.size114:(prog.info? 114).map (·.size)=some 2:=kV
theorem Alg {fn:Func}{p:Tmp}{R:Ending->World->Prop}{a:Act}{w:World}{g:Nat}{v0 v1:Value}(h:fn.results = #[.cell p 114])
 (hp:a.tmps.getD p undef=.pointer (some ⟨g,0,none⟩)) (hg:w.heap[g]?=some (.cells #[v0,v1] 114 (0,0))) (hd:a.defers = []) (hR:R (.returned (.agg #[v0,v1])) w) :
 bodyPost prog fn R .ret a w :=
 ⟨hd,_,results_cell_row h a.tmps w g _ _ _ _ hp hg Tryz.underlying114 rfl Tryz.size114,hR⟩
set_option maxRecDepth 100000 in
theorem Acb (neg:Bool)(s:Value)(n:Nat)(w:World)(h:Ci w s n)(hn:nl n<=100000000000000) :
 Calls prog 197 #[.bool neg,s] w (Ah9 w (Bp neg n)):=by
 have H:=A0r h;obtain⟨a,c,rfl,_,_⟩:=h;have hl:(Aa n).length<=100000000000000:=hn;by_cases hp:0<(Aa n).length
 ·have hd:decide (0<((Aa n).length:Int))=true:=gV
  have hp':=Ce.1 hp;cases neg
  ·go_enter func197,ntmps197
   go_wp2_with fail
   refine bodyPost_ret (v:=.agg #[.bool false,.slice a (Aa n).length c]) (by simp[results,Tryz.results197,go_sem]) rfl ⟨_,rfl,W5 rfl (H.out.ext ((Ext.refl w).alloc _)),(Ext.refl w).alloc _⟩
  ·go_enter func197,ntmps197
   go_wp2_with fail
   refine bodyPost_ret (v:=.agg #[.bool true,.slice a (Aa n).length c]) (by simp[results,Tryz.results197,go_sem]) rfl ⟨_,rfl,W5 (by simp[hp']) (H.out.ext ((Ext.refl w).alloc _)),(Ext.refl w).alloc _⟩
 ·have hd:decide (0<((Aa n).length:Int))=false:=by simp only[decide_eq_false_iff_not];omega
  have hp':¬ 0<n:=fun h=>hp (Ce.2 h);cases neg
  ·go_enter func197,ntmps197
   go_wp2_with fail
   refine bodyPost_ret (v:=.agg #[.bool false,.slice a (Aa n).length c]) (by simp[results,Tryz.results197,go_sem]) rfl ⟨_,rfl,W5 rfl (H.out.ext ((Ext.refl w).alloc _)),(Ext.refl w).alloc _⟩
  ·go_enter func197,ntmps197
   go_wp2_with fail
   refine bodyPost_ret (v:=.agg #[.bool false,.slice a (Aa n).length c]) (by simp[results,Tryz.results197,go_sem]) rfl ⟨_,rfl,W5 (by simp[hp']) (H.out.ext ((Ext.refl w).alloc _)),(Ext.refl w).alloc _⟩
end
section
variable {g:Nat}{t:TypeId}{w:World}{y z:Int}
theorem Amc {x y:Value}(h:w.heap[g]?=some (.cells #[x,y] t (0,0))):w.cell? ⟨g,0,none⟩=some x:=by rw[cell_of_row _ _ _ _ _ _ h];rfl
theorem Als {x y:Value}(h:w.heap[g]?=some (.cells #[x,y] t (0,0))):w.cell? ⟨g,1,none⟩=some y:=by rw[cell_of_row _ _ _ _ _ _ h];rfl
theorem Aaa (y z:Int):Bp (!(decide (y<0)==decide (z<0))) (y.natAbs*z.natAbs)=y*z:=by
 unfold Bp;have e:((y.natAbs*z.natAbs:Nat):Int)=(y.natAbs:Int)*z.natAbs:=A4j _ _;rw[e];by_cases hy:y<0<;>by_cases hz:z<0<;>simp[hy,hz]
 ·rw[show (y.natAbs:Int) = -y by omega,show (z.natAbs:Int) = -z by omega,Int.neg_mul_neg]
 ·rw[show (y.natAbs:Int) = -y by omega,show (z.natAbs:Int)=z by omega,A8k,Bbb]
 ·rw[show (y.natAbs:Int)=y by omega,show (z.natAbs:Int) = -z by omega,A9o,Bbb]
 ·rw[show (y.natAbs:Int)=y by omega,show (z.natAbs:Int)=z by omega]
theorem Zq (hs:decide (y<0)=decide (z<0)):Bp (decide (y<0)) (y.natAbs+z.natAbs)=y+z:=by
 unfold Bp;by_cases hy:y<0<;>by_cases hz:z<0<;>simp[hy,hz]at hs⊢<;>omega
theorem Ve (hs:decide (y<0)≠decide (z<0))(h:z.natAbs<=y.natAbs):Bp (decide (y<0)) (y.natAbs-z.natAbs)=y+z:=by
 unfold Bp;by_cases hy:y<0<;>by_cases hz:z<0<;>simp[hy,hz]at hs⊢<;>omega
theorem Uq (hs:decide (y<0)≠decide (z<0))(h:y.natAbs<z.natAbs):Bp (decide (z<0)) (z.natAbs-y.natAbs)=y+z:=by
 unfold Bp;by_cases hy:y<0<;>by_cases hz:z<0<;>simp[hy,hz]at hs⊢<;>omega
end
section
end
section
variable {y z:Int}
theorem Wd {y z q r:Int}(h:y=z*q+r)(h0:0<=r)(h1:r<z.natAbs):y/z=q/\y%z=r:=by
 have hz:z≠0:=by intro e;subst e;simp at h1;omega
 have e1:y%z=r:=by
  rw[h,Int.add_comm,Int.add_mul_emod_self_left];rcases Int.lt_or_gt_of_ne hz with hn|hn
  ·rw[<-Int.emod_neg];exact Ba3 h0 oV
  ·exact Ba3 h0 oV
 refine⟨?_,e1⟩;have:=A9s y z;rw[e1,h]at this;have e2:z*((z*q+r)/z)=z*q:=oV
 rw[h];exact Int.eq_of_mul_eq_mul_left hz e2
theorem T9 (hy:¬ y<0)(hz:z≠0):Bp (!(decide (y<0)==decide (z<0))) (y.natAbs/z.natAbs)=y/z/\Bp false (y.natAbs%z.natAbs)=y%z:=by
 have hd:=A26 y.natAbs z.natAbs;have hm:=A2s y.natAbs (show 0<z.natAbs by omega);generalize y.natAbs/z.natAbs=q at *
 generalize y.natAbs%z.natAbs=r at *
 have hd':(z.natAbs:Int)*q+r=y.natAbs:=by rw[<-hd];simp
 have:=Wd (y:=y) (z:=z) (q:=Bp (!(decide (y<0)==decide (z<0))) q) (r:=(r:Int)) (by
  unfold Bp;by_cases h:z<0
  ·rw[show (!(decide (y<0)==decide (z<0)))=true by simp[hy,h],if_pos rfl,A9o];rw[show (z.natAbs:Int) = -z by omega,A8k]at hd';omega
  ·rw[show (!(decide (y<0)==decide (z<0)))=false by simp[hy,h],if_neg mV];rw[show (z.natAbs:Int)=z by omega]at hd';omega) oV oV
 exact⟨this.1.symm,by rw[this.2];rfl⟩
theorem T8 (hy:y<0)(hz:z≠0)(hr:y.natAbs%z.natAbs=0):Bp (!(decide (y<0)==decide (z<0))) (y.natAbs/z.natAbs)=y/z/\Bp false (y.natAbs%z.natAbs)=y%z:=by
 have hd:=A26 y.natAbs z.natAbs;rw[hr]at hd⊢;generalize y.natAbs/z.natAbs=q at *
 have hd':(z.natAbs:Int)*q=y.natAbs:=by rw[<-hd];simp
 have:=Wd (y:=y) (z:=z) (q:=Bp (!(decide (y<0)==decide (z<0))) q) (r:=0) (by
  unfold Bp;by_cases h:z<0
  ·rw[show (!(decide (y<0)==decide (z<0)))=false by simp[hy,h],if_neg mV];rw[show (z.natAbs:Int) = -z by omega,A8k]at hd';omega
  ·rw[show (!(decide (y<0)==decide (z<0)))=true by simp[hy,h],if_pos rfl,A9o];rw[show (z.natAbs:Int)=z by omega]at hd';omega) oV oV
 exact⟨this.1.symm,by rw[this.2];rfl⟩
theorem Xk (hy:y<0)(hz:z≠0)(hr:0<y.natAbs%z.natAbs):Bp (!(decide (y<0)==decide (z<0))) (y.natAbs/z.natAbs+1)=y/z/\Bp false (z.natAbs-y.natAbs%z.natAbs)=y%z:=by
 have hd:=A26 y.natAbs z.natAbs;have hm:=A2s y.natAbs (show 0<z.natAbs by omega);generalize y.natAbs/z.natAbs=q at *
 generalize y.natAbs%z.natAbs=r at *
 have hd':(z.natAbs:Int)*q+r=y.natAbs:=by rw[<-hd];simp
 have:=Wd (y:=y) (z:=z) (q:=Bp (!(decide (y<0)==decide (z<0))) (q+1)) (r:=((z.natAbs-r:Nat):Int)) (by
  unfold Bp;by_cases h:z<0
  ·rw[show (!(decide (y<0)==decide (z<0)))=false by simp[hy,h],if_neg mV];rw[show (z.natAbs:Int) = -z by omega,A8k]at hd';rw[Bbp,Bba];omega
  ·rw[show (!(decide (y<0)==decide (z<0)))=true by simp[hy,h],if_pos rfl];rw[show (z.natAbs:Int)=z by omega]at hd';rw[A9o,Bbp,Bba];omega) oV oV
 exact⟨this.1.symm,by rw[this.2];rfl⟩
end
section
variable {n:Int}
theorem Abz (h:n<0)(h2:-9223372036854775808<=n):IntKind.u64.wrap (-(IntKind.u64.wrap n))=((n.natAbs:Nat):Int):=by
 have e:∀ n:Int,IntKind.u64.wrap n=n%18446744073709551616:=fun n=>by simp[IntKind.wrap,IntKind.signed,IntKind.bits]
 rw[e,e];omega
theorem Aa6 (h:0<=n)(h2:n<=9223372036854775807):IntKind.u64.wrap n=((n.natAbs:Nat):Int):=by
 have e:∀ n:Int,IntKind.u64.wrap n=n%18446744073709551616:=fun n=>by simp[IntKind.wrap,IntKind.signed,IntKind.bits]
 rw[e];omega
end
section
def As1 (w:World)(v:Value)(q:Rat):Prop :=
 ∃ a n c a' n' c',v=.agg #[.bool (decide (q.num<0)),.slice a n c,.bool false,.slice a' n' c']/\Ci w (.slice a n c) q.num.natAbs/\Ci w (.slice a' n' c') q.den
theorem As1.num {w:World}{b b':Bool}{a a':Option Addr}{n n' c c':Nat}{q:Rat}(h:As1 w (.agg #[.bool b,.slice a n c,.bool b',.slice a' n' c']) q):Abu w (.agg #[.bool b,.slice a n c]) q.num:=by
 obtain⟨_,_,_,_,_,_,h1,h2,h3⟩:=h;simp only[A33,A3z,A18,A4o,A09,and_true]at h1;obtain⟨rfl,⟨rfl,rfl,rfl⟩,rfl,rfl,rfl,rfl⟩:=h1;exact⟨_,_,_,rfl,h2⟩
theorem As1.den {w:World}{b b':Bool}{a a':Option Addr}{n n' c c':Nat}{q:Rat}(h:As1 w (.agg #[.bool b,.slice a n c,.bool b',.slice a' n' c']) q):Abu w (.agg #[.bool b',.slice a' n' c']) q.den:=by
 obtain⟨_,_,_,_,_,_,h1,h2,h3⟩:=h;simp only[A33,A3z,A18,A4o,A09,and_true]at h1;obtain⟨rfl,⟨rfl,rfl,rfl⟩,rfl,rfl,rfl,rfl⟩:=h1;refine⟨_,_,_,?_,by rw[A1z];exact h3⟩;rw[show decide (((q.den:Nat):Int)<0)=false by simp only[decide_eq_false_iff_not];omega]
end
section
theorem Pw:nl 1<=1:=by unfold nl;rw[Dv oV oV];simp
theorem P7 {d:Nat}:(sgn ((d:Int)-1)==0)=decide (d=1):=by
 rcases Int.lt_trichotomy ((d:Int)-1) 0 with h|h|h
 ·rw[C0 h,decide_eq_false oV];rfl
 ·rw[h,Ny,decide_eq_true oV];rfl
 ·rw[B9 h,decide_eq_false oV];rfl
set_option maxRecDepth 100000 in
theorem Aue (v:Value)(q:Rat)(w:World)(hv:As1 w v q) :
 Calls prog 217 #[v] w (Ah9 w q.num):=by
 have Hv:=A0r hv;obtain⟨a,n,c,a',n',c',rfl,_,_⟩:=hv;obtain⟨p,hp⟩:∃ p,p=decide (q.num<0):=⟨_,rfl⟩;rw[<-hp]at Hv⊢;clear hp
 go_enter func217,ntmps217
 go_wp2_with fail
 refine Alg rfl rfl (heap_alloc2_new _ _ _) rfl ⟨_,rfl,Hv.out.num.ext (((Ext.refl w).alloc _).alloc _),((Ext.refl w).alloc _).alloc _⟩
set_option maxRecDepth 100000 in
theorem Aut (v:Value)(q:Rat)(w:World)(hv:As1 w v q) :
 Calls prog 216 #[v] w (Ah9 w q.den):=by
 have Hv:=A0r hv;obtain⟨a,n,c,a',n',c',rfl,_,_⟩:=hv;obtain⟨p,hp⟩:∃ p,p=decide (q.num<0):=⟨_,rfl⟩;rw[<-hp]at Hv⊢;clear hp
 go_enter func216,ntmps216
 go_wp2_with fail
 refine Alg rfl rfl (heap_alloc2_new _ _ _) rfl ⟨_,rfl,Hv.out.den.ext (((Ext.refl w).alloc _).alloc _),((Ext.refl w).alloc _).alloc _⟩
end
section
variable {y z:Int}
theorem K1 (y z:Int):A2m (-y) (-z)=A2m y z:=by
 rw[A4h,A4h,A6x,A6x];by_cases h:(z:Rat)=0
 ·rw[h];simp[Rat.div_def]
 ·have:-(z:Rat)≠0:=by grind
  grind
theorem Ru (hz:0<z)(hg:A2p y.natAbs z.natAbs=1):(A2m y z).num=y/\(A2m y z).den=z.natAbs:=by
 have e:(z:Int)=((z.natAbs:Nat):Int):=oV
 rw[e,A7r,Bb6,dif_neg oV,Bbh];simp only[A1z,hg];simp
theorem Rz {G:Nat}(hz:0<z)(hg:G=A2p y.natAbs z.natAbs):(A2m y z).num=y/G/\(A2m y z).den=z.natAbs/G:=by
 have e:(z:Int)=((z.natAbs:Nat):Int):=oV
 rw[e,A7r,Bb6,dif_neg oV,Bbh];subst hg;constructor<;>simp
end
section
end
section
def Sz (q:Rat)(k:Nat):Prop:=nl q.num.natAbs<=k/\nl q.den<=k
theorem Afb {q r:Rat}(h1:q.den=1)(h2:r.den=1):((q.num*r.num:Int):Rat)=q*r:=by
 rw[Bcg,h1,h2,A3d,Bb7]
theorem Wf (q r:Rat):A2m (q.num*r.num) ((q.den:Int)*(r.den:Int))=q*r:=by
 rw[Bcg,<-A7r,A4j]
theorem Bl {y z:Int}{k:Nat}(h1:nl y.natAbs<=k)(h2:nl z.natAbs<=k):nl (y*z).natAbs<=2*k:=by
 rw[Int.natAbs_mul];have:=Fp y.natAbs z.natAbs;omega
end
section
theorem Afm {q r:Rat}(h1:q.den=1)(h2:r.den=1):((q.num+r.num:Int):Rat)=q+r:=by
 rw[Bch,h1,h2,A3d,Bb7];simp
theorem Nx (q r:Rat):A2m (q.num*(r.den:Int)+r.num*(q.den:Int)) ((q.den:Int)*(r.den:Int))=q+r:=by
 rw[Bch,<-A7r,A4j]
theorem Nq {y z:Int}{k:Nat}(h1:nl y.natAbs<=k)(h2:nl z.natAbs<=k):nl (y+z).natAbs<=k+1:=by
 have:=Aie y.natAbs z.natAbs;have h3:nl (y+z).natAbs<=nl (y.natAbs+z.natAbs):=C6 oV;omega
theorem Tf (q r:Rat):(q.den:Int)*(r.den:Int)≠0:=by
 have e1:=q.den_nz;have e2:=r.den_nz;exact Int.mul_ne_zero oV oV
end
section
end
section
variable {b n off:Nat}{env:Operand->Value}{o:Op}{q:Rat}{v x:Value}{w:World}
instance:Ba prog:=⟨kV,kV⟩
def Tb (u:PH)(b off:Nat)(x:Value):Prop:=∃ cs t fr,u b=some (.cells cs t fr)/\cs[off]?=some x
theorem Tb.mono {u u':PH}(h:Tb u b off x)(hl:PH.le u u'):Tb u' b off x:=by
 obtain⟨cs,t,fr,h1,h2⟩:=h;exact⟨cs,t,fr,hl _ _ h1,h2⟩
theorem Tb.cell {u:PH}{w:World}{b off:Nat}{x:Value}(h:Tb u b off x)(hp:Eb u w):w.cell? ⟨b,off,none⟩=some x:=by
 obtain⟨cs,t,fr,h1,h2⟩:=h;simp[A8j,hp _ _ h1,h2]
def ElP (u:PH)(b off:Nat)(e:Value):Prop:=∀ (i:Nat) (x:Value),e.cells[i]?=some x->Tb u b (off+i) x
theorem ElP.mono {u u':PH}{b off:Nat}{e:Value}(h:ElP u b off e)(hl:PH.le u u'):ElP u' b off e:=fun i x hi=>(h i x hi).mono hl
def Aby (k:Option Nat)(e:Value):Bool :=
 match k with
 |some n=>match e with
  |.agg cs=>Nat.beq n cs.size
  |_=>false
 |none=>match e with|.agg _=>false|_=>true
def Abs (u:PH)(a:Option Addr)(cs:List Value):Prop:=∀ j,j<cs.length->∃ b off,a=some ⟨b,off,none⟩/\Tb u b (off+j) (cs.getD j (.bool false))
def Cm (u:PH)(v:Value)(n:Nat):Prop:=∃ a cap,v=.slice a (Aa n).length cap/\(Aa n).length<=cap/\Abs u a (E2 (Aa n))
def Cb (u:PH)(v:Value)(z:Int):Prop:=∃ a n c,v=.agg #[.bool (decide (z<0)),.slice a n c]/\Cm u (.slice a n c) z.natAbs
def Av (u:PH)(v:Value)(q:Rat):Prop :=
 ∃ a n c a' n' c',v=.agg #[.bool (decide (q.num<0)),.slice a n c,.bool false,.slice a' n' c']/\Cm u (.slice a n c) q.num.natAbs/\Cm u (.slice a' n' c') q.den
theorem Cm.mono {u u':PH}{v:Value}{n:Nat}(h:Cm u v n)(hl:PH.le u u'):Cm u' v n:=by
 obtain⟨a,cap,h1,h2,h3⟩:=h;exact⟨a,cap,h1,h2,fun j hj=>by obtain⟨b,off,e1,e2⟩:=h3 j hj;exact⟨b,off,e1,e2.mono hl⟩⟩
theorem Cb.mono {u u':PH}{v:Value}{z:Int}(h:Cb u v z)(hl:PH.le u u'):Cb u' v z:=by
 obtain⟨a,n,c,h1,h2⟩:=h;exact⟨a,n,c,h1,h2.mono hl⟩
theorem Av.mono {u u':PH}{v:Value}{q:Rat}(h:Av u v q)(hl:PH.le u u'):Av u' v q:=by
 obtain⟨a,n,c,a',n',c',h1,h2,h3⟩:=h;exact⟨a,n,c,a',n',c',h1,h2.mono hl,h3.mono hl⟩
theorem Cm.toW {u:PH}(h:Cm u v n)(hp:Eb u w):Ci w v n:=by
 obtain⟨a,cap,h1,h2,h3⟩:=h;exact⟨a,cap,h1,h2,fun j hj=>by obtain⟨b,off,e1,e2⟩:=h3 j hj;exact⟨b,off,e1,e2.cell hp⟩⟩
theorem Cb.toW {u:PH}{w:World}{v:Value}{z:Int}(h:Cb u v z)(hp:Eb u w):Abu w v z:=by
 obtain⟨a,n,c,h1,h2⟩:=h;exact⟨a,n,c,h1,h2.toW hp⟩
theorem Av.toW {u:PH}{w:World}{v:Value}{q:Rat}(h:Av u v q)(hp:Eb u w):As1 w v q:=by
 obtain⟨a,n,c,a',n',c',h1,h2,h3⟩:=h;exact⟨a,n,c,a',n',c',h1,h2.toW hp,h3.toW hp⟩
theorem Cm.ofW {u:PH}(h:Ci w v n)(hc:Zv u w):Cm u v n:=by
 obtain⟨a,cap,h1,h2,h3⟩:=h;refine⟨a,cap,h1,h2,fun j hj=>?_⟩;obtain⟨b,off,e1,e2⟩:=h3 j hj;refine⟨b,off,e1,?_⟩;have hj':j<(Aa n).length:=by simpa using hj
 have hx:(E2 (Aa n)).getD j (.bool false)=.int .u64 ((Aa n).getD j 0:Nat):=by simp[E2,hj']
 rw[hx]at e2⊢;unfold A8j at e2;simp only at e2;split at e2
 ·rename_i cs t fr hb;simp at e2;exact⟨cs,t,fr,hc b cs t fr _ _ hb e2,e2⟩
 ·cases e2
theorem Cb.ofW {u:PH}{w:World}{v:Value}{z:Int}(h:Abu w v z)(hc:Zv u w):Cb u v z:=by
 obtain⟨a,n,c,h1,h2⟩:=h;exact⟨a,n,c,h1,Cm.ofW h2 hc⟩
theorem Cb.opn {u:PH}{z:Int}(h:Cb u v z):∃ b a n c,v=.agg #[.bool b,.slice a n c]:=by
 obtain⟨a,n,c,rfl,_⟩:=h;exact⟨_,a,n,c,rfl⟩
theorem Av.opn {u:PH}(h:Av u v q):∃ b a n c b' a' n' c',v=.agg #[.bool b,.slice a n c,.bool b',.slice a' n' c']:=by
 obtain⟨a,n,c,a',n',c',rfl,_⟩:=h;exact⟨_,a,n,c,_,a',n',c',rfl⟩
theorem Av.num {u:PH}{b b':Bool}{a a':Option Addr}{n n' c c':Nat}(h:Av u (.agg #[.bool b,.slice a n c,.bool b',.slice a' n' c']) q):Cb u (.agg #[.bool b,.slice a n c]) q.num:=by
 obtain⟨_,_,_,_,_,_,h1,h2,h3⟩:=h;simp only[A33,A3z,A18,A4o,A09,and_true]at h1;obtain⟨rfl,⟨rfl,rfl,rfl⟩,rfl,rfl,rfl,rfl⟩:=h1;exact⟨_,_,_,rfl,h2⟩
theorem Av.den {u:PH}{b b':Bool}{a a':Option Addr}{n n' c c':Nat}{q:Rat}(h:Av u (.agg #[.bool b,.slice a n c,.bool b',.slice a' n' c']) q):Cb u (.agg #[.bool b',.slice a' n' c']) q.den:=by
 obtain⟨_,_,_,_,_,_,h1,h2,h3⟩:=h;simp only[A33,A3z,A18,A4o,A09,and_true]at h1;obtain⟨rfl,⟨rfl,rfl,rfl⟩,rfl,rfl,rfl,rfl⟩:=h1;refine⟨_,_,_,?_,by rw[A1z];exact h3⟩;rw[show decide (((q.den:Nat):Int)<0)=false by simp only[decide_eq_false_iff_not];omega]
theorem Fn0.ofW {P:Program}{f:FuncId}{args:List Value}{u:PH}{R:Value->PH->Prop}(Q:Value->World->Prop)(h:∀ w,Eb u w->Calls P f args.toArray w fun e w'=>∃ v,e=.returned v/\Q v w'/\Ext w w')
 (hq:∀ v w' u',Q v w'->Eb u' w'->Zv u' w'->PH.le u u'->R v u'):Fn0 P f args u R:=by
 intro w hg;refine Calls.mono (h w hg.pu) fun e w' he=>?_;obtain⟨v,e1,e2,e3⟩:=he;have hsz:w.heap.size<=w'.heap.size:=e3.size;have hold:∀ g,g<w.heap.size->w'.heap[g]?=w.heap[g]?:=fun g hg=>A7k e3 g hg;have g1:Eb (fun g=>if g<w.heap.size then u g else w'.heap[g]?) w':=by
  intro g o hgo;simp only at hgo;split at hgo
  ·rename_i hlt;rw[hold g hlt];exact hg.pu g o hgo
  ·exact hgo
 have g2:Zv (fun g=>if g<w.heap.size then u g else w'.heap[g]?) w':=by
  intro g cs t fr j z hgo hj;simp only;split
  ·rename_i hlt;rw[hold g hlt]at hgo;exact hg.cl g cs t fr j z hgo hj
  ·exact hgo
 have g3:PH.le u (fun g=>if g<w.heap.size then u g else w'.heap[g]?):=fun g o hgo=>by simp only;rw[if_pos (hg.pu.lt hgo)];exact hgo
 refine⟨v,_,PH.mt,e1,⟨g1,Eb.mt _,fun _=>.inr rfl,g2⟩,⟨hsz,fun g hg _=>hold g hg,fun g hg=>by simp only;rw[if_pos hg],fun _ _ h=>h,⟨e3.os,e3.output⟩,fun f=>f.elim⟩,rfl,hq v w' _ e2 g1 g2 g3⟩
section rules
variable [Cc] [Dy] {P:Program} [Ba P] {fn:Func} {Post:B0} {st:List KI×S} {u m:PH}
theorem Ul {k:Option (Option Nat)}(h:A7 P env o=.load k x):∃ t X,o=.load t X/\env X=x/\Wc P t=k:=by
 cases o<;>simp only[A7]at h<;>try cases h
 any_goals ((repeat' split at h)<;>cases h;done)
 ·exact⟨_,_,rfl,rfl,rfl⟩
theorem Up {sz:Option Nat}{x i:Value}(h:A7 P env o=.addr sz x i):∃ t X I,o=.indexAddr t X I/\env X=x/\env I=i/\Kq P t=sz:=by
 cases o<;>simp only[A7]at h<;>try cases h
 any_goals ((repeat' split at h)<;>cases h;done)
 ·exact⟨_,_,_,rfl,rfl,rfl,rfl⟩
theorem Xc {op:UnOp}(h:A7 P env o=.un op x):∃ t X,o=.unOp op t X/\env X=x:=by
 cases o<;>simp only[A7]at h<;>try cases h
 any_goals ((repeat' split at h)<;>cases h;done)
 ·exact⟨_,_,rfl,rfl⟩
theorem Tt {t:TypeId}{k:Option Nat}{e:Value}(hk:Wc P t=some k)(hs:Aby k e=true)(h:ElP u b off e)(hp:Eb u w):(loadVar t ⟨b,off,none⟩).run P w=.ok e w:=by
 unfold Wc at hk;unfold loadVar;split at hk
 ·rename_i ha;split at hk
  ·rename_i n hn;simp at hk;subst hk;unfold Aby at hs;simp only at hs;split at hs
   ·rename_i cs;have hl:=A1h hs;have:=run_loadCells_list (P:=P) w ⟨b,off,none⟩ cs.toList (fun j v hj=>by rw[Db];exact (h j v (by simpa[A1e] using hj)).cell hp);simp only[A1n,Dg ha,A0y,if_true,Bf hn,hl];simp at this;rw[this];simp
   ·cases hs
  ·cases hk
 ·rename_i ha;simp at hk;subst hk;unfold Aby at hs;have hc:e.cells = #[e]:=by cases e<;>simp_all [A1e]
  have:=(h 0 e (by simp[hc])).cell hp;simp[Dg ha];simp at this;simp[this]
 ·cases hk
theorem G.loadU (kd:Option Nat)(b off:Nat)(e:Value)(h:Al P (adv P st)=.load (some kd) (.pointer (some ⟨b,off,none⟩)))(hs:Aby kd e=true)(he:ElP u b off e)(k:G P fn Post (nx (adv P st) e) u m):G P fn Post st u m:=by
 refine G.ask h mV (fun env o hview w hp=>?_) k;obtain⟨t,X,e1,e2,e3⟩:=Ul hview;obtain⟨dst,opp,type,pos,after,guard⟩:=o;simp only at e1;subst e1;simp[execOp,A74,A3x,e2,Tt e3 hs he (hp rfl).1]
theorem G.loadM (kd:Option Nat)(b off:Nat)(e:Value)(h:Al P (adv P st)=.load (some kd) (.pointer (some ⟨b,off,none⟩)))(hs:Aby kd e=true)(he:ElP m b off e)(k:G P fn Post (nx (adv P st) e) u m):G P fn Post st u m:=by
 refine G.ask h mV (fun env o hview w hp=>?_) k;obtain⟨t,X,e1,e2,e3⟩:=Ul hview;obtain⟨dst,opp,type,pos,after,guard⟩:=o;simp only at e1;subst e1;simp[execOp,A74,A3x,e2,Tt e3 hs he (hp rfl).2]
theorem G.addr (b off n c j sz:Nat)(h:Al P (adv P st)=.addr (some sz) (.slice (some ⟨b,off,none⟩) n c) (.int .i64 (j:Int)))(hj:j<n)
 (k:G P fn Post (nx (adv P st) (.pointer (some ⟨b,off+j*sz,none⟩))) u m):G P fn Post st u m:=by
 refine G.ask h mV (fun env o hview w hp=>?_) k;obtain⟨t,X,I,e1,e2,e3,hsz⟩:=Up hview;obtain⟨dst,opp,type,pos,after,guard⟩:=o;simp only at e1;subst e1;unfold Kq at hsz;split at hsz
 ·rename_i e hu;have h1:(0:Int)<=j/\(j:Int)<n:=oV
  simp[execOp,Instr.indexAt,asIntOf,e2,e3,run_underlying hu,h1,Bf hsz,Db];omega
 ·cases hsz
theorem G.neg (x z:Int)(h:Al P (adv P st)=.un .neg (.int .i64 x))(hz:-x=z)(h1:-9223372036854775808<=z)(h2:z<=9223372036854775807)
 (k:G P fn Post (nx (adv P st) (.int .i64 z)) u m):G P fn Post st u m:=by
 refine G.ask h mV (fun env o hview w hp=>?_) k;obtain⟨t,X,e1,e2⟩:=Xc hview;obtain⟨dst,opp,type,pos,after,guard⟩:=o;simp only at e1;subst e1;have:(0:Int)-x=z:=oV
 simp[execOp,Op.unary,e2,Op.intArith,this,Cl h1 h2]
end rules
end
section
variable [Cc] [Dy]
variable {P:Program} [Ba P] {fn:Func} {Post:B0} {st:List KI×S} {u m:PH}
theorem G.a (b off n c j sz:Nat)(hj:j<n)(k:G P fn Post (nx (adv P st) (.pointer (some ⟨b,off+j*sz,none⟩))) u m)(h:Al P (adv P st)=.addr (some sz) (.slice (some ⟨b,off,none⟩) n c) (.int .i64 (j:Int)):=by kernel_rfl):G P fn Post st u m:=G.addr b off n c j sz h hj k
theorem G.lU (kd:Option Nat)(b off:Nat)(e:Value)(he:ElP u b off e)(k:G P fn Post (nx (adv P st) e) u m)(h:Al P (adv P st)=.load (some kd) (.pointer (some ⟨b,off,none⟩)):=by kernel_rfl)(hs:Aby kd e=true:=by kernel_rfl):G P fn Post st u m:=G.loadU kd b off e h hs he k
theorem G.lM (kd:Option Nat)(b off:Nat)(e:Value)(he:ElP m b off e)(k:G P fn Post (nx (adv P st) e) u m)(h:Al P (adv P st)=.load (some kd) (.pointer (some ⟨b,off,none⟩)):=by kernel_rfl)(hs:Aby kd e=true:=by kernel_rfl):G P fn Post st u m:=G.loadM kd b off e h hs he k
end
section
variable {cs z:Array Value}{env:Operand->Value}{es xs:List Value}{g sz:Nat}{o:Oper}{t:TypeId}{v:Value}
variable [Cc] [Dy]
def PH.upd (m:PH)(g:Nat)(o:Obj):PH:=fun h=>if h=g then some o else m h
theorem Ac (m:PH)(g:Nat)(o:Obj):m.upd g o g=some o:=by simp[PH.upd]
theorem Ad (m:PH){g h:Nat}(o:Obj)(hn:h≠g):m.upd g o h=m h:=by simp[PH.upd,hn]
theorem Dh (m:PH)(g:Nat)(o o':Obj):(m.upd g o).upd g o'=m.upd g o':=by
 funext h;by_cases e:h=g
 ·subst e;simp[PH.upd]
 ·simp[PH.upd,e]
theorem Jw {m:PH}(o:Obj)(h:m g=none):PH.le m (m.upd g o):=fun k x hk=>by
 by_cases e:k=g
 ·subst e;rw[h]at hk;cases hk
 ·rw[Ad _ _ e];exact hk
def Az (es:List Value):List Value:=es.flatMap fun e=>e.cells.toList
def Uc (p:Value->Bool)(sz:Nat)(es:List Value):Prop:=∀ e∈es,e.cells.size=sz/\∀ x∈e.cells.toList,p x=true
abbrev A3 (sz:Nat)(es:List Value):Prop:=Uc Be sz es
theorem A2 {p:Value->Bool}{sz:Nat}:∀ {es:List Value},Uc p sz es->(Az es).length=es.length*sz
 |[],_=>by simp[Az]
 |e::es,h=>by
  have h1:=(h e mV).1;have ih:=A2 (sz:=sz) (es:=es) (fun x hx=>h x (A1w _ hx));unfold Az at ih⊢;simp only[List.flatMap_cons,A0z,ih,A2n,A29,h1,A1o,A3d];omega
theorem Co (a b:List Value):Az (a++b)=Az a++Az b:=by simp[Az]
theorem Ep (h:A3 sz es):∀ x∈Az es,Be x=true:=by
 intro x hx;obtain⟨e,he,hx⟩:=A7s.1 hx;exact (h e he).2 x hx
theorem A3.append {a b:List Value}(h:A3 sz a)(k:A3 sz b):A3 sz (a++b):=fun e he=>(A01.1 he).elim (h e) (k e)
theorem Gm {p:Value->Bool}{sz:Nat}:∀ {es:List Value},Uc p sz es->∀ {j i:Nat} {e x:Value},es[j]?=some e->e.cells[i]?=some x->(Az es)[j*sz+i]?=some x
 |[],_,j,i,e,x,hj,_=>by simp at hj
 |d::es,h,j,i,e,x,hj,hi=>by
  have hd:=(h d mV).1;have hr:Uc p sz es:=fun x hx=>h x (A1w _ hx);have e1:Az (d::es)=d.cells.toList++Az es:=by simp[Az]
  rw[e1];cases j with
  |zero =>
   simp at hj;subst hj;have:i<d.cells.size:=(A4z.1 hi).1;rw[A1d gV];simpa using hi
  |succ j =>
   simp at hj;rw[List.getElem?_append_right (by simp[hd,A1o];omega)];have:=Gm hr hj hi;rw[<-this];congr 1;simp[hd,A1o];omega
def Ae (m0 m:PH)(v:Value)(t:TypeId)(sz:Nat)(es:List Value):Prop :=
 A3 sz es/\((v=.slice none 0 0/\es = []/\m=m0) \/
  ∃ g cap rest,m0 g=none/\m=m0.upd g (.cells (Az es++rest).toArray t (0,0))/\v=.slice (some ⟨g,0,none⟩) es.length cap/\es.length<=cap/\(Az es++rest).length=cap*sz/\∀ x∈rest,Be x=true)
theorem Ae.nil (m:PH)(t:TypeId)(sz:Nat):Ae m m (.slice none 0 0) t sz []:=⟨fun _ h=>absurd h mV,.inl ⟨rfl,rfl,rfl⟩⟩
theorem Ae.shape {m0 m:PH}(h:Ae m0 m v t sz es):∃ a cap,v=.slice a es.length cap:=by
 rcases h.2 with ⟨rfl,rfl,_⟩|⟨g,cap,rest,_,_,rfl,_⟩
 ·exact⟨none,0,rfl⟩
 ·exact⟨_,cap,rfl⟩
theorem Df {P:Program}{t e:TypeId}{sz bt:Nat}{z:Value}(h:Jq P t=some (e,sz,bt,z)):P.underlying t=some (.slice e)/\∃ i,P.info? e=some i/\i.zero=some z/\i.size=sz/\i.bytes=bt:=by
 unfold Jq at h;split at h
 ·rename_i e' hu;split at h
  ·rename_i i hi;split at h
   ·rename_i z' hz;simp at h;obtain⟨rfl,rfl,rfl,rfl⟩:=h;exact⟨hu,i,hi,hz,rfl,rfl⟩
   ·cases h
  ·cases h
 ·cases h
theorem G8 (h:z.toList.all Be=true)(n:Nat):∀ x∈(Builtin.zeroCells z n).toList,Be x=true:=by
 intro x hx;simp[Builtin.zeroCells]at hx;obtain⟨i,hi,rfl⟩:=hx;rw[A08]at h;by_cases hz:z.size=0
 ·simp[hz]at hi
 ·have hlt:i%z.size<z.size:=A2s _ oV;refine h _ ?_;rw[getElem!_pos z _ hlt];simp
theorem Ww (h:z.toList.all Be=true)(n:Nat)(hz:z.size≠0):∀ x∈(madeCells z n).toList,Be x=true:=by
 intro x hx;simp[madeCells]at hx;obtain⟨i,hi,rfl⟩:=hx;rw[A08]at h;have hlt:i%z.size<z.size:=A2s _ oV;refine h _ ?_;rw[getElem!_pos z _ hlt];simp
section worlds
variable {u m:PH} {w:World}
theorem Bx.newM (h:Bx u m w)(hw:∀ x∈cs.toList,Be x=true):Bx u (m.upd w.heap.size (.cells cs t (0,0))) (w.alloc (.cells cs t))/\Bz u m w u (m.upd w.heap.size (.cells cs t (0,0))) (w.alloc (.cells cs t))/\m w.heap.size=none/\u w.heap.size=none:=by
 have hm:m w.heap.size=none:=h.pm.none (A0w _);have hu:u w.heap.size=none:=h.pu.none (A0w _);have g1:=h.alloc (cs:=cs) (t:=t) (fr:=(0,0)) (fun j z e=>Ig (hw _ (by obtain⟨hj,he⟩:=A4z.1 e;rw[<-he];simp)) z rfl);refine⟨⟨g1.pu,fun g o hg=>?_,fun g=>?_,g1.cl⟩,⟨by rw[Br];omega,fun g hg _=>A9 _ _ hg,fun _ _=>rfl,fun g hg hm=>by rw[Ad _ _ oV];exact hm,⟨rfl,rfl⟩,fun _=>⟨rfl,A0w _⟩⟩,hm,hu⟩
 ·by_cases e:g=w.heap.size
  ·subst e;rw[Ac]at hg;rw[Ca];exact hg
  ·rw[Ad _ _ e]at hg;exact g1.pm g o hg
 ·by_cases e:g=w.heap.size
  ·subst e;exact .inl hu
  ·rw[Ad _ _ e];exact h.ap g
theorem Bx.drew' (h:Bx u m w):Bx u m w.drew:=⟨h.pu,h.pm,h.ap,h.cl⟩
theorem Bx.less (h:Bx u m w){m':PH}(hl:PH.le m' m):Bx u m' w:=by
 refine⟨h.pu,fun g o hg=>h.pm g o (hl g o hg),fun g=>(h.ap g).imp id fun e=>?_,h.cl⟩;cases hg:m' g with
 |none=>rfl
 |some o=>rw[hl g o hg]at e;cases e
theorem Bx.setM (h : Bx u m w)  {cs cs' : Array Value}  (hg : m g = some (.cells cs t (0, 0))) (hw : ∀ x ∈ cs'.toList, Be x = true) : Bx u (m.upd g (.cells cs' t (0, 0))) (w.setRow g cs') ∧ Bz u m w u (m.upd g (.cells cs' t (0, 0))) (w.setRow g cs') := by
  have hb := h.pm g _ hg
  have hug : u g = none := by rcases h.ap g with e | e
                              · exact e
                              · rw [hg] at e; cases e
  have hsame := setRow_heap w g cs cs' t (0, 0) hb
  have hother : ∀ k, k ≠ g → (w.setRow g cs').heap[k]? = w.heap[k]? := fun k hk => setRow_other w g k cs' hk
  refine ⟨⟨fun k o hk => ?_, fun k o hk => ?_, fun k => ?_, fun k cs1 t1 fr1 j z hk hj => ?_⟩, ⟨by rw [setRow_size]; exact A0w _, fun k hk hm => hother k (fun e => by rw [e, hg] at hm; cases hm), fun _ _ => rfl, fun k hk hm => by rw [Ad _ _ (fun e => by rw [e, hg] at hm; cases hm)]; exact hm, ⟨rfl, rfl⟩, fun _ => ⟨rfl, A0w _⟩⟩⟩
  · rw [hother k (fun e => by rw [e, hug] at hk; cases hk)]; exact h.pu k o hk
  · by_cases e : k = g
    · subst e; rw [Ac] at hk; rw [hsame]; exact hk
    · rw [Ad _ _ e] at hk; rw [hother k e]; exact h.pm k o hk
  · by_cases e : k = g
    · subst e; exact .inl hug
    · rw [Ad _ _ e]; exact h.ap k
  · by_cases e : k = g
    · subst e
      rw [hsame] at hk
      simp only [A0t, Obj.cells.injEq] at hk
      obtain ⟨rfl, _, _⟩ := hk
      obtain ⟨hlt, he⟩ := A4z.1 hj
      exact absurd he (Ig (hw _ mV) z)
    · rw [hother k e] at hk; exact h.cl k cs1 t1 fr1 j z hk hj
theorem Bx.newU (h:Bx u m w)(o:Obj):Bx (u.upd w.heap.size o) m (w.alloc o)/\Bz u m w (u.upd w.heap.size o) m (w.alloc o)/\m w.heap.size=none/\u w.heap.size=none:=by
 have hm:m w.heap.size=none:=h.pm.none (A0w _);have hu:u w.heap.size=none:=h.pu.none (A0w _);refine⟨⟨fun g o' hg=>?_,fun g o' hg=>?_,fun g=>?_,fun g cs t fr j z hg hj=>?_⟩,⟨by rw[Br];omega,fun g hg _=>A9 _ _ hg,fun g hg=>Ad _ _ oV,fun g hg hm=>hm,⟨rfl,rfl⟩,fun _=>⟨rfl,A0w _⟩⟩,hm,hu⟩
 ·by_cases e:g=w.heap.size
  ·subst e;rw[Ac]at hg;rw[Ca];exact hg
  ·rw[Ad _ _ e]at hg;rw[A9 _ _ (h.pu.lt hg)];exact h.pu g o' hg
 ·rw[A9 _ _ (h.pm.lt hg)];exact h.pm g o' hg
 ·by_cases e:g=w.heap.size
  ·subst e;exact .inr hm
  ·rw[Ad _ _ e];exact h.ap g
 ·by_cases e:g=w.heap.size
  ·subst e;rw[Ca]at hg;rw[Ac];exact hg
  ·rw[Ad _ _ e];have hlt:=Bw hg;rw[Br]at hlt;rw[A9 _ _ oV]at hg;exact h.cl g cs t fr j z hg hj
end worlds
def El (u:PH)(b off sz:Nat)(xs:List Value):Prop:=∀ j e,xs[j]?=some e->ElP u b (off+j*sz) e
theorem El.mono {u u':PH}{b off sz:Nat}{xs:List Value}(h:El u b off sz xs)(hl:PH.le u u'):El u' b off sz xs:=fun j e hj=>(h j e hj).mono hl
theorem To {sz:Nat}(hs:0<sz):∀ {xs:List Value},A3 sz xs->∀ {k:Nat} {x:Value},(Az xs)[k]?=some x->∃ j i e,k=j*sz+i/\xs[j]?=some e/\e.cells[i]?=some x
 |[],_,k,x,h=>by simp[Az]at h
 |d::xs,ho,k,x,h=>by
  have hd:=(ho d mV).1;have e1:Az (d::xs)=d.cells.toList++Az xs:=by simp[Az]
  rw[e1,List.getElem?_append]at h;split at h
  ·exact⟨0,k,d,mV,mV,by simpa using h⟩
  ·rename_i hk;obtain⟨j,i,e,h1,h2,h3⟩:=To hs (fun x hx=>ho x (A1w _ hx)) h;refine⟨j+1,i,e,?_,by simpa using h2,h3⟩;simp[hd]at h1 hk;rw[A1o];omega
theorem El.cells {u:PH}{w:World}{b off sz:Nat}(hs:0<sz)(h:El u b off sz xs)(ho:A3 sz xs)(hp:Eb u w):∀ j v,(Az xs)[j]?=some v->w.cell? ((⟨b,off,none⟩:Addr).add j)=some v:=by
 intro k x hk;obtain⟨j,i,e,rfl,h2,h3⟩:=To hs ho hk;rw[Db];have:=(h j e h2 i x h3).cell hp;rw[show off+(j*sz+i)=off+j*sz+i by omega];exact this
section rules
variable {P:Program} [Ba P] {fn:Func} {Post:B0} {st:List KI×S} {u m:PH}
theorem Bq {w w':World}{K:Value->World->Prop}(h:(execOp env o).run P w=.ok (.value v) w')(hk:K v w'):D3 P env o w K:=by
 unfold D3;rw[h];exact hk
theorem Dl {inf:Option (TypeId×Nat×Nat×Value)}(h:A7 P env o.op=.app inf true xs):Ke o.op=true/\D6 o.op=false/\∃ t,Jq P t=inf/\∀ w,(execOp env o).run P w=((Builtin.append_ #[t,t] o.type xs.toArray).run P w).andThen fun v w'=>.ok (.value v) w':=by
 obtain⟨dst,opp,type,pos,after,guard⟩:=o;simp only at h⊢;cases opp<;>simp only[A7]at h<;>try cases h
 ·split at h<;>cases h
 rename_i c;obtain⟨cal,args,tys⟩:=c;simp only at h;split at h
 ·split at h<;>cases h
 ·rename_i b;split at h
  ·split at h
   ·rename_i t t' htt;simp only[S2.app.injEq]at h;obtain⟨rfl,h2,rfl⟩:=h;have:=A1h h2;subst this;have hty:tys = #[t,t]:=by apply A4i;simpa using htt
    refine⟨rfl,rfl,t,rfl,fun w=>?_⟩;have:(args.map env)=(args.toList.map env).toArray:=by apply A4i;simp
    simp[execOp,resolve,invoke,builtin,hty,this]
   ·cases h
  ·cases h
 ·cases h
theorem Nm {t e:TypeId}{sz bt:Nat}{z:Value}(m0:PH)(es xs:List Value)(v:Value)(b off n c:Nat)(ty:TypeId)(hi:Jq P t=some (e,sz,bt,z))(hz:z.cells.toList.all Be=true)(hzs:z.cells.size=sz)(hsz:0<sz)
 (ha:Ae m0 m v e sz es) (ho:A3 sz xs) (hn:xs.length=n) (hn0:0<n) (hb:(es.length+n)*bt<=140737488355328) (hb2:es.length+n<=9223372036854775807) {w:World} (hgd:Bx u m w)
 (hsrc:∀ j v,(Az xs)[j]?=some v->w.cell? ((⟨b,off,none⟩:Addr).add j)=some v) :
 ∃ v' w' m',(Builtin.append_ #[t,t] ty #[v,.slice (some ⟨b,off,none⟩) n c]).run P w=.ok v' w'/\Bx u m' w'/\Bz u m w u m' w'/\Ae m0 m' v' e sz (es++xs):=by
 obtain⟨hu,i,hi1,hi2,rfl,rfl⟩:=Df hi;have hfl:=A2 ho;have hok:=ha.1.append ho;rcases ha.2 with ⟨rfl,rfl,rfl⟩|⟨g,cap,rest,hg0,rfl,rfl,hcap,hlen,hrest⟩
 ·simp only[A3i,A2b]at hb hb2;have hr:=run_append_nil (P:=P) w t ty e i z hu hi1 hi2 ⟨b,off,none⟩ n c (Az xs) (by rw[hfl,hn]) hsrc hn0 oV oV;have hcell:∀ x∈((Az xs).toArray++Builtin.zeroCells z.cells (grownCap w n 0 e-n)).toList,Be x=true:=fun x hx=>by
   simp only[Baf,A01]at hx;rcases hx with hx|hx
   ·exact Ep ho x hx
   ·exact G8 hz _ x hx
  obtain⟨g1,g2,g3,_⟩:=hgd.drew'.newM (t:=e) hcell;refine⟨_,_,_,hr,g1,⟨g2.sz,g2.old,g2.us,g2.ms,g2.io,fun f=>⟨(g2.dr f).tape,A7f (g2.dr f).dr⟩⟩,hok,.inr ⟨w.heap.size,grownCap w n 0 e,(Builtin.zeroCells z.cells (grownCap w n 0 e-n)).toList,g3,?_,?_,?_,?_,G8 hz _⟩⟩
  ·congr 2;apply A4i;simp
  ·simp[hn]
  ·simp only[A2t,hn];exact grownCap_ge w n 0 e
  ·have:=grownCap_ge w n 0 e;simp only[A2t,A0z,hfl,hn,A29,size_zeroCells,hzs];rw[<-A1o];congr 1;omega
 ·have hgw:=hgd.pm g _ (Ac _ _ _);have hfe:=A2 ha.1;by_cases hroom:es.length+n<=cap
  ·have hle:(es.length+n)*i.size<=cap*i.size:=A12 _ hroom;rw[A1o]at hle;have hr:=run_append_room (P:=P) w t ty e i hu hi1 g es.length cap (Az es++rest).toArray hgw ⟨b,off,none⟩ n c (Az xs) (by rw[hfl,hn]) hsrc (fun x hx=>Aqt (Ep ho x hx)) hroom (by simp only[A7d];rw[hlen,hfl,hn];omega);have e1:(Az es++rest).toArray.toList.take (es.length*i.size)=Az es:=by
    simp only[A2z];rw[<-hfe,Bb2]
   rw[e1]at hr;have hd:∀ x∈(Az es++rest).toArray.toList.drop (es.length*i.size+(Az xs).length),Be x=true:=by
    intro x hx;simp only[A2z]at hx;rw[<-hfe,<-A7a,A8i]at hx;exact hrest x (A3k hx)
   have hcell:∀ x∈(Az es++Az xs++(Az es++rest).toArray.toList.drop (es.length*i.size+(Az xs).length)).toArray.toList,Be x=true:=by
    intro x hx;simp only[A2z]at hx;rcases A01.1 hx with hx|hx
    ·rcases A01.1 hx with hx|hx
     ·exact Ep ha.1 x hx
     ·exact Ep ho x hx
    ·exact hd x (by simpa using hx)
   obtain⟨g1,g2⟩:=hgd.setM (Ac _ _ _) hcell;rw[Dh]at g1 g2;refine⟨_,_,_,hr,g1,g2,hok,.inr ⟨g,cap,_,hg0,by rw[Co],by simp[hn],by simp[hn];exact hroom,?_,hd⟩⟩;rw[Co];simp only[A0z,hfe,hfl,hn,A2z,List.length_drop];simp only[A0z,hfe]at hlen;omega
  ·have hold:∀ j v,(Az es)[j]?=some v->w.cell? ((⟨g,0,none⟩:Addr).add j)=some v:=by
    intro j x hj;rw[Db];simp[A8j,hgw];rw[A1d (by obtain⟨h,_⟩:=A0s.1 hj;exact h)];exact hj
   have hr:=run_append_grow (P:=P) w t ty e i z hu hi1 hi2 ⟨g,0,none⟩ es.length cap (Az es) hfe hold ⟨b,off,none⟩ n c (Az xs) (by rw[hfl,hn]) hsrc oV oV (growslice_fits oV hb);have hcell:∀ x∈((Az es).toArray++(Az xs).toArray++Builtin.zeroCells z.cells (grownCap w (es.length+n) cap e-(es.length+n))).toList,Be x=true:=fun x hx=>by
    simp only[Baf,A01]at hx;rcases hx with (hx|hx)|hx
    ·exact Ep ha.1 x hx
    ·exact Ep ho x hx
    ·exact G8 hz _ x hx
   obtain⟨g1,g2,g3,_⟩:=hgd.drew'.newM (t:=e) hcell;have hdsz:w.drew.heap.size=w.heap.size:=rfl;rw[hdsz]at g1 g2 g3;have hng:w.heap.size≠g:=fun h=>by have:=Bw hgw;omega
   have hm0:m0 w.heap.size=none:=by
    have:=g3;rw[Ad _ _ hng]at this;exact this
   refine⟨_,_,m0.upd w.heap.size (.cells ((Az es).toArray++(Az xs).toArray++Builtin.zeroCells z.cells (grownCap w (es.length+n) cap e-(es.length+n))) e (0,0)),hr,g1.less (fun k o hk=>?_),⟨g2.sz,g2.old,g2.us,fun k hk hmk=>?_,g2.io,fun f=>⟨(g2.dr f).tape,A7f (g2.dr f).dr⟩⟩,hok,.inr ⟨w.heap.size,grownCap w (es.length+n) cap e,(Builtin.zeroCells z.cells (grownCap w (es.length+n) cap e-(es.length+n))).toList,hm0,?_,?_,?_,?_,G8 hz _⟩⟩
   ·by_cases hk1:k=w.heap.size
    ·subst hk1;rw[Ac]at hk⊢;exact hk
    ·rw[Ad _ _ hk1]at hk⊢;rw[Ad _ _ (fun h=>by rw[h,hg0]at hk;cases hk)];exact hk
   ·rw[Ad _ _ oV];by_cases hkg:k=g
    ·rw[hkg];exact hg0
    ·rw[Ad _ _ hkg]at hmk;exact hmk
   ·congr 2;apply A4i;simp[Co]
   ·simp[hn]
   ·simp only[A0z,hn];exact grownCap_ge w _ cap e
   ·have:=grownCap_ge w (es.length+n) cap e;rw[Co];simp only[A0z,hfl,hfe,hn,A29,size_zeroCells,hzs];rw[<-A1o,<-A1o];congr 1;omega
theorem G.append (e:TypeId)(sz bt:Nat)(z:Value)(m0:PH)(es xs:List Value)(v:Value)(b off n c:Nat)(h:Al P (adv P st)=.app (some (e,sz,bt,z)) true [v,.slice (some ⟨b,off,none⟩) n c])(hz:z.cells.toList.all Be=true)(hzs:z.cells.size=sz)(hsz:0<sz)
 (ha:Ae m0 m v e sz es) (hx:El u b off sz xs) (ho:A3 sz xs) (hn:xs.length=n) (hn0:0<n) (hb:(es.length+n)*bt<=140737488355328) (hb2:es.length+n<=9223372036854775807)
 (k:∀ v' m',Ae m0 m' v' e sz (es++xs)->G P fn Post (nx (adv P st) v') u m'):G P fn Post st u m:=by
 refine G.big (K:=fun v' u' m'=>u'=u/\Ae m0 m' v' e sz (es++xs)) h mV (fun env op hv=>(Dl (P:=P) (o:=⟨none,op,0, "",#[],none⟩) hv).2.1) (.inr fun env op hv=>(Dl (P:=P) (o:=⟨none,op,0, "",#[],none⟩) hv).1) (fun env o hview w hgd=>?_) (fun v' u' m' _ hk=>?_)
 ·obtain⟨_,_,t,hi,hex⟩:=Dl (P:=P) hview;obtain⟨v',w',m',h1,h2,h3,h4⟩:=Nm (P:=P) m0 es xs v b off n c o.type hi hz hzs hsz ha ho hn hn0 hb hb2 hgd (hx.cells hsz ho hgd.pu);exact Bq (by rw[hex,h1];rfl) ⟨u,m',h2,h3,rfl,h4⟩
 ·obtain⟨rfl,hk⟩:=hk;exact k v' m' hk
end rules
end
section
variable [Cc] [Dy]
variable {P:Program} [Ba P] {fn:Func} {Post:B0} {st:List KI×S} {u m:PH}
theorem G.k (e:TypeId)(sz bt:Nat)(z:Value)(m0:PH)(es xs:List Value)(v:Value)(b off n c:Nat)(ha:Ae m0 m v e sz es)(hx:El u b off sz xs)(ho:A3 sz xs)(k:∀ v' m',Ae m0 m' v' e sz (es++xs)->G P fn Post (nx (adv P st) v') u m')(h:Al P (adv P st)=.app (some (e,sz,bt,z)) true [v,.slice (some ⟨b,off,none⟩) n c]:=by kernel_rfl)(hz:z.cells.toList.all Be=true:=by rfl)(hzs:z.cells.size=sz:=by rfl)(hsz:0<sz:=by omega)(hn:xs.length=n:=by rfl)(hn0:0<n:=by omega)(hb:(es.length+n)*bt<=140737488355328:=by simp;omega)(hb2:es.length+n<=9223372036854775807:=by simp;omega):G P fn Post st u m:=G.append e sz bt z m0 es xs v b off n c h hz hzs hsz ha hx ho hn hn0 hb hb2 k
end
section
variable {c j n sz:Nat}{e x y:Value}{env:Operand->Value}{es:List Value}{inf:Option (TypeId×Nat×Nat×Value)}{m0:PH}{o:Op}{t:TypeId}
variable [Cc] [Dy]
section fill
theorem Oz {p:Value->Bool}{sz:Nat}:∀ (es:List Value) (k:Nat) (cells:Array Value),Uc p sz es->(k+es.length)*sz<=cells.size ->
 A73 (fun i=>some (i*sz,sz)) cells (es.zipIdx k |>.map fun p=>(p.2,p.1))=some (cells.toList.take (k*sz)++Az es++cells.toList.drop ((k+es.length)*sz)).toArray
 |[],k,cells,_,h=>by simp[A73,Az]
 |e::es,k,cells,ho,h=>by
  have h1:=(ho e mV).1;have ho':Uc p sz es:=fun x hx=>ho x (A1w _ hx);have hm:(k+(es.length+1))*sz=k*sz+sz+es.length*sz:=by rw[A1o,A1o];omega
  simp only[A2n]at h;rw[hm]at h;simp only[List.zipIdx_cons,List.map_cons];rw[Vg _ _ _ (k*sz) sz _ _ rfl h1 oV];rw[Oz es (k+1) _ ho' (by simp[h1];rw[A1o,A1o];omega)]
  congr 2
  have hl:(cells.toList.take (k*sz)++e.cells.toList).length=(k+1)*sz:=by simp[h1,A1o];omega
  have e1:(cells.toList.take (k*sz)++e.cells.toList++cells.toList.drop (k*sz+sz)).toArray.toList.take ((k+1)*sz)=cells.toList.take (k*sz)++e.cells.toList:=by
   simp only[A2z];rw[<-hl,Bb2]
  have e2:(cells.toList.take (k*sz)++e.cells.toList++cells.toList.drop (k*sz+sz)).toArray.toList.drop ((k+1+es.length)*sz)=cells.toList.drop ((k+(es.length+1))*sz):=by
   simp only[A2z];rw[show (k+1+es.length)*sz=(k+1)*sz+es.length*sz by rw[A1o],<-hl,<-A7a,A8i,A7a]
   congr 1;rw[hm]
  rw[e1,e2];simp[Az]
end fill
section rules
variable {P:Program} [Ba P] {fn:Func} {Post:B0} {st:List KI×S} {u m:PH}
theorem E1 {ps:List (Nat×Value)}(h:A7 P env o=.buildS inf n ps):∃ t qs,o=.buildSlice t n qs/\(qs.map fun (i,x)=>(i,env x))=ps.toArray/\Jq P t=inf:=by
 cases o<;>simp only[A7]at h<;>try cases h
 any_goals ((repeat' split at h)<;>cases h;done)
 ·exact⟨_,_,rfl,by apply A4i;simp,rfl⟩
theorem Vh (h:A7 P env o=.make inf x y):∃ t X Y,o=.makeSlice t X Y/\env X=x/\env Y=y/\Jq P t=inf:=by
 cases o<;>simp only[A7]at h<;>try cases h
 any_goals ((repeat' split at h)<;>cases h;done)
 ·exact⟨_,_,_,rfl,rfl,rfl,rfl⟩
theorem Gc {sz:Option Nat}(h:A7 P env o=.store sz x y):∃ t X Y,o=.store t X Y/\env X=x/\env Y=y/\szB P t=sz:=by
 cases o<;>simp only[A7]at h<;>try cases h
 any_goals ((repeat' split at h)<;>cases h;done)
 ·exact⟨_,_,_,rfl,rfl,rfl,rfl⟩
theorem G.buildW {p:Value->Bool}(e:TypeId)(sz bt:Nat)(z:Value)(es:List Value)(h:Al P (adv P st)=.buildS (some (e,sz,bt,z)) es.length (es.zipIdx.map fun p=>(p.2,p.1)))(ho:Uc p sz es)(hzs:z.cells.size=sz)(hsz:0<sz)(hn0:0<es.length)(hb:es.length*sz<=16777216)
 (k:∀ g u',PH.le u u'->El u' g 0 sz es->G P fn Post (nx (adv P st) (.slice (some ⟨g,0,none⟩) es.length es.length)) u' m):G P fn Post st u m:=by
 refine G.big (K:=fun v' u' m'=>m'=m/\∃ g,v'=.slice (some ⟨g,0,none⟩) es.length es.length/\El u' g 0 sz es) h mV (fun env op hv=>?_) (.inl fun v u' m' hk=>by rw[hk.1];exact PH.le_refl _) (fun env o hview w hgd=>?_) (fun v' u' m' hle hk=>?_)
 ·obtain⟨t,qs,rfl,_⟩:=E1 hv;rfl
 ·obtain⟨t,qs,e1,e2,hi⟩:=E1 hview;obtain⟨dst,opp,type,pos,after,guard⟩:=o;simp only at e1;subst e1;obtain⟨hu,i,hi1,hi2,rfl,rfl⟩:=Df hi;obtain⟨g1,g2,g3,g4⟩:=hgd.newU (.cells (Az es).toArray e (0,0));have hfl:=A2 ho;have hne:es.length*i.size≠0:=by have:=A5h hn0 hsz;omega
  have hfill:=Oz es 0 ((A6d (es.length*i.size)).map (z.cells[· % z.cells.size]!)) ho mV;have e0:((A6d (es.length*i.size)).map (z.cells[· % z.cells.size]!)).toList.drop (es.length*i.size) = []:=by
   apply A5i;simp
  simp only[A4p,A3y,A2t,A2b,e0,A1i]at hfill;refine Bq (w':=w.alloc (.cells (Az es).toArray e (0,0))) (v:=.slice (some ⟨w.heap.size,0,none⟩) es.length es.length) ?_ ⟨_,m,g1,g2,rfl,_,rfl,?_⟩
  ·simp only[execOp,e2];simp[Instr.buildSlice,run_underlying hu,sizeOf,typeInfo,zeroValue,hi1,hi2,hne,hfill,newRow,show ¬ 16777216<es.length*i.size by omega]
  ·intro j x hj ii y hy;refine⟨_,_,_,Ac _ _ _,?_⟩;rw[A2x,A2b];exact Gm ho hj hy
 ·obtain⟨rfl,g,rfl,hk⟩:=hk;exact k g u' hle hk
theorem G.buildU (e:TypeId)(sz bt:Nat)(z:Value)(es:List Value)(h:Al P (adv P st)=.buildS (some (e,sz,bt,z)) es.length (es.zipIdx.map fun p=>(p.2,p.1)))(ho:A3 sz es)(hzs:z.cells.size=sz)(hsz:0<sz)(hn0:0<es.length)(hb:es.length*sz<=16777216)
 (k:∀ g u',PH.le u u'->El u' g 0 sz es->G P fn Post (nx (adv P st) (.slice (some ⟨g,0,none⟩) es.length es.length)) u' m):G P fn Post st u m:=G.buildW e sz bt z es h ho hzs hsz hn0 hb k
theorem G.make (e : TypeId) (sz bt : Nat) (z : Value) (n : Nat) (h : Al P (adv P st) = .make (some (e, sz, bt, z)) (.int .i64 (n : Int)) (.int .i64 (n : Int))) (hz : z.cells.toList.all Be = true) (hzs : z.cells.size = sz) (hsz : 0 < sz)
    (hb : bt * n ≤ 281474976710656) (hb2 : n ≤ 9223372036854775807) (k : ∀ v' m', Ae m m' v' e sz (A0x n z) → (∃ a, v' = .slice (some a) n n) → G P fn Post (nx (adv P st) v') u m') : G P fn Post st u m := by
  refine G.big (K := fun v' u' m' => u' = u ∧ PH.le m m' ∧ Ae m m' v' e sz (A0x n z) ∧ ∃ a, v' = .slice (some a) n n) h mV (fun env op hv => by obtain ⟨t, X, Y, rfl, _⟩ := Vh hv; rfl) (.inl fun v u' m' hk => hk.2.1) (fun env o hview w hgd => ?_) (fun v' u' m' hle hk => ?_)
  · obtain ⟨t, X, Y, e1, e2, e3, hi⟩ := Vh hview
    obtain ⟨dst, opp, type, pos, after, guard⟩ := o
    simp only at e1; subst e1
    obtain ⟨hu, i, hi1, hi2, rfl, rfl⟩ := Df hi
    have hb' : (i.bytes : Int) * (n : Int) ≤ 281474976710656 := by have : ((i.bytes * n : Nat) : Int) ≤ 281474976710656 := by omega
                                                                   rwa [A4j] at this
    have hr := run_make (P := P) w t e i z hu hi1 hi2 .i64 .i64 n n oV (Int.le_refl _) hb' oV
    simp only [A22] at hr
    obtain ⟨g1, g2, g3, g4⟩ := hgd.newM (t := e) (Ww hz (n * i.size) oV)
    have hok : A3 i.size (A0x n z) := fun x hx => by
      rw [List.eq_of_mem_replicate hx]
      exact ⟨hzs, fun y hy => by rw [A08] at hz; exact hz y hy⟩
    have hflat : (Az (A0x n z)).toArray = madeCells z.cells (n * i.size) := by
      apply Array.ext
      · rw [size_madeCells, A7d, A2 hok, A3e]
      · intro j h1 h2
        rw [size_madeCells] at h2
        have hlt : j % i.size < i.size := A2s _ hsz
        have hq : j / i.size < n := (A2w hsz).2 h2
        have hget := Gm hok (j := j / i.size) (i := j % i.size) (e := z) (x := z.cells[j % i.size]'oV) (by simp [hq]) mV
        rw [show j / i.size * i.size + j % i.size = j by rw [Nat.mul_comm]; exact A26 _ _] at hget
        have : (Az (A0x n z)).toArray[j]? = some z.cells[j % i.size] := by rw [A2x]; exact hget
        rw [Array.getElem?_eq_getElem h1] at this
        have h3 := Option.some.inj this
        rw [h3]
        simp only [madeCells, Array.getElem_map, Array.getElem_range, hzs]
        rw [getElem!_pos z.cells _ oV]
    refine Bq (w' := w.alloc (.cells (madeCells z.cells (n * i.size)) e (0, 0))) (v := .slice (some ⟨w.heap.size, 0, none⟩) n n) ?_ ⟨u, _, g1, g2, rfl, Jw _ g3, ⟨hok, .inr ⟨w.heap.size, n, [], g3, ?_, by simp, by simp, ?_, by simp⟩⟩, _, rfl⟩
    · simp only [execOp, e2, e3]
      simp [hr]
    · rw [A1i, hflat]
    · rw [A1i, A2 hok, A3e]
  · obtain ⟨rfl, _, hk, ha⟩ := hk
    exact k v' m' hk ha
theorem Nv {sz:Nat}:∀ {es:List Value} {j:Nat} {e:Value},A3 sz es->e.cells.size=sz->j<es.length->Az (es.set j e)=(Az es).take (j*sz)++e.cells.toList++(Az es).drop (j*sz+sz)
 |[],j,e,_,_,h=>by simp at h
 |d::es,j,e,ho,he,h=>by
  have hd:=(ho d mV).1;have e1:∀ d (l:List Value),Az (d::l)=d.cells.toList++Az l:=fun d l=>by simp[Az]
  cases j with
  |zero =>
   rw[List.set_cons_zero,e1,e1];have:d.cells.toList.length=sz:=by simpa using hd
   simp only[A4p,A3y,A2t,A2b];rw[<-this,A8i]
  |succ j =>
   rw[List.set_cons_succ,e1,e1,Nv (sz:=sz) (fun x hx=>ho x (A1w _ hx)) he (by simpa using h)];have hl:d.cells.toList.length=sz:=by simpa using hd
   rw[List.take_append,List.drop_append,hl];have a1:(j+1)*sz-sz=j*sz:=by rw[A1o];omega
   have a2:(j+1)*sz+sz-sz=j*sz+sz:=by rw[A1o];omega
   have b1:d.cells.toList.take ((j+1)*sz)=d.cells.toList:=A03 (by rw[hl,A1o];omega);have b2:d.cells.toList.drop ((j+1)*sz+sz) = []:=A5i (by rw[hl,A1o];omega);rw[a1,a2,b1,b2];simp
theorem A3.set (h:A3 sz es)(he:e.cells.size=sz/\∀ x∈e.cells.toList,Be x=true):A3 sz (es.set j e):=by
 intro x hx;rcases List.mem_or_eq_of_mem_set hx with hx|rfl
 ·exact h x hx
 ·exact he
theorem G.storeA {t:TypeId}(sz:Nat)(m0:PH)(es:List Value)(b n c j:Nat)(e:Value)(h:Al P (adv P st)=.store (some sz) (.pointer (some ⟨b,0+j*sz,none⟩)) e)(ha:Ae m0 m (.slice (some ⟨b,0,none⟩) n c) t sz es)(hj:j<es.length)(he:e.cells.size=sz)(hc:e.cells.toList.all Be=true)
 (k:∀ m',Ae m0 m' (.slice (some ⟨b,0,none⟩) n c) t sz (es.set j e)->G P fn Post (nx (adv P st) undef) u m'):G P fn Post st u m:=by
 refine G.big (K:=fun v' u' m'=>u'=u/\v'=undef/\Ae m0 m' (.slice (some ⟨b,0,none⟩) n c) t sz (es.set j e)) h mV (fun env op hv=>?_) (.inr fun env op hv=>?_) (fun env o hview w hgd=>?_) (fun v' u' m' _ hk=>?_)
 ·obtain⟨t',X,Y,rfl,_⟩:=Gc hv;rfl
 ·obtain⟨t',X,Y,rfl,_⟩:=Gc hv;rfl
 ·obtain⟨t',X,Y,e1,e2,e3,ht⟩:=Gc hview;obtain⟨dst,opp,type,pos,after,guard⟩:=o;simp only at e1;subst e1;rw[A08]at hc;rcases ha.2 with ⟨hv,_⟩|⟨g,cap,rest,hg0,rfl,hv,hcap,hlen,hrest⟩
  ·simp at hv
  ·simp only[A09,A0t,Addr.mk.injEq,and_true]at hv;obtain⟨rfl,rfl,rfl⟩:=hv;have hgw:=hgd.pm b _ (Ac _ _ _);have hfe:=A2 ha.1;have hjm:j*sz+sz<=es.length*sz:=by
    have:=A12 sz (show j+1<=es.length by omega);rw[A1o]at this;omega
   have hst:=run_storeCells_at P b (j*sz) t e.cells.toList 0 (Az es++rest).toArray w hgw (by simp[he,hfe];omega) (fun x hx=>Aqt (hc x hx));simp only[A3f,A29,he,A2z]at hst;have ecells:(Az es++rest).take (j*sz)++e.cells.toList++(Az es++rest).drop (j*sz+sz)=Az (es.set j e)++rest:=by
    rw[Nv ha.1 he hj,List.take_append_of_le_length oV,List.drop_append_of_le_length oV];simp
   rw[ecells]at hst;have hok:=ha.1.set (j:=j) (e:=e) ⟨he,hc⟩;have hcell:∀ x∈(Az (es.set j e)++rest).toArray.toList,Be x=true:=by
    intro x hx;simp only[A2z,A01]at hx;exact hx.elim (Ep hok x) (hrest x)
   obtain⟨g1,g2⟩:=hgd.setM (Ac _ _ _) hcell;rw[Dh]at g1 g2;unfold D3;have hex:(execOp env ⟨dst,.store t' X Y,type,pos,after,guard⟩).run P w=.ok .skip (w.setRow b (Az (es.set j e)++rest).toArray):=by
    simp only[execOp,e2,e3];simp[Instr.storeAt,A3x,storeVar,Bf ht,he,hst]
   rw[hex];refine⟨u,_,g1,g2,rfl,rfl,hok,.inr ⟨b,c,rest,hg0,rfl,mV,by simpa using hcap,?_,hrest⟩⟩;simp only[A0z,A2 hok,List.length_set,hfe]at hlen⊢;exact hlen
 ·obtain⟨rfl,rfl,hk⟩:=hk;exact k m' hk
theorem Ae.el {b n c j:Nat}(ha:Ae m0 m (.slice (some ⟨b,0,none⟩) n c) t sz es)(hj:es[j]?=some e):ElP m b (0+j*sz) e:=by
 rcases ha.2 with ⟨hv,_⟩|⟨g,cap,rest,hg0,rfl,hv,hcap,hlen,hrest⟩
 ·simp at hv
 ·simp only[A09,A0t,Addr.mk.injEq,and_true]at hv;obtain⟨rfl,rfl,rfl⟩:=hv;intro i x hx;refine⟨_,_,_,Ac _ _ _,?_⟩;rw[A2x,A2b];have:=Gm ha.1 hj hx;rw[A1d (by obtain⟨h,_⟩:=A0s.1 this;exact h)];exact this
theorem Ae.len {a:Option Addr}(ha:Ae m0 m (.slice a n c) t sz es):n=es.length:=by
 rcases ha.2 with ⟨hv,rfl,_⟩|⟨g,cap,rest,hg0,rfl,hv,_⟩
 ·simp at hv;simp[hv.2.1]
 ·simp at hv;exact hv.2.1
theorem Ae.ptr {v:Value}(ha:Ae m0 m v t sz es)(h:es≠[]):∃ b c,v=.slice (some ⟨b,0,none⟩) es.length c:=by
 rcases ha.2 with ⟨_,rfl,_⟩|⟨g,cap,rest,hg0,rfl,hv,_⟩
 ·exact absurd rfl h
 ·exact⟨g,cap,hv⟩
def Ab (u:PH)(v:Value)(sz:Nat)(es:List Value):Prop:=∃ a c,v=.slice a es.length c/\es.length<=c/\∀ j e,es[j]?=some e->∃ b off,a=some ⟨b,off,none⟩/\ElP u b (off+j*sz) e
theorem Ab.mono {u u':PH}{v:Value}{sz:Nat}{es:List Value}(h:Ab u v sz es)(hl:PH.le u u'):Ab u' v sz es:=by
 obtain⟨a,c,h1,h2,h3⟩:=h;exact⟨a,c,h1,h2,fun j e hj=>by obtain⟨b,off,e1,e2⟩:=h3 j e hj;exact⟨b,off,e1,e2.mono hl⟩⟩
theorem Ab.nil (u:PH)(a:Option Addr)(c sz:Nat):Ab u (.slice a 0 c) sz []:=⟨a,c,rfl,Nat.zero_le _,fun j e h=>by simp at h⟩
theorem G.give (m0:PH)(es:List Value)(v:Value)(h:Fd (ctl P 100 st).1=true)(ha:Ae m0 m v t sz es)(h0:∀ g,Post.m0 g=none\/m0 g≠none)(k:∀ u',PH.le u u'->Ab u' v sz es->G P fn Post (ctl P 100 st) u' m0):G P fn Post st u m:=by
 refine⟨Is 100 st ?_⟩;rcases ha.2 with ⟨rfl,rfl,rfl⟩|⟨g,cap,rest,hg0,rfl,rfl,hcap,hlen,hrest⟩
 ·exact (k u (PH.le_refl _) (Ab.nil _ _ _ _)).out
 ·have hle:∀ o,u g=none->PH.le u (u.upd g o):=fun o hu=>Jw o hu;rw[Sym.ofNo h];intro c ρ a w hm0 hr;have hgw:=hr.gd.pm g _ (Ac _ _ _);have hug:u g=none:=by
   rcases hr.gd.ap g with e|e
   ·exact e
   ·rw[Ac]at e;cases e
  have hnew:c.w0.heap.size<=g:=by
   rcases A11 g c.w0.heap.size with hlt|hge
   ·have hpm:c.m0 g=none:=by
     rw[hm0];rcases h0 g with e|e
     ·exact e
     ·exact absurd hg0 e
    have:=hr.gr.ms g hlt hpm;rw[Ac]at this;cases this
   ·exact hge
  have hk:=k (u.upd g (.cells (Az es++rest).toArray t (0,0))) (hle _ hug) ⟨_,_,rfl,hcap,fun j e hj=>⟨g,0,rfl,fun i x hx=>⟨_,_,_,Ac _ _ _,by
   rw[A2x,A2b];have:=Gm ha.1 hj hx;rw[A1d (by obtain⟨h,_⟩:=A0s.1 this;exact h)];exact this⟩⟩⟩
  have hk:=hk.out;rw[Sym.ofNo h]at hk;refine hk c ρ a w hm0 ⟨hr.sz,hr.tm,hr.df.of fun r e _ hu hm=>(by
   have hne:r≠g:=fun e'=>(by rw[e',Ac]at hm;cases hm);rw[Ad _ _ hne]at hm;exact⟨e,by rw[Ad _ _ hne];exact hu,hm⟩),fun kk b hb=>?_,hr.inj,hr.lv,⟨fun g' o hg=>?_,fun g' o hg=>?_,fun g'=>?_,fun g' cs t' fr j z hg hj=>?_⟩,⟨hr.gr.sz,hr.gr.old,fun g' hg=>?_,fun g' hg hm=>?_,hr.gr.io,hr.gr.dr⟩⟩
  ·obtain⟨e1,e2,e3,e4⟩:=hr.box kk b hb;have hne:ρ kk≠g:=fun e=>by rw[e,Ac]at e4;cases e4
   refine⟨e1,e2,by rw[Ad _ _ hne];exact e3,?_⟩;rw[Ad _ _ hne]at e4;exact e4
  ·by_cases e:g'=g
   ·subst e;rw[Ac]at hg;rw[hgw];exact hg
   ·rw[Ad _ _ e]at hg;exact hr.gd.pu g' o hg
  ·refine hr.gd.pm g' o ?_;rw[Ad _ _ (fun e=>by rw[e,hg0]at hg;cases hg)];exact hg
  ·by_cases e:g'=g
   ·subst e;exact .inr hg0
   ·rw[Ad _ _ e];have:=hr.gd.ap g';rw[Ad _ _ e]at this;exact this
  ·by_cases e:g'=g
   ·subst e;rw[Ac,<-hgw];exact hg
   ·rw[Ad _ _ e];exact hr.gd.cl g' cs t' fr j z hg hj
  ·rw[Ad _ _ oV];exact hr.gr.us g' hg
  ·have:=hr.gr.ms g' hg hm;rw[Ad _ _ oV]at this;exact this
end rules
end
section
variable [Cc] [Dy]
variable {P:Program} [Ba P] {fn:Func} {Post:B0} {st:List KI×S} {u m:PH}
theorem G.B (e:TypeId)(sz bt:Nat)(z:Value)(es:List Value)(ho:A3 sz es)(k:∀ g u',PH.le u u'->El u' g 0 sz es->G P fn Post (nx (adv P st) (.slice (some ⟨g,0,none⟩) es.length es.length)) u' m)(h:Al P (adv P st)=.buildS (some (e,sz,bt,z)) es.length (es.zipIdx.map fun p=>(p.2,p.1)):=by kernel_rfl)(hzs:z.cells.size=sz:=by rfl)(hsz:0<sz:=by omega)(hn0:0<es.length:=by simp)(hb:es.length*sz<=16777216:=by simp):G P fn Post st u m:=G.buildU e sz bt z es h ho hzs hsz hn0 hb k
end
section
variable {a:Option Addr}{c n:Nat}{env:Operand->Value}{l:List Nat}{o:Op}
variable [Cc] [Dy]
section rules
variable {P:Program} [Ba P] {fn:Func} {Post:B0} {st:List KI×S} {u m:PH}
theorem Aq5 {sz:Option Nat}{x:Value}{lo hi mx:Option Value}(h:A7 P env o=.slice sz x lo hi mx):∃ t X L H M,o=.slice t X L H M/\env X=x/\L.map env=lo/\H.map env=hi/\M.map env=mx/\Kq P t=sz:=by
 cases o<;>simp only[A7]at h<;>try cases h
 any_goals ((repeat' split at h)<;>cases h;done)
 ·exact⟨_,_,_,_,_,rfl,rfl,rfl,rfl,rfl,rfl⟩
theorem T6 (a:Option Addr):a.map (·.add 0)=a:=by cases a<;>rfl
theorem G.sliceTo (sz:Nat)(a:Option Addr)(n c k:Nat)(h:Al P (adv P st)=.slice (some sz) (.slice a n c) none (some (.int .i64 (k:Int))) none)(hk:k<=c)
 (g:G P fn Post (nx (adv P st) (.slice a k c)) u m):G P fn Post st u m:=by
 refine G.ask h mV (fun env o hview w hp=>?_) g;obtain⟨t,X,L,H,M,e1,e2,e3,e4,e5,hsz⟩:=Aq5 hview;obtain⟨dst,opp,type,pos,after,guard⟩:=o;simp only at e1;subst e1;unfold Kq at hsz;split at hsz
 ·rename_i e hu;have h1:(0:Int)<=k/\(k:Int)<=c:=oV
  simp only[execOp,e2,e3,e4,e5];simp only[A5r,A1n,run_underlying hu,A0y,A7m,A5u,A51,asIntOf,A3g,if_true,A6o,A7n,Bf hsz,h1,and_self,A22,A4p,T6,A6i];simp
 ·cases hsz
theorem G.sliceFrom (b off n c k sz:Nat)(h:Al P (adv P st)=.slice (some sz) (.slice (some ⟨b,off,none⟩) n c) (some (.int .i64 (k:Int))) none none)(hk:k<=n)(hc:k<c)
 (g:G P fn Post (nx (adv P st) (.slice (some ⟨b,off+k*sz,none⟩) (n-k) (c-k))) u m):G P fn Post st u m:=by
 refine G.ask h mV (fun env o hview w hp=>?_) g;obtain⟨t,X,L,H,M,e1,e2,e3,e4,e5,hsz⟩:=Aq5 hview;obtain⟨dst,opp,type,pos,after,guard⟩:=o;simp only at e1;subst e1;unfold Kq at hsz;split at hsz
 ·rename_i e hu;have h1:(0:Int)<=k/\(k:Int)<=n:=oV
  have h2:¬ (c=k):=oV
  simp only[execOp,e2,e3,e4,e5];simp only[A5r,A1n,run_underlying hu,A0y,A7m,A5u,A51,asIntOf,A3g,if_true,A6o,A7n,Bf hsz,h1,and_self,A22,h2,if_false,Option.map_some,Db]
 ·cases hsz
theorem G.quo (x y z:Int)(h:Al P (adv P st)=.bin .quo (.int .i64 x) (.int .i64 y))(hx:0<=x)(hx2:x<=9223372036854775807)(hy:0<y)(hz:x/y=z)
 (k:G P fn Post (nx (adv P st) (.int .i64 z)) u m):G P fn Post st u m:=by
 refine G.bin _ h Cy (fun t w=>?_) k;have h1:x.tdiv y=z:=by rw[Int.tdiv_eq_ediv_of_nonneg hx];exact hz
 have h2:0<=z:=by rw[<-hz];exact A77 hx oV
 have h3:z<=x:=by rw[<-hz];exact Int.ediv_le_self _ hx
 have h4:¬ y=0:=oV
 simp[binOp,Op.intDiv,h4,h1,Cl (z:=z) oV oV]
theorem G.rem (x y z:Int)(h:Al P (adv P st)=.bin .rem (.int .i64 x) (.int .i64 y))(hx:0<=x)(_hx2:x<=9223372036854775807)(hy:0<y)(hz:x%y=z)
 (k:G P fn Post (nx (adv P st) (.int .i64 z)) u m):G P fn Post st u m:=by
 refine G.bin _ h Cy (fun t w=>?_) k;have h1:x.tmod y=z:=by rw[Int.tmod_eq_emod_of_nonneg hx];exact hz
 have h4:¬ y=0:=oV
 have h2:0<=z:=by rw[<-hz];exact Int.emod_nonneg _ h4
 have h3:z<=x:=by rw[<-hz];have:=A9s x y;have h5:=Int.mul_nonneg (Bam hy) (A77 hx (Bam hy));omega
 simp[binOp,Op.intDiv,h4,h1,Cl (z:=z) oV oV]
theorem Sx {op:BinOp}{x y:Bool}(t:TypeId)(X Y:Operand)(w:World):(eqGuard op t X Y (.bool x) (.bool y)).run P w=.ok () w:=by
 unfold eqGuard;split<;>simp
theorem Aeh {t:TypeId}(ht:P.underlying t=some .bool)(x y:Bool)(w:World):(Op.equal t (.bool x) (.bool y)).run P w=.ok (x==y) w:=by
 unfold Op.equal;rw[show Op.maxDepth=9999+1 from rfl,Op.equalIn];simp[run_underlying ht]
theorem G.eqB (x y:Bool)(h:Al P (adv P st)=.binT .eql (some .bool) (.bool x) (.bool y))(k:G P fn Post (nx (adv P st) (.bool (x==y))) u m):G P fn Post st u m:=by
 refine G.ask h mV (fun env o hview w _=>?_) k;obtain⟨t,X,Y,yt,e,e1,e2,e3⟩:=Pz hview;obtain⟨dst,opp,type,pos,after,guard⟩:=o;simp only at e;subst e;simp[execOp,e1,e2,Sx,binOp,Aeh e3]
theorem G.neB (x y:Bool)(h:Al P (adv P st)=.binT .neq (some .bool) (.bool x) (.bool y))(k:G P fn Post (nx (adv P st) (.bool (!(x==y)))) u m):G P fn Post st u m:=by
 refine G.ask h mV (fun env o hview w _=>?_) k;obtain⟨t,X,Y,yt,e,e1,e2,e3⟩:=Pz hview;obtain⟨dst,opp,type,pos,after,guard⟩:=o;simp only at e;subst e;simp[execOp,e1,e2,Sx,binOp,Aeh e3]
def Ag (l:List Nat):List Value:=l.map fun (n:Nat)=>A15 .i64 (n:Int)
def B7 (u:PH)(v:Value)(l:List Nat):Prop:=Ab u v 1 (Ag l)
theorem Ah (l:List Nat):(Ag l).length=l.length:=by simp[Ag]
theorem B7.mono {u u':PH}{v:Value}{l:List Nat}(h:B7 u v l)(hl:PH.le u u'):B7 u' v l:=Ab.mono h hl
theorem B7.opn {u:PH}{v:Value}(h:B7 u v l):∃ a c,v=.slice a l.length c/\l.length<=c:=by
 obtain⟨a,c,h1,h2,_⟩:=h;rw[Ah]at h1 h2;exact⟨a,c,h1,h2⟩
theorem B7.len {u:PH}(h:B7 u (.slice a n c) l):n=l.length/\l.length<=c:=by
 obtain⟨a',c',h1,h2⟩:=h.opn;simp at h1;obtain⟨_,rfl,rfl⟩:=h1;exact⟨rfl,h2⟩
theorem B7.at {u:PH}{a:Option Addr}{n c:Nat}{l:List Nat}(h:B7 u (.slice a n c) l){j:Nat}(hj:j<l.length):∃ b off,a=some ⟨b,off,none⟩/\ElP u b (off+j*1) (.int .i64 (l.getD j 0:Nat)):=by
 obtain⟨a',c',h1,h2,h3⟩:=h;simp at h1;obtain⟨rfl,_,rfl⟩:=h1;exact h3 j _ (by simp[Ag,hj])
theorem B7.take {u:PH}(h:B7 u (.slice a n c) l)(k:Nat)(hk:k<=l.length):B7 u (.slice a k c) (l.take k):=by
 obtain⟨a',c',h1,h2,h3⟩:=h;simp at h1;obtain⟨rfl,_,rfl⟩:=h1;rw[Ah]at h2;refine⟨a,c,by simp[Ag];omega,by simp[Ag];omega,fun j e hj=>?_⟩;refine h3 j e ?_;simp only[Ag,List.map_take,List.getElem?_take]at hj⊢;split at hj
 ·exact hj
 ·cases hj
theorem Ou {b:Builtin}{ts:List TypeId}{xs:List Value}(h:A7 P env o=.blt b ts xs):∃ c,o=.call c/\c.callee=.builtin b/\c.argTypes=ts.toArray/\(c.args.map env)=xs.toArray:=by
 cases o<;>simp only[A7]at h<;>try cases h
 ·split at h<;>cases h
 split at h
 ·split at h<;>cases h
 ·rename_i c b' hc;split at h
  ·split at h<;>cases h
  ·simp only[S2.blt.injEq]at h;obtain⟨rfl,rfl,rfl⟩:=h;exact⟨_,rfl,hc,mV,by apply A4i;simp⟩
 ·cases h
theorem G.minI (ts:List TypeId)(x y z:Int)(h:Al P (adv P st)=.blt .min ts [.int .i64 x,.int .i64 y])(hz:min x y=z)(k:G P fn Post (nx (adv P st) (.int .i64 z)) u m):G P fn Post st u m:=by
 refine G.ask h mV (fun env o hview w _=>?_) k;obtain⟨c,e1,e2,e3,e4⟩:=Ou hview;obtain⟨dst,opp,type,pos,after,guard⟩:=o;simp only at e1;subst e1;subst hz;have hm:(if y<x then y else x)=min x y:=by split<;>omega
 simp[execOp,resolve,e2,invoke,builtin,e4,Builtin.min_,Builtin.min2,hm]
theorem G.maxI (ts:List TypeId)(x y z:Int)(h:Al P (adv P st)=.blt .max ts [.int .i64 x,.int .i64 y])(hz:max x y=z)(k:G P fn Post (nx (adv P st) (.int .i64 z)) u m):G P fn Post st u m:=by
 refine G.ask h mV (fun env o hview w _=>?_) k;obtain⟨c,e1,e2,e3,e4⟩:=Ou hview;obtain⟨dst,opp,type,pos,after,guard⟩:=o;simp only at e1;subst e1;subst hz;have hm:(if x<y then y else x)=max x y:=by split<;>omega
 simp[execOp,resolve,e2,invoke,builtin,e4,Builtin.max_,Builtin.max2,hm]
theorem G.appendNil (e:TypeId)(sz bt:Nat)(z:Value)(a:Option Addr)(c:Nat)(h:Al P (adv P st)=.app (some (e,sz,bt,z)) true [.slice none 0 0,.slice a 0 c])
 (k:G P fn Post (nx (adv P st) (.slice none 0 0)) u m):G P fn Post st u m:=by
 refine G.big (K:=fun v' u' m'=>u'=u/\m'=m/\v'=.slice none 0 0) h mV (fun env op hv=>(Dl (P:=P) (o:=⟨none,op,0, "",#[],none⟩) hv).2.1) (.inl fun v u' m' hk=>by rw[hk.2.1];exact PH.le_refl _) (fun env o hview w hgd=>?_) (fun v' u' m' _ hk=>?_)
 ·obtain⟨_,_,t,hi,hex⟩:=Dl (P:=P) hview;obtain⟨hu,i,hi1,hi2,hi3,hi4⟩:=Df hi;have hr:(Builtin.append_ #[t,t] o.type #[.slice none 0 0,.slice a 0 c]).run P w=.ok (.slice none 0 0) w:=by
   cases a<;>simp[Builtin.append_,run_underlying hu,sizeOf,typeInfo,hi1,Builtin.lenOf,Builtin.firstCells,loadCells,loadCellsFrom]
  exact Bq (by rw[hex,hr];rfl) ⟨u,m,hgd,Bz.refl _ _ _,rfl,rfl,rfl⟩
 ·obtain⟨rfl,rfl,rfl⟩:=hk;exact k
def Dx (l:List Int):List Value:=l.map fun (n:Int)=>A15 .i64 n
theorem Aqg (l:List Int):(Dx l).length=l.length:=by simp[Dx]
theorem K9 (l:List Int):A3 1 (Dx l):=by
 intro e he;simp only[Dx,A0u]at he;obtain⟨n,_,rfl⟩:=he;simp[A1e,Be]
theorem Ix (l:List Int)(j:Nat)(d:Int):(Dx l).set j (.int .i64 d)=Dx (l.set j d):=by simp[Dx,List.map_set]
theorem Pe (l:List Nat):Dx (l.map fun (n:Nat)=>(n:Int))=Ag l:=by simp[Dx,Ag]
theorem Ax (l:List Nat):A3 1 (Ag l):=by rw[<-Pe];exact K9 _
theorem B7.els {u:PH}{b off n c:Nat}(h:B7 u (.slice (some ⟨b,off,none⟩) n c) l):El u b off 1 (Ag l):=by
 obtain⟨a',c',h1,h2,h3⟩:=h;simp at h1;obtain⟨rfl,_,rfl⟩:=h1;intro j e hj;obtain⟨b',off',e1,e2⟩:=h3 j e hj;simp at e1;obtain⟨rfl,rfl⟩:=e1;exact e2
end rules
end
section
variable [Cc] [Dy]
section rules
variable {P:Program} [Ba P] {fn:Func} {Post:B0} {st:List KI×S} {u m:PH}
theorem Ab.els {sz:Nat}{es:List Value}{b off n c:Nat}(h:Ab u (.slice (some ⟨b,off,none⟩) n c) sz es):El u b off sz es:=by
 obtain⟨a',c',h1,h2,h3⟩:=h;simp at h1;obtain⟨rfl,_,rfl⟩:=h1;intro j e hj;obtain⟨b',off',e1,e2⟩:=h3 j e hj;simp at e1;obtain⟨rfl,rfl⟩:=e1;exact e2
theorem G.append0 (e:TypeId)(sz bt:Nat)(z:Value)(a a':Option Addr)(n c c':Nat)(h:Al P (adv P st)=.app (some (e,sz,bt,z)) true [.slice a n c,.slice a' 0 c'])(hc:n<=c)
 (k:G P fn Post (nx (adv P st) (.slice a n c)) u m):G P fn Post st u m:=by
 refine G.big (K:=fun v' u' m'=>u'=u/\m'=m/\v'=.slice a n c) h mV (fun env op hv=>(Dl (P:=P) (o:=⟨none,op,0, "",#[],none⟩) hv).2.1) (.inl fun v u' m' hk=>by rw[hk.2.1];exact PH.le_refl _) (fun env o hview w hgd=>?_) (fun v' u' m' _ hk=>?_)
 ·obtain⟨_,_,t,hi,hex⟩:=Dl (P:=P) hview;obtain⟨hu,i,hi1,hi2,hi3,hi4⟩:=Df hi;have hr:(Builtin.append_ #[t,t] o.type #[.slice a n c,.slice a' 0 c']).run P w=.ok (.slice a n c) w:=by
   cases a<;>cases a'<;>simp[Builtin.append_,run_underlying hu,sizeOf,typeInfo,hi1,Builtin.lenOf,Builtin.firstCells,loadCells,loadCellsFrom,hc,storeCells]
  exact Bq (by rw[hex,hr];rfl) ⟨u,m,hgd,Bz.refl _ _ _,rfl,rfl,rfl⟩
 ·obtain⟨rfl,rfl,rfl⟩:=hk;exact k
theorem G.appendU (e:TypeId)(sz bt:Nat)(z:Value)(es xs:List Value)(a:Option Addr)(n' b off n c:Nat)(h:Al P (adv P st)=.app (some (e,sz,bt,z)) true [.slice a n' n',.slice (some ⟨b,off,none⟩) n c])(hsz:0<sz)
 (ha:Ab u (.slice a n' n') sz es) (hoe:A3 sz es) (hx:El u b off sz xs) (ho:A3 sz xs) (hn:xs.length=n) (hn0:0<n) (hb:(es.length+n)*bt<=140737488355328) (hb2:es.length+n<=9223372036854775807)
 (k:∀ v' u',PH.le u u'->Ab u' v' sz (es++xs)->G P fn Post (nx (adv P st) v') u' m):G P fn Post st u m:=by
 refine G.big (K:=fun v' u' m'=>m'=m/\Ab u' v' sz (es++xs)) h mV (fun env op hv=>(Dl (P:=P) (o:=⟨none,op,0, "",#[],none⟩) hv).2.1) (.inl fun v u' m' hk=>by rw[hk.1];exact PH.le_refl _) (fun env o hview w hgd=>?_) (fun v' u' m' hle hk=>?_)
 ·obtain⟨_,_,t,hi,hex⟩:=Dl (P:=P) hview;obtain⟨hu,i,hi1,hi2,rfl,rfl⟩:=Df hi;have hsrc:=hx.cells hsz ho hgd.pu;have hfl:=A2 ho;have hfe:=A2 hoe;obtain⟨a1,c1,e1,e2,e3⟩:=id ha;simp only[A09]at e1;obtain⟨rfl,rfl,rfl⟩:=e1;have key:∀ (cap:Nat) (rest:List Value),es.length+n<=cap->Ab (u.upd w.heap.size (.cells (Az (es++xs)++rest).toArray e (0,0))) (.slice (some ⟨w.heap.size,0,none⟩) (es.length+n) cap) i.size (es++xs):=by
   intro cap rest hcap;refine⟨_,cap,by simp[hn],by simp[hn];exact hcap,fun j x hj=>⟨_,0,rfl,fun ii y hy=>⟨_,_,_,Ac _ _ _,?_⟩⟩⟩;rw[A2x,A2b];have:=Gm (hoe.append ho) hj hy;rw[A1d (by obtain⟨h,_⟩:=A0s.1 this;exact h)];exact this
  rcases A1p es.length with h0|h0
  ·have:es = []:=A13 h0;subst this;simp only[A3i,A2b]at hb hb2;have hr:∃ v w',(Builtin.append_ #[t,t] o.type #[.slice a 0 0,.slice (some ⟨b,off,none⟩) n c]).run P w=.ok v w'/\v=.slice (some ⟨w.heap.size,0,none⟩) n (grownCap w n 0 e)/\w'=w.drew.alloc (.cells (Az xs++(Builtin.zeroCells z.cells (grownCap w n 0 e-n)).toList).toArray e):=by
    cases a with
    |none =>
     refine⟨_,_,run_append_nil (P:=P) w t o.type e i z hu hi1 hi2 ⟨b,off,none⟩ n c (Az xs) (by rw[hfl,hn]) hsrc hn0 oV oV,rfl,?_⟩
     congr 2;apply A4i;simp
    |some a =>
     have:=run_append_grow (P:=P) w t o.type e i z hu hi1 hi2 a 0 0 [] mV mV ⟨b,off,none⟩ n c (Az xs) (by rw[hfl,hn]) hsrc oV oV (growslice_fits oV (by rw[A2b];omega));simp only[A2b]at this;refine⟨_,_,this,rfl,?_⟩
     congr 2;apply A4i;simp
   obtain⟨v,w',hr,rfl,rfl⟩:=hr;obtain⟨g1,g2,g3,g4⟩:=hgd.drew'.newU (.cells (Az xs++(Builtin.zeroCells z.cells (grownCap w n 0 e-n)).toList).toArray e (0,0));have:=key (grownCap w n 0 e) (Builtin.zeroCells z.cells (grownCap w n 0 e-n)).toList (by simpa using grownCap_ge w n 0 e);simp only[A2t,A3i,A2b]at this;exact Bq (by rw[hex];simp only[A3i];rw[hr];rfl) ⟨_,m,g1,⟨g2.sz,g2.old,g2.us,g2.ms,g2.io,fun f=>⟨(g2.dr f).tape,A7f (g2.dr f).dr⟩⟩,rfl,this⟩
  ·obtain⟨be,oe,rfl,_⟩:=e3 0 es[0] mV;have hold:=El.cells hsz ha.els hoe hgd.pu;have hr:=run_append_grow (P:=P) w t o.type e i z hu hi1 hi2 ⟨be,oe,none⟩ es.length es.length (Az es) hfe hold ⟨b,off,none⟩ n c (Az xs) (by rw[hfl,hn]) hsrc oV oV (growslice_fits oV hb);have ew:(Az es).toArray++(Az xs).toArray++Builtin.zeroCells z.cells (grownCap w (es.length+n) es.length e-(es.length+n))=(Az (es++xs)++(Builtin.zeroCells z.cells (grownCap w (es.length+n) es.length e-(es.length+n))).toList).toArray:=by
    apply A4i;simp[Co]
   rw[ew]at hr;obtain⟨g1,g2,g3,g4⟩:=hgd.drew'.newU (.cells (Az (es++xs)++(Builtin.zeroCells z.cells (grownCap w (es.length+n) es.length e-(es.length+n))).toList).toArray e (0,0));exact Bq (by rw[hex,show ([A06 (some ⟨be,oe,none⟩) es.length es.length,A06 (some ⟨b,off,none⟩) n c]).toArray = #[.slice (some ⟨be,oe,none⟩) es.length es.length,.slice (some ⟨b,off,none⟩) n c] from rfl,hr];rfl) ⟨_,m,g1,⟨g2.sz,g2.old,g2.us,g2.ms,g2.io,fun f=>⟨(g2.dr f).tape,A7f (g2.dr f).dr⟩⟩,rfl,key _ _ (grownCap_ge w _ _ e)⟩
 ·obtain⟨rfl,hk⟩:=hk;exact k v' u' hle hk
theorem G.appendV (e:TypeId)(sz bt:Nat)(z:Value)(es xs:List Value)(a:Option Addr)(n':Nat)(ax:Option Addr)(n c:Nat)(h:Al P (adv P st)=.app (some (e,sz,bt,z)) true [.slice a n' n',.slice ax n c])(hsz:0<sz)
 (ha:Ab u (.slice a n' n') sz es) (hoe:A3 sz es) (hx:Ab u (.slice ax n c) sz xs) (ho:A3 sz xs) (hb:(es.length+xs.length)*bt<=140737488355328) (hb2:es.length+xs.length<=9223372036854775807)
 (k:∀ v' u',PH.le u u'->Ab u' v' sz (es++xs)->G P fn Post (nx (adv P st) v') u' m):G P fn Post st u m:=by
 obtain⟨ax',c',e1,e2,e3⟩:=id hx;simp only[A09]at e1;obtain⟨rfl,rfl,rfl⟩:=e1;rcases A1p xs.length with h0|h0
 ·have:xs = []:=A13 h0;subst this;exact G.append0 e sz bt z a ax n' n' c h (A0w _) (k _ u (PH.le_refl _) (by rw[A1i];exact ha))
 ·obtain⟨bx,ox,rfl,_⟩:=e3 0 xs[0] mV;exact G.appendU e sz bt z es xs a n' bx ox xs.length c h hsz ha hoe hx.els ho rfl h0 hb hb2 k
end rules
end
section
variable {env:Operand->Value}{o:Op}{x:Value}
variable [Cc] [Dy]
abbrev mkS (l:List UInt8):ByteArray:=⟨l.toArray⟩
theorem Wx {a b:List UInt8}:mkS a=mkS b↔a=b:=by
 constructor
 ·intro h;injection h with h;simpa using h
 ·rintro rfl;rfl
theorem J9 (l:List UInt8):(mkS l).toList=l:=by
 rw[Go.Lib.toList_data]
theorem I8 (a b:List UInt8):((mkS a).toList==(mkS b).toList)=decide (a=b):=by
 rw[J9,J9,Bool.eq_iff_iff];simp
section rules
variable {P:Program} [Ba P] {fn:Func} {Post:B0} {st:List KI×S} {u m:PH}
def U6 (Q:Op->Bool)(st:List KI×S):Bool :=
 match st.1 with
 |.reg _ ops _ (i::_)::_=>match ops[i]? with
  |some o=>Q o.op
  |none=>false
 |_=>false
theorem G.askQ (Q:Op->Bool){V:S2}{v:Value}(h:Al P (adv P st)=V)(hq:U6 Q (adv P st)=true)(hV:V≠.other)(hr:∀ env (o:Oper),A7 P env o.op=V->Q o.op=true->∀ w,(F2 o.op=true->Eb u w/\Eb m w)->(execOp env o).run P w=.ok (.value v) w)
 (k:G P fn Post (nx (adv P st) v) u m):G P fn Post st u m:=by
 refine G.stp ?_;obtain⟨id,ops,dr,i,l,kk,s,o,e,ho,hg,hd,hv,hs,hview,hnx⟩:=Ho h hV;have k:=k.out;rw[hnx]at k;have hQ:Q o.op=true:=by
  rw[e]at hq;simpa[U6,ho] using hq
 rw[e];exact⟨Ob.ask ho hg hd hv hs (Adw hview hV) (fun w hp=>hr _ o hview hQ w hp) k⟩
def Jm (P:Program):Op->Bool
 |.slice t ..=>match P.underlying t with|some .string=>true|_=>false
 |_=>false
theorem Fx {op:BinOp}{x y:ByteArray}(t:TypeId)(X Y:Operand)(w:World):(eqGuard op t X Y (.string x) (.string y)).run P w=.ok () w:=by
 unfold eqGuard;split<;>simp
theorem G.eqST (a b:List UInt8)(h:Al P (adv P st)=.bin .eql (.string (mkS a)) (.string (mkS b)))(hab:a=b)(k:G P fn Post (nx (adv P st) (.bool true)) u m):G P fn Post st u m :=
 G.bin _ h Fx (fun t w=>by simp[binOp,Op.stringOp,I8,hab]) k
theorem G.eqSF (a b:List UInt8)(h:Al P (adv P st)=.bin .eql (.string (mkS a)) (.string (mkS b)))(hab:a≠b)(k:G P fn Post (nx (adv P st) (.bool false)) u m):G P fn Post st u m :=
 G.bin _ h Fx (fun t w=>by simp only[binOp,Op.stringOp,I8,decide_eq_false hab];rfl) k
theorem G.neST (a b:List UInt8)(h:Al P (adv P st)=.bin .neq (.string (mkS a)) (.string (mkS b)))(hab:a≠b)(k:G P fn Post (nx (adv P st) (.bool true)) u m):G P fn Post st u m :=
 G.bin _ h Fx (fun t w=>by simp only[binOp,Op.stringOp,I8,decide_eq_false hab];rfl) k
theorem G.neSF (a b:List UInt8)(h:Al P (adv P st)=.bin .neq (.string (mkS a)) (.string (mkS b)))(hab:a=b)(k:G P fn Post (nx (adv P st) (.bool false)) u m):G P fn Post st u m :=
 G.bin _ h Fx (fun t w=>by simp only[binOp,Op.stringOp,I8,decide_eq_true hab];rfl) k
theorem Ac0 (a b:List UInt8):mkS a++mkS b=mkS (a++b):=by
 rw[mkS,mkS,ByteArray.mk_append_mk]
theorem G.addS (a b:List UInt8)(h:Al P (adv P st)=.bin .add (.string (mkS a)) (.string (mkS b)))(hl:a.length+b.length<=9223372036854775807)(k:G P fn Post (nx (adv P st) (.string (mkS (a++b)))) u m):G P fn Post st u m :=
 G.bin _ h Fx (fun t w=>by
  have h1:¬ (((mkS a).size+(mkS b).size:Nat):Int)>IntKind.i64.max:=by
   rw[Go.Lib.size_mk,Go.Lib.size_mk];simp[IntKind.max,IntKind.signed,IntKind.bits];omega
  simp only[binOp,Op.stringOp];rw[if_neg h1,Ac0];rfl) k
theorem Ab4 {t:Option TypeDesc}{x i:Value}(h:A7 P env o=.index t x i):∃ t' X I,o=.index t' X I/\env X=x/\env I=i/\P.underlying t'=t:=by
 cases o<;>simp only[A7]at h<;>try cases h
 any_goals ((repeat' split at h)<;>cases h;done)
 ·exact⟨_,_,_,rfl,rfl,rfl,rfl⟩
theorem Ja {s d:Option TypeDesc}(h:A7 P env o=.conv s d x):∃ s' d' X,o=.convert s' d' X/\env X=x/\P.underlying s'=s/\P.underlying d'=d:=by
 cases o<;>simp only[A7]at h<;>try cases h
 any_goals ((repeat' split at h)<;>cases h;done)
 ·exact⟨_,_,_,rfl,rfl,rfl,rfl⟩
theorem G.idxS (l:List UInt8)(i:Nat)(b:UInt8)(h:Al P (adv P st)=.index (some .string) (.string (mkS l)) (.int .i64 (i:Int)))(hb:l[i]?=some b)
 (k:G P fn Post (nx (adv P st) (.int .u8 (b.toNat:Int))) u m):G P fn Post st u m:=by
 refine G.ask h mV (fun env o hview w _=>?_) k;obtain⟨t,X,I,e1,e2,e3,e4⟩:=Ab4 hview;obtain⟨dst,opp,type,pos,after,guard⟩:=o;simp only at e1;subst e1;obtain⟨hi,hb⟩:=A0s.1 hb;have e5:(mkS l)[i]?=some b:=by
  have h6:i<(mkS l).size:=by rw[Go.Lib.size_mk];exact hi
  rw[getElem?_pos (mkS l) i h6]
  congr 1
 have h0:(0:Int)<=(i:Int):=oV
 simp[execOp,e2,e3,Instr.index,run_underlying e4,asIntOf,e5,h0]
theorem G.sliceSTo (l:List UInt8)(n:Nat)(h:Al P (adv P st)=.slice none (.string (mkS l)) none (some (.int .i64 (n:Int))) none)(hq:U6 (Jm P) (adv P st)=true)(hn:n<=l.length)
 (k:G P fn Post (nx (adv P st) (.string (mkS (l.take n)))) u m):G P fn Post st u m:=by
 refine G.askQ _ h hq mV (fun env o hview hQ w hp=>?_) k;obtain⟨t,X,L,H,M,e1,e2,e3,e4,e5,hsz⟩:=Aq5 hview;obtain⟨dst,opp,type,pos,after,guard⟩:=o;simp only at e1;subst e1;simp only[Jm]at hQ;split at hQ
 ·rename_i hu;have h1:(0:Int)<=n/\(n:Int)<=(mkS l).size:=by rw[Go.Lib.size_mk];omega
  simp only[execOp,e2,e3,e4,e5];simp only[A5r,A1n,run_underlying hu,A0y,A7m,A5u,A51,asIntOf,A3g,if_true,A6o,A7n,h1,and_self,A22,A6i];simp[Go.Lib.extract_mk]
 ·cases hQ
theorem G.sliceSFrom (l:List UInt8)(n:Nat)(h:Al P (adv P st)=.slice none (.string (mkS l)) (some (.int .i64 (n:Int))) none none)(hq:U6 (Jm P) (adv P st)=true)(hn:n<=l.length)
 (k:G P fn Post (nx (adv P st) (.string (mkS (l.drop n)))) u m):G P fn Post st u m:=by
 refine G.askQ _ h hq mV (fun env o hview hQ w hp=>?_) k;obtain⟨t,X,L,H,M,e1,e2,e3,e4,e5,hsz⟩:=Aq5 hview;obtain⟨dst,opp,type,pos,after,guard⟩:=o;simp only at e1;subst e1;simp only[Jm]at hQ;split at hQ
 ·rename_i hu;have h1:(0:Int)<=n/\(n:Int)<=(mkS l).size:=by rw[Go.Lib.size_mk];omega
  simp only[execOp,e2,e3,e4,e5];simp only[A5r,A1n,run_underlying hu,A0y,A7m,A5u,A51,asIntOf,A3g,if_true,A6o,A7n,h1,and_self,A22,A6i];have h2:(mkS l).extract n (mkS l).size=mkS (l.drop n):=by
   rw[Go.Lib.extract_mk,Go.Lib.size_mk,A03 mV]
  simp[h2]
 ·cases hQ
theorem G.convI (k0 k1 k2:IntKind)(x z:Int)(h:Al P (adv P st)=.conv (some (.int k0)) (some (.int k1)) (.int k2 x))(hz:k1.wrap x=z)
 (k:G P fn Post (nx (adv P st) (.int k1 z)) u m):G P fn Post st u m:=by
 refine G.ask h mV (fun env o hview w _=>?_) k;obtain⟨s,d,X,e1,e2,e3,e4⟩:=Ja hview;obtain⟨dst,opp,type,pos,after,guard⟩:=o;simp only at e1;subst e1;simp[execOp,convert,e2,run_underlying e3,run_underlying e4,Conv.intToInt,hz]
theorem Ad8 {z:Int}(h1:0<=z)(h2:z<256):IntKind.u8.wrap z=z:=by
 simp only[IntKind.wrap,IntKind.signed,IntKind.bits];simp;omega
theorem G.sub8 (x y z:Int)(h:Al P (adv P st)=.bin .sub (.int .u8 x) (.int .u8 y))(hz:x-y=z)(h1:0<=z)(h2:z<256)
 (k:G P fn Post (nx (adv P st) (.int .u8 z)) u m):G P fn Post st u m :=
 G.bin _ h Cy (fun t w=>by simp[binOp,Op.intArith,hz,Ad8 h1 h2]) k
def Bc (l:List UInt8):List Value:=l.map fun b=>A15 .u8 (b.toNat:Int)
theorem Aw (l:List UInt8):(Bc l).length=l.length:=by simp[Bc]
theorem Mo (l l':List UInt8):Bc (l++l')=Bc l++Bc l':=by simp[Bc]
theorem Jh (l:List UInt8):A3 1 (Bc l):=by
 intro e he;simp only[Bc,A0u]at he;obtain⟨b,_,rfl⟩:=he;exact⟨rfl,fun x hx=>by simp[A1e]at hx;subst hx;rfl⟩
theorem Ae.take {m0:PH}{t:TypeId}{sz:Nat}{es:List Value}{a:Option Addr}{n c k:Nat}(ha:Ae m0 m (.slice a n c) t sz es)(hk:k<=es.length):Ae m0 m (.slice a k c) t sz (es.take k):=by
 refine⟨fun e he=>ha.1 e (List.mem_of_mem_take he),?_⟩;rcases ha.2 with ⟨hv,rfl,hm⟩|⟨g,cap,rest,hg0,rfl,hv,hcap,hlen,hrest⟩
 ·left;simp at hv hk;obtain⟨rfl,rfl,rfl⟩:=hv;subst hk;exact⟨rfl,rfl,hm⟩
 ·right;simp only[A09]at hv;obtain⟨rfl,rfl,rfl⟩:=hv;have e:Az es=Az (es.take k)++Az (es.drop k):=by rw[<-Co,List.take_append_drop]
  refine⟨g,c,Az (es.drop k)++rest,hg0,by rw[<-A1j,<-e],gV,gV,by rw[<-A1j,<-e];exact hlen,fun x hx=>?_⟩;rcases A01.1 hx with hx|hx
  ·simp only[Az,A7s]at hx;obtain⟨e',he',hx⟩:=hx;exact (ha.1 e' (A3k he')).2 x hx
  ·exact hrest x hx
theorem Ae.cap {m0:PH}{t:TypeId}{sz:Nat}{es:List Value}{a:Option Addr}{n c:Nat}(ha:Ae m0 m (.slice a n c) t sz es):n<=c:=by
 rcases ha.2 with ⟨hv,rfl,hm⟩|⟨g,cap,rest,hg0,rfl,hv,hcap,hlen,hrest⟩
 ·simp at hv;omega
 ·simp at hv;omega
theorem G.convB (m0:PH)(t e:TypeId)(l:List UInt8)(b n c:Nat)(h:Al P (adv P st)=.conv (some (.slice e)) (some .string) (.slice (some ⟨b,0,none⟩) n c))(he:P.underlying e=some (.int .u8))
 (ha:Ae m0 m (.slice (some ⟨b,0,none⟩) n c) t 1 (Bc l)) (k:G P fn Post (nx (adv P st) (.string (mkS l))) u m):G P fn Post st u m:=by
 refine G.ask h mV (fun env o hview w hp=>?_) k;obtain⟨s,d,X,e1,e2,e3,e4⟩:=Ja hview;obtain⟨dst,opp,type,pos,after,guard⟩:=o;simp only at e1;subst e1;have hm:=(hp (by simp[F2,V1 e4 mV])).2;have hn:=ha.len;rw[Aw]at hn;subst hn;have:=run_convert_bytes_back (P:=P) w s d e ⟨b,0,none⟩ c l e3 he e4 (fun j hj=>by
  have h1:=ha.el (j:=j) (e:=.int .u8 (l[j].toNat:Int)) (by simp[Bc,hj]);have h2:=(h1 0 (.int .u8 (l[j].toNat:Int)) (by simp[A1e])).cell hm;rw[Db];simpa using h2)
 simp[execOp,e2,this]
end rules
end
section
variable [Cc] [Dy]
variable {P:Program} [Ba P] {fn:Func} {Post:B0} {st:List KI×S} {u m:PH}
theorem G.q (a b:List UInt8)(hab:a=b)(k:G P fn Post (nx (adv P st) (.bool true)) u m)(h:Al P (adv P st)=.bin .eql (.string (mkS a)) (.string (mkS b)):=by kernel_rfl):G P fn Post st u m:=G.eqST a b h hab k
theorem G.w (a b:List UInt8)(hab:a≠b)(k:G P fn Post (nx (adv P st) (.bool false)) u m)(h:Al P (adv P st)=.bin .eql (.string (mkS a)) (.string (mkS b)):=by kernel_rfl):G P fn Post st u m:=G.eqSF a b h hab k
theorem G.x (a b:List UInt8)(hab:a≠b)(k:G P fn Post (nx (adv P st) (.bool true)) u m)(h:Al P (adv P st)=.bin .neq (.string (mkS a)) (.string (mkS b)):=by kernel_rfl):G P fn Post st u m:=G.neST a b h hab k
theorem G.y (a b:List UInt8)(hab:a=b)(k:G P fn Post (nx (adv P st) (.bool false)) u m)(h:Al P (adv P st)=.bin .neq (.string (mkS a)) (.string (mkS b)):=by kernel_rfl):G P fn Post st u m:=G.neSF a b h hab k
def tV (l:List UInt8):SV:=.v (.string (mkS l))
end
end Go.Proofs.YtanfagpabkdmiaaGreatDoor
