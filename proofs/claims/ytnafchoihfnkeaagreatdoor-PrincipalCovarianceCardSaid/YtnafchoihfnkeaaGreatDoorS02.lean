/- Parts of one proof, joined by a program. -/
import Derived.Test.YtnafchoihfnkeaaGreatDoorS01
import Derived.Deep.LoopGhost
import Derived.WalkKit
import Derived.Lib.Hide
import Derived.Test.YtnafchoihfnkeaaGreatDoorProg
import Derived.KernelRfl
import Derived.Deep.QuietTactic
import Derived.BigQuiet
import Derived.RegionTactic
import Derived.ChangeAlike
import Derived.Outline
import Derived.Deep.RegionWith
import Derived.Deep.DeepCutAuto
import Derived.Laws.CopyOwn
import Derived.Deep.RegionHeld3
set_option linter.defProp false
set_option linter.unusedVariables false
set_option linter.unusedSimpArgs false
set_option linter.unusedSectionVars false
set_option maxHeartbeats 16000000
namespace Go.Proofs.YtnafchoihfnkeaaGreatDoor
open Go.Proofs.Tryz
open Go.RowKit
open _root_.Array renaming mk.injEq -> Axh
open Int renaming emod_eq_of_lt -> A2n, lt_trichotomy -> Awd, mul_add -> A31, mul_neg -> A1h, natAbs_natCast -> Atv, natCast_add -> A22, natCast_mul -> Aws, neg_mul -> A0k, neg_neg -> A0l, toNat_natCast -> Avo
open Lib renaming hid -> As8
open List renaming append_nil -> Auu, cons.injEq -> Ave, drop -> A3e, drop_of_length_le -> Aue, drop_set -> A1x, drop_set_of_lt -> Ay5, drop_zero -> Aw4, eq_nil_of_length_eq_zero -> Auo, getD_eq_getElem?_getD -> As7, getElem?_eq_getElem -> As5, getElem?_eq_none -> Att, getElem?_take -> Avu, length_cons -> Auh, length_pos_iff -> Avq, length_take -> Atm, map_inj_left -> A2m, mem_cons -> At6, mem_cons_of_mem -> Auv, replicate -> As6, replicate_succ -> A0b, replicate_zero -> Av3, take -> A36, take_length -> At9, take_of_length_le -> Atp, take_zero -> Ayo
open Nat renaming add_assoc -> Avl, add_comm -> Az5, add_mul -> At2, add_sub_cancel -> Avv, add_zero -> Avb, beq -> Auy, div_add_mod -> Avf, div_eq_of_lt -> Aw1, div_lt_iff_lt_mul -> Au4, eq_of_beq_eq_true -> Aug, eq_zero_or_pos -> At5, gcd -> Auw, gcd_comm -> A01, le_antisymm -> Az3, le_div_iff_mul_le -> Awn, le_of_lt -> Az4, le_refl -> Atb, le_trans -> As9, lt_of_le_of_lt -> Aum, lt_of_lt_of_le -> Auf, lt_of_mul_lt_mul_left -> A0w, lt_of_mul_lt_mul_right -> Ayz, lt_or_ge -> At8, lt_trichotomy -> Axu, min_eq_left -> Av6, mod_eq_of_lt -> Axg, mod_lt -> Au3, mul_add -> Aui, mul_assoc -> Atz, mul_comm -> At7, mul_le_mul -> Aut, mul_le_mul_left -> Aul, mul_le_mul_right -> Ats, mul_lt_mul_of_pos_right -> A0o, mul_one -> Ayl, mul_pos -> Axa, mul_zero -> Avw, one_mul -> Avm, pow_add -> Aww, pow_le_pow_right -> Atq, pow_succ -> Auc, pow_zero -> A0z, strongRecOn -> Ay8, sub_self -> Avc, zero_add -> Aud, zero_le -> Atu
open Option renaming some.injEq -> Atd
open Rat renaming divInt -> Au0, divInt_eq_div -> Awf, divInt_ofNat -> Azx, div_def -> Azs, intCast_mul -> Av9, intCast_neg -> Ayf, mkRat_def -> A3g, mul_def' -> A3q, normalize_eq -> A2t, num_divInt_den -> Aza
open Value renaming agg.injEq -> Axc, bool.injEq -> Ax2, int -> Auj, ownBlock -> A3a, slice.injEq -> Atr
open World renaming drewN_drewN -> Azk
section
variable {B:List (Nat×Blk)}{T:List (Nat×SV)}
variable [Ca] [Df] [Pu]
def Agw (d:Nat):List (Nat×SV)->SV
 |[]=>.junk
 |(e,x)::l=>cond (Auy d e) x (Agw d l)
def Tm (d:Nat):List (Nat×Blk)->Option Blk
 |[]=>none
 |(e,x)::l=>cond (Auy d e) (some x) (Tm d l)
def S.of (n:Nat)(T:List (Nat×SV))(B:List (Nat×Blk)):S:={ n:=n,tm:=fun d=>Agw d T,hp:=fun k=>Tm k B }
def Ak8 (B:List (Nat×Blk)):SV->Bool
 |.p k _=>B.any fun q=>Auy q.1 k
 |_=>true
def Vg (T:List (Nat×SV))(B:List (Nat×Blk)):Bool:=T.all (fun p=>Ak8 B p.2)&&B.all (fun q=>q.2.cells.all (Ak8 B))
structure Cov (N:Nat)(s:S)(T:List (Nat×SV))(B:List (Nat×Blk)):Prop where
 n:s.n=N
 t:T.map (fun p=>s.tm p.1)=T.map (·.2)
 b:B.map (fun p=>s.hp p.1)=B.map (fun p=>some p.2)
theorem Qh {d:Nat}{x:SV}:∀ {T:List (Nat×SV)},Agw d T=x->x≠.junk->(d,x)∈T
 |[],h,hx=>absurd h.symm hx
 |(e,y)::l,h,hx=>by
  unfold Agw at h;cases hb:Auy d e with
  |true=>simp[hb]at h;have:=Aug hb;subst this;subst h;simp
  |false=>simp[hb]at h;exact Auv _ (Qh h hx)
theorem Mq {d:Nat}{x:Blk}:∀ {B:List (Nat×Blk)},Tm d B=some x->(d,x)∈B
 |[],h=>by cases h
 |(e,y)::l,h=>by
  unfold Tm at h;cases hb:Auy d e with
  |true=>simp[hb]at h;have:=Aug hb;subst this;subst h;simp
  |false=>simp[hb]at h;exact Auv _ (Mq h)
theorem Kr {k:Nat}:∀ {B:List (Nat×Blk)},B.any (fun q=>Auy q.1 k)=true->Tm k B≠none
 |[],h=>by simp at h
 |(e,y)::l,h=>by
  unfold Tm;cases hb:Auy k e with
  |true=>simp
  |false =>
   simp only[cond_false];refine Kr ?_;simp only[List.any_cons,Bool.or_eq_true]at h;rcases h with h|h
   ·have:=Aug h;subst this;simp at hb
   ·exact h
theorem Aol {n:Nat}(h:Vg T B=true):M2 (S.of n T B):=by
 unfold Vg at h;simp only[Bool.and_eq_true,List.all_eq_true]at h;refine⟨fun d k off hd=>?_,fun j b k off hj hm=>?_⟩
 ·have:=h.1 _ (Qh hd mV);exact Kr this
 ·have:=h.2 _ (Mq hj) _ hm;exact Kr this
theorem Rel.cov {c:Cx}{s:S}{u m:PH}{ρ:Nat->Nat}{a:Act}{w:World}(h:Rel c s u m ρ a w){N:Nat}(hc:Cov N s T B)(hl:Vg T B=true):Rel c (S.of N T B) u m ρ a w:=by
 have ht:∀ d x,(d,x)∈T->s.tm d=x:=by
  intro d x hm;have:=hc.t;rw[A2m]at this;exact this _ hm
 have hb:∀ d x,(d,x)∈B->s.hp d=some x:=by
  intro d x hm;have:=hc.b;rw[A2m]at this;exact this _ hm
 refine⟨h.sz.trans hc.n,fun d hd=>?_,h.df,fun k b hk=>h.box k b (hb k b (Mq hk)),fun k j hk hj=>?_,Aol hl,h.gd,h.gr⟩
 ·have:=ht d _ (Qh rfl hd);have h2:=h.tm d (by rw[this];exact hd);rw[this]at h2;exact h2
 ·have h1:∀ k,(S.of N T B).hp k≠none->s.hp k≠none:=by
   intro k hk;cases hq:Tm k B with
   |none=>exact absurd hq hk
   |some b=>rw[hb k b (Mq hq)];simp
  exact h.inj k j (h1 k hk) (h1 j hj)
def Aka (st:List KI×S):Bool:=match st.1 with|.code (.loop _)::_=>true|_=>false
def Alk (st:List KI×S)(J:S->PH->PH->Prop)(T:List (Nat×SV))(B:List (Nat×Blk)):List KI×S:=match st.1 with
 |.code (.loop c)::k=>(.code c::.lp J::k,S.of st.2.n T B)
 |_=>st
def Arb:List KI->Option (S->PH->PH->Prop)
 |.lp J::_=>some J
 |_=>none
section rules
variable {P:Program} [A7 P] {fn:Func} {Post:By} {st:List KI×S} {u m:PH}
theorem G.back {J:S->PH->PH->Prop}(h:Arb (adv P st).1=some J)(hj:J (adv P st).2 u m):G P fn Post st u m:=by
 refine G.stp ?_;generalize adv P st=st' at h hj;obtain⟨ks,s⟩:=st'
 match ks,h with
 |.lp J'::k,h =>
  simp only[Arb,Atd]at h;subst h;exact⟨fun c ρ a w hm0 hr=>⟨s,u,m,ρ,hr,hj⟩⟩
theorem G.loop {ι:Type}(T:ι->List (Nat×SV))(B:ι->List (Nat×Blk))(Inv:ι->PH->PH->Prop)(μ:ι->Nat)(i0:ι)(h:Aka (adv P st)=true)(hl:∀ i,Vg (T i) (B i)=true)(h0:Cov (adv P st).2.n (adv P st).2 (T i0) (B i0))(hI:Inv i0 u m)
 (hR:∀ (J:S->PH->PH->Prop) (i:ι),(∀ i' s' u' m',Cov (adv P st).2.n s' (T i') (B i')->PH.le u u'->Inv i' u' m'->μ i' < μ i->J s' u' m')->∀ u' m',PH.le u u'->Inv i u' m'->G P fn Post (Alk (adv P st) J (T i) (B i)) u' m'):G P fn Post st u m:=by
 refine G.stp ?_;generalize adv P st=st' at h h0 hR;obtain⟨ks,s⟩:=st'
 match ks,h with
 |.code (.loop x)::k,_ =>
  refine⟨?_⟩;intro c ρ a w hm0 hr;show (Code.loop x).wp P (Kk P fn Post c k) a w;refine wp_loop_ghost (fun n a w=>∃ i u' m' ρ',Rel c (S.of s.n (T i) (B i)) u' m' ρ' a w/\PH.le u u'/\Inv i u' m'/\μ i=n) (μ i0) ⟨i0,u,m,ρ,hr.cov h0 (hl i0),PH.le_refl _,hI,rfl⟩ ?_;rintro n a w ⟨i,u',m',ρ',h1,h2,h3,rfl⟩;have:=(hR (fun s' u' m'=>∃ i',Cov s.n s' (T i') (B i')/\PH.le u u'/\Inv i' u' m'/\μ i' < μ i) i (fun i' s' u' m' k1 k2 k3 k4=>⟨i',k1,k2,k3,k4⟩) u' m' h2 h3).out c ρ' a w hm0 h1;refine wp_mono this fun e a w hq=>?_;cases e with
  |normal =>
   obtain⟨s',u1,m1,ρ1,r1,i',k1,k2,k3,k4⟩:=hq;exact⟨_,k4,i',u1,m1,ρ1,r1.cov k1 (hl i'),k2,k3,rfl⟩
  |_=>exact hq
end rules
end
section
variable [Ca] [Pu] [Df]
variable {P:Program} [A7 P] {fn:Func} {Post:By} {st:List KI×S} {u m:PH}
theorem cV {N:Nat}{s:S}{T:List (Nat×SV)}{B:List (Nat×Blk)}(a:s.n=N:=by kernel_rfl)(b:T.map (fun p=>s.tm p.1)=T.map (·.2):=by kernel_rfl)(c:B.map (fun p=>s.hp p.1)=B.map (fun p=>some p.2):=by kernel_rfl):Cov N s T B:=⟨a,b,c⟩
theorem G.c {f:Nat}{args:List Value}{R:Value->PH->Prop}(hc:∀ args w,(callFunc f args).run P w=.ok (.enter f args) w)(c:Fn0 P f args u R)(k:∀ v u',PH.le u u'->R v u'->G P fn Post (nx (adv P st) v) u' m)(h:Al P (adv P st)=.call f args:=by kernel_rfl):G P fn Post st u m:=G.call0 f args h hc c k
theorem G.eT (x y:Int)(k:G P fn Post (nx (adv P st) (.bool true)) u m)(h:Al P (adv P st)=.bin .eql (.int .i64 x) (.int .i64 y):=by kernel_rfl)(hb:x=y:=by omega):G P fn Post st u m:=G.eqlT x y h hb k
theorem G.eF (x y:Int)(k:G P fn Post (nx (adv P st) (.bool false)) u m)(h:Al P (adv P st)=.bin .eql (.int .i64 x) (.int .i64 y):=by kernel_rfl)(hb:¬ (x=y):=by omega):G P fn Post st u m:=G.eqlF x y h hb k
theorem G.nT (x y:Int)(k:G P fn Post (nx (adv P st) (.bool true)) u m)(h:Al P (adv P st)=.bin .neq (.int .i64 x) (.int .i64 y):=by kernel_rfl)(hb:x≠y:=by omega):G P fn Post st u m:=G.neqT x y h hb k
theorem G.nF (x y:Int)(k:G P fn Post (nx (adv P st) (.bool false)) u m)(h:Al P (adv P st)=.bin .neq (.int .i64 x) (.int .i64 y):=by kernel_rfl)(hb:¬ (x≠y):=by omega):G P fn Post st u m:=G.neqF x y h hb k
theorem G.lT (x y:Int)(k:G P fn Post (nx (adv P st) (.bool true)) u m)(h:Al P (adv P st)=.bin .lss (.int .i64 x) (.int .i64 y):=by kernel_rfl)(hb:x<y:=by omega):G P fn Post st u m:=G.lssT x y h hb k
theorem G.lF (x y:Int)(k:G P fn Post (nx (adv P st) (.bool false)) u m)(h:Al P (adv P st)=.bin .lss (.int .i64 x) (.int .i64 y):=by kernel_rfl)(hb:¬ (x<y):=by omega):G P fn Post st u m:=G.lssF x y h hb k
theorem G.kT (x y:Int)(k:G P fn Post (nx (adv P st) (.bool true)) u m)(h:Al P (adv P st)=.bin .leq (.int .i64 x) (.int .i64 y):=by kernel_rfl)(hb:x<=y:=by omega):G P fn Post st u m:=G.leqT x y h hb k
theorem G.kF (x y:Int)(k:G P fn Post (nx (adv P st) (.bool false)) u m)(h:Al P (adv P st)=.bin .leq (.int .i64 x) (.int .i64 y):=by kernel_rfl)(hb:¬ (x<=y):=by omega):G P fn Post st u m:=G.leqF x y h hb k
theorem G.gT (x y:Int)(k:G P fn Post (nx (adv P st) (.bool true)) u m)(h:Al P (adv P st)=.bin .gtr (.int .i64 x) (.int .i64 y):=by kernel_rfl)(hb:x>y:=by omega):G P fn Post st u m:=G.gtrT x y h hb k
theorem G.gF (x y:Int)(k:G P fn Post (nx (adv P st) (.bool false)) u m)(h:Al P (adv P st)=.bin .gtr (.int .i64 x) (.int .i64 y):=by kernel_rfl)(hb:¬ (x>y):=by omega):G P fn Post st u m:=G.gtrF x y h hb k
theorem G.hT (x y:Int)(k:G P fn Post (nx (adv P st) (.bool true)) u m)(h:Al P (adv P st)=.bin .geq (.int .i64 x) (.int .i64 y):=by kernel_rfl)(hb:x≥y:=by omega):G P fn Post st u m:=G.geqT x y h hb k
theorem G.hF (x y:Int)(k:G P fn Post (nx (adv P st) (.bool false)) u m)(h:Al P (adv P st)=.bin .geq (.int .i64 x) (.int .i64 y):=by kernel_rfl)(hb:¬ (x≥y):=by omega):G P fn Post st u m:=G.geqF x y h hb k
theorem G.eT' (x y:Int)(hb:x=y)(k:G P fn Post (nx (adv P st) (.bool true)) u m)(h:Al P (adv P st)=.bin .eql (.int .i64 x) (.int .i64 y):=by kernel_rfl):G P fn Post st u m:=G.eqlT x y h hb k
theorem G.eF' (x y:Int)(hb:¬ (x=y))(k:G P fn Post (nx (adv P st) (.bool false)) u m)(h:Al P (adv P st)=.bin .eql (.int .i64 x) (.int .i64 y):=by kernel_rfl):G P fn Post st u m:=G.eqlF x y h hb k
theorem G.nT' (x y:Int)(hb:x≠y)(k:G P fn Post (nx (adv P st) (.bool true)) u m)(h:Al P (adv P st)=.bin .neq (.int .i64 x) (.int .i64 y):=by kernel_rfl):G P fn Post st u m:=G.neqT x y h hb k
theorem G.nF' (x y:Int)(hb:¬ (x≠y))(k:G P fn Post (nx (adv P st) (.bool false)) u m)(h:Al P (adv P st)=.bin .neq (.int .i64 x) (.int .i64 y):=by kernel_rfl):G P fn Post st u m:=G.neqF x y h hb k
theorem G.lT' (x y:Int)(hb:x<y)(k:G P fn Post (nx (adv P st) (.bool true)) u m)(h:Al P (adv P st)=.bin .lss (.int .i64 x) (.int .i64 y):=by kernel_rfl):G P fn Post st u m:=G.lssT x y h hb k
theorem G.lF' (x y:Int)(hb:¬ (x<y))(k:G P fn Post (nx (adv P st) (.bool false)) u m)(h:Al P (adv P st)=.bin .lss (.int .i64 x) (.int .i64 y):=by kernel_rfl):G P fn Post st u m:=G.lssF x y h hb k
theorem G.kT' (x y:Int)(hb:x<=y)(k:G P fn Post (nx (adv P st) (.bool true)) u m)(h:Al P (adv P st)=.bin .leq (.int .i64 x) (.int .i64 y):=by kernel_rfl):G P fn Post st u m:=G.leqT x y h hb k
theorem G.kF' (x y:Int)(hb:¬ (x<=y))(k:G P fn Post (nx (adv P st) (.bool false)) u m)(h:Al P (adv P st)=.bin .leq (.int .i64 x) (.int .i64 y):=by kernel_rfl):G P fn Post st u m:=G.leqF x y h hb k
theorem G.gT' (x y:Int)(hb:x>y)(k:G P fn Post (nx (adv P st) (.bool true)) u m)(h:Al P (adv P st)=.bin .gtr (.int .i64 x) (.int .i64 y):=by kernel_rfl):G P fn Post st u m:=G.gtrT x y h hb k
theorem G.gF' (x y:Int)(hb:¬ (x>y))(k:G P fn Post (nx (adv P st) (.bool false)) u m)(h:Al P (adv P st)=.bin .gtr (.int .i64 x) (.int .i64 y):=by kernel_rfl):G P fn Post st u m:=G.gtrF x y h hb k
theorem G.hT' (x y:Int)(hb:x≥y)(k:G P fn Post (nx (adv P st) (.bool true)) u m)(h:Al P (adv P st)=.bin .geq (.int .i64 x) (.int .i64 y):=by kernel_rfl):G P fn Post st u m:=G.geqT x y h hb k
theorem G.hF' (x y:Int)(hb:¬ (x≥y))(k:G P fn Post (nx (adv P st) (.bool false)) u m)(h:Al P (adv P st)=.bin .geq (.int .i64 x) (.int .i64 y):=by kernel_rfl):G P fn Post st u m:=G.geqF x y h hb k
theorem G.i (i:Nat)(k:G P fn Post (nx (adv P st) (.int .i64 ((i+1:Nat):Int))) u m)(h:Al P (adv P st)=.bin .add (.int .i64 (i:Int)) (.int .i64 1):=by kernel_rfl)(h2:((i+1:Nat):Int)<=9223372036854775807:=by omega):G P fn Post st u m:=G.add (i:Int) 1 ((i+1:Nat):Int) h (by omega) (by omega) h2 k
theorem G.p (x y z:Int)(k:G P fn Post (nx (adv P st) (.int .i64 z)) u m)(h:Al P (adv P st)=.bin .add (.int .i64 x) (.int .i64 y):=by kernel_rfl)(hz:x+y=z:=by omega)(h1:-9223372036854775808<=z:=by omega)(h2:z<=9223372036854775807:=by omega):G P fn Post st u m:=G.add x y z h hz h1 h2 k
theorem G.s (x y z:Int)(k:G P fn Post (nx (adv P st) (.int .i64 z)) u m)(h:Al P (adv P st)=.bin .sub (.int .i64 x) (.int .i64 y):=by kernel_rfl)(hz:x-y=z:=by omega)(h1:-9223372036854775808<=z:=by omega)(h2:z<=9223372036854775807:=by omega):G P fn Post st u m:=G.sub x y z h hz h1 h2 k
theorem G.b {J:S->PH->PH->Prop}(hj:J (adv P st).2 u m)(h:Arb (adv P st).1=some J:=by kernel_rfl):G P fn Post st u m:=G.back h hj
theorem G.l {ι:Type}(T:ι->List (Nat×SV))(B:ι->List (Nat×Blk))(Inv:ι->PH->PH->Prop)(μ:ι->Nat)(i0:ι)(hI:Inv i0 u m)
    (hR:∀ (J:S->PH->PH->Prop) (i:ι),(∀ i' s' u' m',Cov (adv P st).2.n s' (T i') (B i')->PH.le u u'->Inv i' u' m'->μ i' < μ i->J s' u' m')->∀ u' m',PH.le u u'->Inv i u' m'->G P fn Post (Alk (adv P st) J (T i) (B i)) u' m') (h:Aka (adv P st)=true:=by kernel_rfl) (hl:∀ i,Vg (T i) (B i)=true:=by exact fun _=>by kernel_rfl) (h0:Cov (adv P st).2.n (adv P st).2 (T i0) (B i0):=by exact cV):G P fn Post st u m:=G.loop T B Inv μ i0 h hl h0 hI hR
end
section
variable [Ca] [Pu]
variable {P:Program} [A7 P] {fn:Func} {Post:By} {st:List KI×S} {u m:PH}
theorem G.r (v:Value)(hp:Post.post v u m)(h:Ap7 P fn (adv P st)=some v:=by kernel_rfl):G P fn Post st u m:=G.ret v h hp
theorem Fn0.o {R:Value->PH->Prop}{f:FuncId}{args:List Value}(hf:P.funcs[f]?=some fn)(h:G P fn ⟨fun v u' m'=>m'=PH.mt/\R v u',PH.mt⟩ (st0 fn args) u PH.mt)(hb:fn.body.isSome=true:=by kernel_rfl)(hn:Nat.ble args.length fn.ntmps=true:=by kernel_rfl):Fn0 P f args u R:=Fn0.of hf hb hn h
theorem Ak.o {PostV:Value->PH->PH->Prop}{f:FuncId}{args:List Value}(hf:P.funcs[f]?=some fn)(h:G P fn ⟨PostV,m⟩ (st0 fn args) u m)(hb:fn.body.isSome=true:=by kernel_rfl)(hn:Nat.ble args.length fn.ntmps=true:=by kernel_rfl):Ak P f args u m PostV:=Ak.of hf hb hn h
end
section
variable {l:List Nat}{n:Nat}
def val:List Nat->Nat
 |[]=>0
 |d::l=>d+1000000000*val l
def Low (l:List Nat):Prop:=∀ d,d∈l->d<1000000000
def Aa (n:Nat):List Nat:=if h:n=0 then [] else n%1000000000::Aa (n/1000000000)
termination_by n
decreasing_by omega
def nl (n:Nat):Nat:=(Aa n).length
theorem Bb:Aa 0 = []:=by unfold Aa;simp
theorem Fg (h:n≠0):Aa n=n%1000000000::Aa (n/1000000000):=by
 rw[Aa];simp[h]
theorem Ai (n:Nat):val (Aa n)=n:=by
 induction n using Ay8 with
 |_ n ih =>
  by_cases h:n=0
  ·subst h;simp[Bb,val]
  ·rw[Fg h];simp only[val];rw[ih _ oV];omega
theorem Am (n:Nat):Low (Aa n):=by
 induction n using Ay8 with
 |_ n ih =>
  by_cases h:n=0
  ·subst h;simp[Bb,Low]
  ·rw[Fg h];intro d hd;rcases At6.1 hd with rfl|hd
   ·omega
   ·exact ih _ oV d hd
theorem Fx :Aa n = []↔n=0:=by
 constructor
 ·intro h;have:=Ai n;rw[h]at this;simp[val]at this;omega
 ·rintro rfl;exact Bb
theorem Oc (l m:List Nat):val (l++m)=val l+1000000000^l.length*val m:=by
 induction l with
 |nil=>simp[val]
 |cons d l ih =>
  simp only[List.cons_append,val,ih,Auh,Auc];rw[Aui,<-Atz,At7 1000000000 (1000000000^l.length),Avl]
theorem H8 (l:List Nat)(d:Nat):val (l++[d])=val l+1000000000^l.length*d:=by
 rw[Oc];simp[val]
theorem Low.nil:Low []:=by simp[Low]
theorem Low.cons {d:Nat}(h:d<1000000000)(hl:Low l):Low (d::l):=by
 intro x hx;rcases At6.1 hx with rfl|hx
 ·exact h
 ·exact hl x hx
theorem Low.append {l m:List Nat}(h:Low l)(k:Low m):Low (l++m):=by
 intro x hx;rcases List.mem_append.1 hx with hx|hx
 ·exact h x hx
 ·exact k x hx
theorem Low.take (h:Low l)(k:Nat):Low (l.take k):=fun x hx=>h x (List.mem_of_mem_take hx)
theorem Low.drop (h:Low l)(k:Nat):Low (l.drop k):=fun x hx=>h x (List.mem_of_mem_drop hx)
theorem Low.zeros (k:Nat):Low (As6 k 0):=by intro x hx;have:=List.eq_of_mem_replicate hx;omega
theorem Low.getD (h:Low l)(k:Nat):l.getD k 0<1000000000:=by
 by_cases hk:k<l.length
 ·rw[As7,As5 hk];exact h _ (List.getElem_mem hk)
 ·rw[As7,Att oV];simp
theorem I8 (h:Low l):val l<1000000000^l.length:=by
 induction l with
 |nil=>simp[val]
 |cons d l ih =>
  have h1:=h d mV;have h2:=ih (fun x hx=>h x (by simp[hx]));simp only[val,Auh,Auc];have:val l+1<=1000000000^l.length:=h2;have:=Aul 1000000000 this;rw[At7 (1000000000^l.length)];omega
theorem W4 (k:Nat):val (As6 k 0)=0:=by
 induction k with
 |zero=>rfl
 |succ k ih=>simp[A0b,val,ih]
theorem Av (l:List Nat)(k:Nat):val (l.take (k+1))=val (l.take k)+1000000000^k*l.getD k 0:=by
 by_cases hk:k<l.length
 ·rw[List.take_succ_eq_append_getElem hk,H8,Atm,Av6 oV];simp[hk]
 ·rw[Atp oV,Atp oV];have:l[k]?=none:=Att oV;simp[this]
def Bl (l:List Nat):Nat->Nat
 |0=>0
 |n+1=>if l.getD n 0=0 then Bl l n else n+1
theorem Jl (l:List Nat)(n:Nat):Bl l n<=n:=by
 induction n with
 |zero=>simp[Bl]
 |succ n ih=>simp only[Bl];split<;>omega
theorem Nc (h:n≠0):(Aa n).getD ((Aa n).length-1) 0≠0:=by
 induction n using Ay8 with
 |_ n ih =>
  rw[Fg h];by_cases hd:n/1000000000=0
  ·rw[hd,Bb];simp;omega
  ·have h1:=ih _ oV hd;have h2:(Aa (n/1000000000)).length≠0:=by
    intro e;exact hd (Fx.1 (Auo e))
   simp only[Auh,Avv];obtain⟨m,hm⟩:∃ m,(Aa (n/1000000000)).length=m+1:=⟨_,(Nat.succ_pred_eq_of_ne_zero h2).symm⟩;rw[hm]at h1⊢;simpa using h1
theorem Ais (h:Low l)(hz:l≠[]->l.getD (l.length-1) 0≠0):Aa (val l)=l:=by
 induction l with
 |nil=>simp[val,Bb]
 |cons d l ih =>
  have h1:=h d mV;have hl:Low l:=fun x hx=>h x (by simp[hx]);have hz':l≠[]->l.getD (l.length-1) 0≠0:=by
   intro hne;have:=hz mV;obtain⟨m,hm⟩:∃ m,l.length=m+1:=⟨l.length-1,by have:=Avq.2 hne;omega⟩;simp only[Auh,Avv,hm]at this⊢;simpa using this
  have hne:val (d::l)≠0:=by
   by_cases hnil:l = []
   ·subst hnil;have:=hz mV;simp at this;simp[val];omega
   ·intro e;have e1:=ih hl hz';simp only[val]at e;have:val l=0:=oV
    rw[this,Bb]at e1;exact hnil e1.symm
  rw[Fg hne];simp only[val];rw[show (d+1000000000*val l)%1000000000=d by omega,show (d+1000000000*val l)/1000000000=val l by omega,ih hl hz']
theorem Ro (l:List Nat)(n:Nat):val (l.take (Bl l n))=val (l.take n):=by
 induction n with
 |zero=>simp[Bl]
 |succ n ih =>
  simp only[Bl];split
  ·rename_i h;rw[ih,Av,h];simp
  ·rfl
theorem Q1 (l:List Nat)(n:Nat)(h:Bl l n≠0):l.getD (Bl l n-1) 0≠0:=by
 induction n with
 |zero=>simp[Bl]at h
 |succ n ih =>
  simp only[Bl]at h⊢;split
  ·rename_i h0;rw[if_pos h0]at h;exact ih h
  ·rename_i h0;simpa using h0
theorem H6 (h:Low l):Aa (val l)=l.take (Bl l l.length):=by
 have e:val l=val (l.take (Bl l l.length)):=by rw[Ro,At9]
 rw[e];refine Ais (h.take _) (fun hne=>?_);have hle:=Jl l l.length;have h0:Bl l l.length≠0:=by intro e0;rw[e0]at hne;simp at hne
 have:=Q1 l l.length h0;rw[Atm,Av6 hle];rw[As7,Avu,if_pos oV,<-As7];exact this
theorem Rw:nl 0=0:=by simp[nl,Bb]
theorem Ck (n:Nat):n<1000000000^nl n:=by
 have:=I8 (Am n);rwa[Ai]at this
theorem A0 {n k : Nat} (h : n < 1000000000 ^ k) : nl n ≤ k := by
  induction k generalizing n with
  | zero => have : n = 0 := by simp at h; omega
            subst this; simp [Rw]
  | succ k ih =>
    by_cases h0 : n = 0
    · subst h0; simp [Rw]
    · have : n / 1000000000 < 1000000000 ^ k := by
        rw [Au4 oV]; rwa [Auc] at h
      have := ih this
      simp only [nl] at this ⊢
      rw [Fg h0]; simp; omega
theorem Ct {m n:Nat}(h:m<=n):nl m<=nl n:=A0 (Aum h (Ck n))
theorem Oz (h:n≠0):1000000000^(nl n-1)<=n:=by
 rcases At8 n (1000000000^(nl n-1)) with h1|h1
 ·have:=A0 h1;have h2:nl n≠0:=by
   intro e;exact h (Fx.1 (Auo e))
  omega
 ·exact h1
theorem Ajn (m n:Nat):nl (m+n)<=max (nl m) (nl n)+1:=by
 refine A0 ?_;have h1:=Ck m;have h2:=Ck n;have h3:1000000000^nl m<=1000000000^max (nl m) (nl n):=Atq oV oV;have h4:1000000000^nl n<=1000000000^max (nl m) (nl n):=Atq oV oV;rw[Auc];omega
theorem Fu (m n:Nat):nl (m*n)<=nl m+nl n:=by
 refine A0 ?_;rw[Aww];exact Nat.mul_lt_mul'' (Ck m) (Ck n)
end
section
variable {a:Option Addr}{cs:List Value}{w:World}
def Ext (w w':World):Prop:=Below w.heap.size w w'
theorem Ext.refl (w:World):Ext w w:=Below.refl _ _
theorem Ext.trans {a b c:World}(h:Ext a b)(k:Ext b c):Ext a c:=Below.trans h (Below.mono k h.size)
theorem Ext.alloc {a w:World}(h:Ext a w)(o:Obj):Ext a (w.alloc o):=Below.alloc h h.size o
theorem Ext.drew {a w:World}(h:Ext a w):Ext a w.drew:=Below.drew h
theorem Ext.cell {w w':World}(h:Ext w w'){p:Addr}{v:Value}(hp:w.cell? p=some v):w'.cell? p=some v:=by
 rw[Below.cell h (block_lt_of_cell hp)];exact hp
theorem Ext.size {w w':World}(h:Ext w w'):w.heap.size<=w'.heap.size:=Below.size h
theorem Ext.setCell {a w:World}(h:Ext a w){p:Addr}(hp:a.heap.size<=p.block)(u:Value):Ext a (w.setCell p u):=Below.setCell h hp u
theorem Ext.grown {a w w':World}{row:Option Nat}(h:Ext a w)(hg:w.grownBy w' row)(hr:∀ k,row=some k->a.heap.size<=k):Ext a w' :=
 Below.grown h hg h.size hr
def Row (w:World)(a:Option Addr)(cs:List Value):Prop :=
 ∀ j,j<cs.length->∃ b off,a=some ⟨b,off,none⟩/\w.cell? ⟨b,off+j,none⟩=some (cs.getD j (.bool false))
theorem Row.ext {w w':World}(h:Row w a cs)(x:Ext w w'):Row w' a cs:=by
 intro j hj;obtain⟨b,off,h1,h2⟩:=h j hj;exact⟨b,off,h1,x.cell h2⟩
theorem Row.nil (w:World)(a:Option Addr):Row w a []:=fun j hj=>absurd hj mV
theorem Row.take (h:Row w a cs)(k:Nat):Row w a (cs.take k):=by
 intro j hj;rw[Atm]at hj;obtain⟨b,off,h1,h2⟩:=h j oV;refine⟨b,off,h1,?_⟩;rw[h2,As7,As7,Avu,if_pos oV]
theorem Row.of_owns {w:World}{base:Nat}{e:TypeId}{size:Nat}{g n cap:Nat}{xs:List Value}
 (h:w.ownsRow base e size (.slice (some ⟨g,0,none⟩) n cap) n xs):Row w (some ⟨g,0,none⟩) xs:=by
 intro j hj;refine⟨g,0,rfl,?_⟩;rw[h.1]at hj;have:=h.cellAt j hj;rw[Aud,this,As7];have hj':j<xs.length:=by rw[h.1];exact hj
 rw[As5 hj'];rfl
def Ay (l:List Nat):List Value:=l.map fun (n:Nat)=>Auj .u64 (n:Int)
@[simp] theorem Q2 (l:List Nat):(Ay l).length=l.length:=by simp[Ay]
theorem Row.at {l:List Nat}(h:Row w a (Ay l)){j:Nat}(hj:j<l.length) :
 ∃ b off,a=some ⟨b,off,none⟩/\w.cell? ⟨b,off+j,none⟩=some (.int .u64 (l.getD j 0:Nat)):=by
 obtain⟨b,off,h1,h2⟩:=h j (by simpa[Ay] using hj);exact⟨b,off,h1,by rw[h2];simp[Ay,hj]⟩
theorem U3 (l:List Nat)(j n:Nat):(Ay l).set j (.int .u64 (n:Int))=Ay (l.set j n):=by simp[Ay,List.map_set]
theorem V2 (l:List Nat)(k:Nat):(Ay l).take k=Ay (l.take k):=by simp[Ay,List.map_take]
theorem Acv (n:Nat):As6 n (Auj .u64 0)=Ay (As6 n 0):=by simp[Ay]
def Tg (w:World)(v:Value)(l:List Nat):Prop:=∃ a cap,v=.slice a l.length cap/\l.length<=cap/\Row w a (Ay l)
def Ci (w:World)(v:Value)(n:Nat):Prop:=Tg w v (Aa n)
theorem Tg.ext {w w':World}{v:Value}{l:List Nat}(h:Tg w v l)(x:Ext w w'):Tg w' v l:=by
 obtain⟨a,cap,h1,h2,h3⟩:=h;exact⟨a,cap,h1,h2,h3.ext x⟩
theorem Ci.ext {w w':World}{v:Value}{n:Nat}(h:Ci w v n)(x:Ext w w'):Ci w' v n:=Tg.ext h x
theorem Ci.zero (w:World)(a:Option Addr)(cap:Nat):Ci w (.slice a 0 cap) 0:=by
 refine⟨a,cap,by rw[Bb];rfl,by rw[Bb];simp,?_⟩;rw[Bb];simp[Ay];exact Row.nil _ _
end
theorem Xd {a:Option Addr}{m n c:Nat}(h:m=n):Ending.returned (.slice a m c)=.returned (.slice a n c):=by rw[h]
theorem Anr {k:IntKind}{a b:Int}(h:a=b):Ending.returned (.int k a)=.returned (.int k b):=by rw[h]
theorem Ak1 (a:Option Addr)(cap:Nat)(l:List Nat)(w:World)(hlen:l.length<=9223372036854775807)(hcap:l.length<=cap)
 (hc:Row w a (Ay l)) :
 Calls prog 172 #[.slice a l.length cap] w fun e w'=>e=.returned (.slice a (Bl l l.length) cap)/\w=w':=by
 have HC:=As8 hc;clear hc
 go_enter func172,ntmps172
 go_wp2
 go_loop [3] (fun n=>∃ k:Nat,k<=l.length/\n=.int .i64 k/\Bl l l.length=Bl l k) (fun n=>(intOf n).toNat)
 case atStart=>exact⟨l.length,oV,rfl,rfl⟩
 case round =>
  obtain⟨k,hk,rfl,ht⟩:=hrel;have HT:=As8 ht;clear ht;rcases k with _|k
  ·go_wp2
   go_ret
   exact⟨Xd (by rw[HT.out];rfl),rfl⟩
  ·obtain⟨b,off,rfl,h1⟩:=HC.out.at (j:=k) oV;obtain⟨x,hx⟩:∃ x,x=l.getD k 0:=⟨_,rfl⟩;rw[<-hx]at h1;have HX:=As8 hx;clear hx;by_cases h0:x=0
   ·subst h0
    go_wp2
    go_round
    case rel=>exact⟨k,oV,rfl,by rw[HT.out];simp only[Bl,<-HX.out,if_true]⟩
    case measure=>simp[intOf]
   ·have h2:((x:Int)==0)=false:=gV
    go_wp2
    go_ret
    exact⟨Xd (by rw[HT.out];simp only[Bl,<-HX.out,if_neg h0]),rfl⟩
theorem Uu (a:Option Addr)(cap:Nat)(l:List Nat)(i:Int)(w:World)(hlen:l.length<=9223372036854775807)(hi:0<=i)
 (hc:Row w a (Ay l)) :
 Calls prog 221 #[.slice a l.length cap,.int .i64 i] w fun e w'=>e=.returned (.int .u64 (l.getD i.toNat 0:Nat))/\w=w':=by
 obtain⟨k,rfl⟩:=Int.eq_ofNat_of_zero_le hi;rw[Avo];have HC:=As8 hc;clear hc;by_cases hk:k<l.length
 ·obtain⟨b,off,rfl,h1⟩:=HC.out.at (j:=k) hk;obtain⟨x,hx⟩:∃ x,x=l.getD k 0:=⟨_,rfl⟩;rw[<-hx]at h1⊢;clear HC hx
  go_enter func221,ntmps221
  go_wp2
  go_ret
  exact⟨rfl,rfl⟩
 ·have h1:l.getD k 0=0:=by
   have:l[k]?=none:=Att oV;simp[this]
  rw[h1];clear HC h1
  go_enter func221,ntmps221
  go_wp2
  go_ret
  exact⟨rfl,rfl⟩
def sgn (n:Int):Int:=if n<0 then -1 else if 0<n then 1 else 0
theorem Amr (n:Int)(w:World) :
 Calls prog 222 #[.int .i64 n] w fun e w'=>e=.returned (.int .i64 (sgn n))/\w=w':=by
 rcases Awd n 0 with h|h|h
 ·have h1:sgn n = -1:=by simp[sgn,h]
  rw[h1];clear h1
  go_enter func222,ntmps222
  go_wp2
  go_ret
  exact⟨rfl,rfl⟩
 ·subst h
  go_enter func222,ntmps222
  go_wp2
  go_ret
  exact⟨rfl,rfl⟩
 ·have h1:sgn n=1:=by simp[sgn,h];omega
  rw[h1];clear h1;have h2:¬ n<0:=oV
  go_enter func222,ntmps222
  go_wp2
  go_ret
  exact⟨rfl,rfl⟩
theorem F5 (a:Option Addr)(cap n:Nat)(l:List Nat)(w:World)(hn:l.length=n)(hlen:n<=9223372036854775807)(hcap:n<=cap)
 (hc:Row w a (Ay l)) :
 Calls prog 172 #[.slice a n cap] w fun e w'=>e=.returned (.slice a (Bl l l.length) cap)/\w=w':=by
 subst hn;exact Ak1 a cap l w hlen hcap hc
section
variable {a b o ys:List Nat}{c d i k r x y:Nat}
theorem Ha (p t:Nat):p*(t%1000000000)+p*1000000000*(t/1000000000)=p*t:=by
 rw[Atz,<-Aui,Nat.mod_add_div]
structure Js (a b:List Nat)(k:Nat)(ys:List Nat)(c:Nat):Prop where
 len:ys.length=k
 low:Low ys
 carry:c<=1
 sum:val ys+1000000000^k*c=val (a.take k)+val (b.take k)
theorem Js.start (a b:List Nat):Js a b 0 [] 0:=⟨rfl,Low.nil,oV,by simp[val]⟩
theorem Js.step (h:Js a b k ys c)(ha:Low a)(hb:Low b)(hx:x=a.getD k 0)(hy:y=b.getD k 0) :
 Js a b (k+1) (ys++[(x+y+c)%1000000000]) ((x+y+c)/1000000000):=by
 have h1:=ha.getD k;have h2:=hb.getD k;have h3:=h.carry;rw[<-hx]at h1;rw[<-hy]at h2;refine⟨by simp[h.len],h.low.append (Low.cons oV Low.nil),oV,?_⟩;rw[H8,Av,Av,h.len,<-hx,<-hy,Auc,Avl,Ha];have:=h.sum;rw[Aui,Aui];omega
theorem Js.done (h:Js a b (max a.length b.length+1) ys c)(ha:Low a)(hb:Low b):val ys=val a+val b:=by
 have hs:=h.sum;rw[Atp oV,Atp oV]at hs;have h1:=I8 ha;have h2:=I8 hb;have h3:1000000000^a.length<=1000000000^max a.length b.length:=Atq oV oV;have h4:1000000000^b.length<=1000000000^max a.length b.length:=Atq oV oV;rw[Auc]at hs;have h5:=Auf h1 h3;have h6:=Auf h2 h4;have hc:=h.carry;clear h1 h2 h3 h4 h;generalize 1000000000^max a.length b.length=p at *
 rcases At5 c with h0|h0
 ·subst h0;rw[Avw,Avb]at hs;exact hs
 ·have h1:c=1:=Az3 hc h0;subst h1;rw[Ayl]at hs;omega
structure Ke (a b:List Nat)(k:Nat)(ys:List Nat)(c:Nat):Prop where
 len:ys.length=k
 low:Low ys
 carry:c<=1
 sum:val ys+val (b.take k)=val (a.take k)+1000000000^k*c
theorem Ke.start (a b:List Nat):Ke a b 0 [] 0:=⟨rfl,Low.nil,oV,by simp[val]⟩
theorem Ke.step (h:Ke a b k ys c)(ha:Low a)(hb:Low b)(hx:x=a.getD k 0)(hy:y=b.getD k 0) :
 Ke a b (k+1) (ys++[(x+1000000000-y-c)%1000000000]) (1-(x+1000000000-y-c)/1000000000):=by
 have h1:=ha.getD k;have h2:=hb.getD k;have h3:=h.carry;rw[<-hx]at h1;rw[<-hy]at h2;refine⟨by simp[h.len],h.low.append (Low.cons oV Low.nil),oV,?_⟩;rw[H8,Av,Av,h.len,<-hx,<-hy,Auc];have hs:=h.sum;generalize 1000000000^k=p at *
 obtain⟨t,ht⟩:∃ t,t=x+1000000000-y-c:=⟨_,rfl⟩;rw[<-ht];have e1:t%1000000000+y+c=x+1000000000*(1-t/1000000000):=oV
 have e2:p*(t%1000000000)+p*y+p*c=p*x+p*1000000000*(1-t/1000000000):=by
  rw[Atz,<-Aui,<-Aui,<-Aui,e1]
 omega
theorem Ke.done (h:Ke a b a.length ys c)(hb:b.length<=a.length)(hle:val b<=val a):val ys=val a-val b:=by
 have hs:=h.sum;rw[Atp (Atb _),Atp hb]at hs;have h1:=I8 h.low;rw[h.len]at h1;rcases At5 c with h0|h0
 ·subst h0;simp at hs;omega
 ·have:1000000000^a.length*1<=1000000000^a.length*c:=Aul _ h0;omega
theorem Fj (l:List Nat)(k:Nat)(hk:k<=l.length):val l=val (l.take k)+1000000000^k*val (l.drop k):=by
 have:=Oc (l.take k) (l.drop k);rw[List.take_append_drop,Atm,Av6 hk]at this;exact this
theorem B5 (l:List Nat)(k:Nat)(hk:k<l.length):l.drop k=l.getD k 0::l.drop (k+1):=by
 rw[List.drop_eq_getElem_cons hk];simp[hk]
theorem F0 {a b:List Nat}{k:Nat}(hl:a.length=b.length)(hk:k<a.length)(ha:Low a)(hd:a.drop (k+1)=b.drop (k+1))
 (h:a.getD k 0<b.getD k 0):val a<val b:=by
 rw[Fj a k oV,Fj b k oV,B5 a k hk,B5 b k oV,hd];simp only[val];have h1:=I8 (ha.take k);rw[Atm,Av6 oV]at h1;generalize 1000000000^k=p at *
 generalize val (A3e (k+1) b)=q;have:p*(a.getD k 0+1+1000000000*q)<=p*(b.getD k 0+1000000000*q):=Aul _ oV;have e:p*(a.getD k 0+1+1000000000*q)=p*(a.getD k 0+1000000000*q)+p:=by
  rw[show a.getD k 0+1+1000000000*q=(a.getD k 0+1000000000*q)+1 by omega,Aui,Ayl]
 omega
theorem I5 {m n:Nat}(h:nl m<nl n):m<n:=by
 rcases At8 m n with h1|h1
 ·exact h1
 ·have:=Ct h1;omega
structure Fo (a b:List Nat)(i k:Nat)(o:List Nat)(c:Nat):Prop where
 len:o.length=a.length+b.length
 low:Low o
 carry:c<1000000000
 sum:val o+1000000000^(i+k)*c=val (a.take i)*val b+1000000000^i*(a.getD i 0*val (b.take k))
 high:∀ j,i+b.length<=j->o.getD j 0=0
theorem Agp (l:List Nat)(j d:Nat)(hj:j<l.length):val (l.set j d)+1000000000^j*l.getD j 0=val l+1000000000^j*d:=by
 induction l generalizing j with
 |nil=>simp at hj
 |cons x l ih =>
  cases j with
  |zero=>simp[val];omega
  |succ j =>
   have:=ih j (by simpa using hj);simp only[List.set_cons_succ,val,List.getD_cons_succ,Auc];have e1:1000000000^j*1000000000*l.getD j 0=1000000000*(1000000000^j*l.getD j 0):=by rw[At7 (1000000000^j),Atz]
   have e2:1000000000^j*1000000000*d=1000000000*(1000000000^j*d):=by rw[At7 (1000000000^j),Atz]
   rw[e1,e2];omega
theorem Low.set {l:List Nat}(h:Low l)(j:Nat)(hd:d<1000000000):Low (l.set j d):=by
 intro x hx;rcases List.mem_or_eq_of_mem_set hx with hx|rfl
 ·exact h x hx
 ·exact hd
theorem Fi (l:List Nat){i j:Nat}(d:Nat)(h:i≠j):(l.set i d).getD j 0=l.getD j 0:=by
 simp[As7,h]
theorem Fo.start (a b:List Nat):Fo a b 0 0 (As6 (a.length+b.length) 0) 0:=by
 refine⟨mV,Low.zeros _,oV,by simp[W4,val],fun j _=>?_⟩;rw[As7,List.getElem?_replicate];split<;>rfl
theorem Fo.step {a b o:List Nat}{i k c x y z t:Nat}(h:Fo a b i k o c)(ha:Low a)(hb:Low b)(hk:k<b.length)(hi:i<a.length)
 (hx:x=a.getD i 0) (hy:y=b.getD k 0) (hz:z=o.getD (i+k) 0) (ht:t=z+x*y+c) :
 Fo a b i (k+1) (o.set (i+k) (t%1000000000)) (t/1000000000):=by
 have h1:=ha.getD i;have h2:=hb.getD k;have h3:=h.low.getD (i+k);have h4:=h.carry;rw[<-hx]at h1;rw[<-hy]at h2;rw[<-hz]at h3;have hxy:x*y<=999999999*999999999:=Aut oV oV;refine⟨by simp[h.len],h.low.set _ (Au3 _ oV),oV,?_,fun j hj=>?_⟩
 ·have hv:=Agp o (i+k) (t%1000000000) (by have:=h.len;omega);rw[<-hz]at hv;have hs:=h.sum;rw[<-hx]at hs;have hr:val (a.take i)*val b+1000000000^i*(x*val (b.take (k+1)))=val o+1000000000^(i+k)*c+1000000000^i*(x*(1000000000^k*y)):=by
   rw[hs,Av,<-hy,Aui x,Aui (1000000000^i),Avl]
  rw[<-hx,hr];rw[show i+(k+1)=i+k+1 by omega,Auc];have hc:=Ha (1000000000^(i+k)) t;have e:1000000000^i*(x*(1000000000^k*y))=1000000000^(i+k)*(x*y):=by
   rw[Aww,Atz];congr 1;rw[<-Atz,At7 x,Atz]
  rw[e];generalize 1000000000^(i+k)=p at *
  have e2:p*t=p*z+p*(x*y)+p*c:=by rw[ht,Aui,Aui]
  omega
 ·rw[Fi _ _ oV];exact h.high j hj
theorem Fo.next (h:Fo a b i b.length o c)(hi:i<a.length) :
 o.getD (i+b.length) 0=0/\Fo a b (i+1) 0 (o.set (i+b.length) c) 0:=by
 have h0:=h.high (i+b.length) (Atb _);refine⟨h0,by simp[h.len],h.low.set _ h.carry,oV,?_,fun j hj=>?_⟩
 ·have hv:=Agp o (i+b.length) c (by have:=h.len;omega);rw[h0]at hv;have hs:=h.sum;rw[Atp (Atb _)]at hs;rw[Av,At2];have e:1000000000^i*a.getD i 0*val b=1000000000^i*(a.getD i 0*val b):=Atz _ _ _;rw[e,<-hs];rw[Avw,Avb]at hv;rw[Ayo,val,Avw,Avw,Avw,Avb,Avb];exact hv
 ·rw[Fi _ _ oV];exact h.high j oV
theorem Fo.done (h:Fo a b a.length 0 o 0):val o=val a*val b:=by
 have hs:=h.sum;rw[Atp (Atb _)]at hs;simpa[val] using hs
structure Hr (a:List Nat)(d k:Nat)(o:List Nat)(r:Nat):Prop where
 len:o.length=a.length
 low:Low o
 rest:r<d
 sum:val (a.drop k)=d*val (o.drop k)+r
theorem Hr.start (a:List Nat)(d:Nat)(hd:0<d):Hr a d a.length (As6 a.length 0) 0 :=
 ⟨mV,Low.zeros _,hd,by simp[val]⟩
theorem Hr.step (h:Hr a d (k+1) o r)(ha:Low a)(hk:k<a.length)(hx:x=a.getD k 0) :
 Hr a d k (o.set k ((r*1000000000+x)/d)) ((r*1000000000+x)%d):=by
 have hd:0<d:=Aum (Atu _) h.rest;have h1:=ha.getD k;rw[<-hx]at h1;have hq:(r*1000000000+x)/d<1000000000:=by
  rw[Au4 hd];have:(r+1)*1000000000<=d*1000000000:=Ats _ h.rest;rw[At7 1000000000 d];omega
 refine⟨by simp[h.len],h.low.set _ hq,Au3 _ hd,?_⟩;have e1:=B5 a k hk;have e2:=B5 (o.set k ((r*1000000000+x)/d)) k (by simp[h.len,hk]);rw[e1,e2,Ay5 oV];simp only[val,<-hx];have e3:(o.set k ((r*1000000000+x)/d)).getD k 0=(r*1000000000+x)/d:=by
  simp[As7,h.len,hk]
 rw[e3];have hs:=h.sum;have hdm:=Avf (r*1000000000+x) d;generalize (r*1000000000+x)/d=q at *
 generalize (r*1000000000+x)%d=s at *
 rw[hs,Aui,Aui,show d*(1000000000*val (A3e (k+1) o))=1000000000*(d*val (A3e (k+1) o)) by rw[<-Atz,At7 d,Atz]];omega
theorem Hr.done (h:Hr a d 0 o r):val o=val a/d/\r=val a%d:=by
 have hs:=h.sum;simp only[Aw4]at hs;have hd:0<d:=Aum (Atu _) h.rest;rw[hs];constructor
 ·rw[Nat.mul_add_div hd,Aw1 h.rest];rfl
 ·rw[Nat.mul_add_mod,Axg h.rest]
end
def Uq (w:World)(n:Nat)(e:Ending)(w':World):Prop:=∃ v,e=.returned v/\Ci w' v n/\Ext w w'
theorem Tryz.info236:(prog.info? 236).map (fun i=>(i.zero,i.size,i.bytes))=some (some (.int .u64 0),1,8):=kV
theorem Jr (n:Nat):(madeCells (Auj .u64 0).cells (n*1)).toList=Ay (As6 n 0):=by
 rw[Ayl];exact (toList_madeCells_one _ _).trans (Acv n)
theorem Dg {w:World}{a:Option Addr}{l:List Nat}{cap n:Nat}(hl:Low l)(hr:Row w a (Ay l))(hn:val l=n)(hc:l.length<=cap) :
 Ci w (.slice a (Bl l l.length) cap) n:=by
 have h:=H6 hl;rw[hn]at h;have hle:=Jl l l.length;have hlen:(Aa n).length=Bl l l.length:=by rw[h,Atm,Av6 hle]
 refine⟨a,cap,by rw[hlen],oV,?_⟩;rw[h,<-V2];exact hr.take _
def Ap8 (w:World)(l m:List Nat)(n:Nat)(c i:Value)(wr:World):Prop :=
 ∃ (k:Nat) (ys:List Nat) (cc:Nat),k<=n/\i=.int .i64 k/\c=.int .u64 (cc:Int)/\Js l m k ys cc /\
  wr.ownsRow w.heap.size 236 1 (.slice (some ⟨w.heap.size,0,none⟩) n n) n (Ay (ys++As6 (n-k) 0))/\Ext w wr
theorem W6 {w wr:World}{e:TypeId}{n k:Nat}{ys:List Nat}{d:Nat}(hk:k<n)(hl:ys.length=k)
 (h:wr.ownsRow w.heap.size e 1 (.slice (some ⟨w.heap.size,0,none⟩) n n) n (Ay (ys++As6 (n-k) 0))) (x:Ext w wr) :
 (wr.setCell ⟨w.heap.size,k,none⟩ (.int .u64 (d:Int))).ownsRow w.heap.size e 1 (.slice (some ⟨w.heap.size,0,none⟩) n n) n (Ay ((ys++[d])++As6 (n-(k+1)) 0)) /\
  Ext w (wr.setCell ⟨w.heap.size,k,none⟩ (.int .u64 (d:Int))):=by
 obtain⟨h1,h2⟩:=h.stored k (.int .u64 (d:Int));refine⟨?_,x.setCell (Atb _) _⟩;rw[U3]at h1;have e:(ys++As6 (n-k) 0).set k d=(ys++[d])++As6 (n-(k+1)) 0:=by
  rw[List.set_append_right _ _ oV,hl,Avc];obtain⟨r,hr⟩:∃ r,n-k=r+1:=⟨n-k-1,oV⟩;rw[hr,show n-(k+1)=r by omega,A0b,List.set_cons_zero,List.append_assoc];rfl
 rw[e]at h1;exact h1
set_option maxRecDepth 100000 in
theorem Akc (a b:Option Addr)(ca cb:Nat)(l m:List Nat)(w:World)(ha:Row w a (Ay l))(hb:Row w b (Ay m))(la:Low l)(lb:Low m)
 (sa:l.length<=10000000000000) (sb:m.length<=10000000000000) :
 Calls prog 183 #[.slice a l.length ca,.slice b m.length cb] w (Uq w (val l+val m)):=by
 obtain⟨i0,hi,hz0,hz1,hz2⟩:=info_parts Tryz.info236;have HI:=As8 hi;have HZ0:=As8 hz0;have HZ1:=As8 hz1;have HZ2:=As8 hz2;clear hi hz0 hz1 hz2;have HA:=As8 ha;have HB:=As8 hb;have LA:=As8 la;have LB:=As8 lb;clear ha hb la lb;obtain⟨n,hn⟩:∃ n,n=max l.length m.length+1:=⟨_,rfl⟩;have HN:=As8 hn;have hn1:n<=10000000000001:=oV
 clear hn;rcases At8 l.length m.length with hlm|hlm;all_goals
  go_enter func183,ntmps183
  go_wp2_with (at_make;refine wpList_make_full _ rfl _ _ 99 rfl w.heap.size 236 i0 (.int .u64 0) 1 Tryz.underlying99 HI.out HZ0.out HZ1.out .i64 .i64 _ _ n rfl rfl (by have:=HN.out;omega) (by have:=HN.out;omega) (by rw[HZ2.out];omega) (by unfold maxLen;omega) (Atb _) ?_;intro w1 hown hgrow)
  rw[Jr]at hown;have HO:=As8 hown;have X1:Hid (Ext w w1):=(Ext.refl w).grown hgrow (fun k hk=>by cases hk);clear hown hgrow
  go_loopw [6,18] (Ap8 w l m n) (fun _ i _=>n-(intOf i).toNat)
  case atStart=>exact⟨0,[],0,Atu _,rfl,rfl,Js.start _ _,by simpa using HO.out,X1.out⟩
  case round =>
   obtain⟨k,ys,cc,hk,rfl,rfl,hst,hown,hx⟩:=hrel;have HS:=As8 hst;have HW:=As8 hown;have HX:=As8 hx;have hc1:=hst.carry;clear hst hown hx HO X1;by_cases hlt:k<n
   ·obtain⟨x,hx⟩:∃ x,x=l.getD k 0:=⟨_,rfl⟩;obtain⟨y,hy⟩:∃ y,y=m.getD k 0:=⟨_,rfl⟩;have hx1:x<1000000000:=by rw[hx];exact LA.out.getD k
    have hy1:y<1000000000:=by rw[hy];exact LB.out.getD k
    have XX:=As8 hx;have YY:=As8 hy;clear hx hy;have hf:=HW.out.frozenAt k;have hce:∃ u,wr.cell? ⟨w.heap.size,k,none⟩=some u:=by
     obtain⟨b,off,h1,h2⟩:=Row.of_owns HW.out k (by simp[HS.out.len];omega);simp only[Atd,Addr.mk.injEq,and_true]at h1;obtain⟨rfl,rfl⟩:=h1;rw[Aud]at h2;exact⟨_,h2⟩
    obtain⟨u,hce⟩:=hce
    go_wp2_with fail
    refine (Uu _ _ _ _ _ oV oV (HA.out.ext HX.out)).mono ?_;rw[Avo,<-XX.out];rintro e w' ⟨rfl,rfl⟩
    go_wp2_with fail
    refine (Uu _ _ _ _ _ oV oV (HB.out.ext HX.out)).mono ?_;rw[Avo,<-YY.out];rintro e w' ⟨rfl,rfl⟩
    go_wp2
    rw[show ((x:Int)+y+cc)%1000000000=(((x+y+cc)%1000000000:Nat):Int) by omega,show ((x:Int)+y+cc)/1000000000=(((x+y+cc)/1000000000:Nat):Int) by omega];have hs:=HS.out.step LA.out LB.out XX.out YY.out;have hfill:=W6 (d:=(x+y+cc)%1000000000) hlt HS.out.len HW.out HX.out;exact⟨⟨k+1,_,_,oV,by go_num,rfl,hs,hfill.1,hfill.2⟩,by simp only[intOf];omega⟩
   ·obtain rfl:k=n:=oV
    have hlen:=HS.out.len;have hown:=HW.out;rw[Avc,Av3,Auu]at hown;have hrow:=As8 (Row.of_owns hown);have hnat:=As8 (Dg (cap:=k) (n:=val l+val m) HS.out.low hrow.out (by have h:=HS.out;rw[HN.out]at h;exact h.done LA.out LB.out) oV);have HL:=As8 hlen;clear hown hlen
    go_wp2_with fail
    ((with_reducible refine (F5 _ _ _ ys _ HL.out oV oV hrow.out).mono ?_);rintro e w' ⟨rfl,rfl⟩)
    go_wp2
    go_ret
    exact⟨_,rfl,hnat.out,HX.out⟩
theorem Aej (va vb:Value)(m n:Nat)(w:World)(ha:Ci w va m)(hb:Ci w vb n)(sa:nl m<=10000000000000)(sb:nl n<=10000000000000) :
 Calls prog 183 #[va,vb] w (Uq w (m+n)):=by
 obtain⟨a,ca,rfl,_,ra⟩:=ha;obtain⟨b,cb,rfl,_,rb⟩:=hb;have:=Akc a b ca cb (Aa m) (Aa n) w ra rb (Am _) (Am _) sa sb;rw[Ai,Ai]at this;exact this
section
variable {n:Int}{v:Value}{w:World}
theorem Ext.drewN {a w:World}(h:Ext a w)(n:Nat):Ext a (w.drewN n):=by
 obtain⟨h1,h2,h3,h4,h5⟩:=h;exact⟨h1,h2,h3,h4,h5⟩
theorem Row.drewN {w:World}{a:Option Addr}{cs:List Value}(h:Row w a cs)(n:Nat):Row (w.drewN n) a cs:=h.ext ((Ext.refl w).drewN n)
theorem Na {base:Nat}{e:TypeId}{size:Nat}{n:Nat}{xs:List Value}(h:w.ownsRow base e size v n xs)(k:Nat):(w.drewN k).ownsRow base e size v n xs:=h
def Aqy (w:World)(l m:List Nat)(n:Nat)(c i:Value)(wr:World):Prop :=
 ∃ (k:Nat) (ys:List Nat) (cc:Nat),k<=n/\i=.int .i64 k/\c=.int .u64 (cc:Int)/\Ke l m k ys cc /\
  wr.ownsRow w.heap.size 236 1 (.slice (some ⟨w.heap.size,0,none⟩) n n) n (Ay (ys++As6 (n-k) 0))/\Ext w wr
set_option maxRecDepth 100000 in
theorem Akt (a b:Option Addr)(ca cb:Nat)(l m:List Nat)(w:World)(ha:Row w a (Ay l))(hb:Row w b (Ay m))(la:Low l)(lb:Low m)
 (sa:l.length<=10000000000000) (sb:m.length<=l.length) (hle:val m<=val l) :
 Calls prog 185 #[.slice a l.length ca,.slice b m.length cb] w (Uq w (val l-val m)):=by
 obtain⟨i0,hi,hz0,hz1,hz2⟩:=info_parts Tryz.info236;have HI:=As8 hi;have HZ0:=As8 hz0;have HZ1:=As8 hz1;have HZ2:=As8 hz2;clear hi hz0 hz1 hz2;have HA:=As8 ha;have HB:=As8 hb;have LA:=As8 la;have LB:=As8 lb;have LE:=As8 hle;clear ha hb la lb hle;obtain⟨n,hn⟩:∃ n,n=l.length:=⟨_,rfl⟩;have HN:=As8 hn;have hn1:n<=10000000000001:=oV
 clear hn
 go_enter func185,ntmps185
 go_wp2_with (at_make;refine wpList_make_full _ rfl _ _ 99 rfl w.heap.size 236 i0 (.int .u64 0) 1 Tryz.underlying99 HI.out HZ0.out HZ1.out .i64 .i64 _ _ n rfl rfl (by have:=HN.out;omega) (by have:=HN.out;omega) (by rw[HZ2.out];omega) (by unfold maxLen;omega) (Atb _) ?_;intro w1 hown hgrow)
 rw[Jr]at hown;have HO:=As8 hown;have X1:Hid (Ext w w1):=(Ext.refl w).grown hgrow (fun k hk=>by cases hk);clear hown hgrow
 go_loopw [6,14] (Aqy w l m n) (fun _ i _=>n-(intOf i).toNat)
 case atStart=>exact⟨0,[],0,Atu _,rfl,rfl,Ke.start _ _,by simpa using HO.out,X1.out⟩
 case round =>
  obtain⟨k,ys,cc,hk,rfl,rfl,hst,hown,hx⟩:=hrel;have HS:=As8 hst;have HW:=As8 hown;have HX:=As8 hx;have hc1:=hst.carry;clear hst hown hx HO X1;by_cases hlt:k<l.length
  ·have hkn:k<n:=by rw[HN.out];exact hlt
   obtain⟨x,hx⟩:∃ x,x=l.getD k 0:=⟨_,rfl⟩;obtain⟨y,hy⟩:∃ y,y=m.getD k 0:=⟨_,rfl⟩;have hx1:x<1000000000:=by rw[hx];exact LA.out.getD k
   have hy1:y<1000000000:=by rw[hy];exact LB.out.getD k
   obtain⟨ba,offa,rfl,hca⟩:=(HA.out.ext HX.out).at hlt;rw[<-hx]at hca;have hat:∀ q,Calls prog 221 #[.slice b m.length cb,.int .i64 k] (wr.drewN q) fun e w'=>e=.returned (.int .u64 (y:Int))/\w'=wr.drewN q:=fun q=>by
    have:=Uu b cb m k (wr.drewN q) oV oV ((HB.out.ext HX.out).drewN q);rw[Avo,<-hy]at this;exact this.mono fun _ _ h=>⟨h.1,h.2.symm⟩
   have HAT:=As8 hat;have XX:=As8 hx;have YY:=As8 hy;clear hx hy hat;have hf:=HW.out.frozenAt k;have hce:∃ u,wr.cell? ⟨w.heap.size,k,none⟩=some u:=by
    obtain⟨b,off,h1,h2⟩:=Row.of_owns HW.out k (by simp[HS.out.len];omega);simp only[Atd,Addr.mk.injEq,and_true]at h1;obtain⟨rfl,rfl⟩:=h1;rw[Aud]at h2;exact⟨_,h2⟩
   obtain⟨u,hce⟩:=hce
   go_wp2_with fail
   go_quiet ((go_at_call 221;exact Calls.quiet_of_same (HAT.out _)))
   go_wp2
   rw[show ((x:Int)+1000000000-y-cc)%1000000000=(((x+1000000000-y-cc)%1000000000:Nat):Int) by omega,show 1-((x:Int)+1000000000-y-cc)/1000000000=((1-(x+1000000000-y-cc)/1000000000:Nat):Int) by omega];have hs:=HS.out.step LA.out LB.out XX.out YY.out;have hfill:=W6 (d:=(x+1000000000-y-cc)%1000000000) hkn HS.out.len (Na HW.out nq) (HX.out.drewN nq);exact⟨⟨k+1,_,_,oV,by go_num,rfl,hs,hfill.1,hfill.2⟩,by simp only[intOf];omega⟩
  ·obtain rfl:k=n:=by have:=HN.out;omega
   have hlen:=HS.out.len;have hown:=HW.out;rw[Avc,Av3,Auu]at hown;have hrow:=As8 (Row.of_owns hown);have hnat:=As8 (Dg (cap:=k) (n:=val l-val m) HS.out.low hrow.out (by have h:=HS.out;rw[HN.out]at h;exact h.done sb LE.out) oV);have HL:=As8 hlen;clear hown hlen
   go_wp2_with fail
   ((with_reducible refine (F5 _ _ _ ys _ HL.out oV oV hrow.out).mono ?_);rintro e w' ⟨rfl,rfl⟩)
   go_wp2
   go_ret
   exact⟨_,rfl,hnat.out,HX.out⟩
theorem Acp (va vb:Value)(m n:Nat)(w:World)(ha:Ci w va m)(hb:Ci w vb n)(sa:nl m<=10000000000000)(hle:n<=m) :
 Calls prog 185 #[va,vb] w (Uq w (m-n)):=by
 obtain⟨a,ca,rfl,_,ra⟩:=ha;obtain⟨b,cb,rfl,_,rb⟩:=hb;have:=Akt a b ca cb (Aa m) (Aa n) w ra rb (Am _) (Am _) sa (Ct hle) (by rw[Ai,Ai];exact hle);rw[Ai,Ai]at this;exact this
def Ap1 (w:World)(l m:List Nat)(i:Value)(wr:World):Prop :=
 ∃ k:Nat,k<=l.length/\i=.int .i64 ((k:Int)-1)/\l.drop k=m.drop k/\∃ q,wr=w.drewN q
theorem Cf (h:0<n):sgn n=1:=by unfold sgn;rw[if_neg oV,if_pos h]
theorem Dc (h:n<0):sgn n = -1:=by unfold sgn;rw[if_pos h]
theorem On:sgn 0=0:=by simp[sgn]
def Pj (w:World)(v:Value)(e:Ending)(w':World):Prop:=e=.returned v/\∃ q,w'=w.drewN q
theorem Pj.ext {e:Ending}{w':World}(h:Pj w v e w'):e=.returned v/\Ext w w':=by
 obtain⟨h1,q,rfl⟩:=h;exact⟨h1,(Ext.refl w).drewN q⟩
set_option maxRecDepth 100000 in
theorem Yp (a b:Option Addr)(ca cb:Nat)(l m:List Nat)(w:World)(ha:Row w a (Ay l))(hb:Row w b (Ay m))(la:Low l)(lb:Low m)
 (sa:l.length<=10000000000000) (sb:m.length=l.length) :
 Calls prog 184 #[.slice a l.length ca,.slice b l.length cb] w (Pj w (.int .i64 (sgn ((val l:Int)-val m)))):=by
 have HA:=As8 ha;have HB:=As8 hb;have LA:=As8 la;have LB:=As8 lb;have SB:=As8 sb;clear ha hb la lb sb
 go_enter func184,ntmps184
 go_wp2_with fail
 go_loopw [5] (Ap1 w l m) (fun i _=>(intOf i+1).toNat)
 case atStart=>exact⟨l.length,oV,rfl,by rw[Aue (Atb _),Aue (by rw[SB.out];exact Atb _)],0,rfl⟩
 case round =>
  obtain⟨k,hk,rfl,hd,q,rfl⟩:=hrel;have HD:=As8 hd;clear hd;rcases k with _|k
  ·go_wp2_with fail
   have h0:(val l:Int)-val m=0:=by have:=HD.out;simp only[Aw4]at this;rw[this];omega
   go_ret
   refine⟨?_,q,rfl⟩;rw[h0,On];rfl
  ·rw[show ((k+1:Nat):Int)-1=k by omega];have hkl:k<l.length:=oV
   obtain⟨ba,offa,rfl,hca⟩:=HA.out.at hkl;obtain⟨bb,offb,rfl,hcb⟩:=HB.out.at (j:=k) (by rw[SB.out];exact hkl);obtain⟨x,hx⟩:∃ x,x=l.getD k 0:=⟨_,rfl⟩;obtain⟨y,hy⟩:∃ y,y=m.getD k 0:=⟨_,rfl⟩;rw[<-hx]at hca;rw[<-hy]at hcb;have XX:=As8 hx;have YY:=As8 hy;clear hx hy;rcases Axu x y with hlt|heq|hgt
   ·go_wp2_with fail
    go_quiet (fail)
    go_wp2_with fail
    have h0:(val l:Int)-val m<0:=by
     have:=F0 SB.out.symm hkl LA.out HD.out (by rw[<-XX.out,<-YY.out];exact hlt);omega
    go_ret
    refine⟨?_,_,Azk _ _ _⟩;rw[Dc h0];rfl
   ·subst heq
    go_wp2_with fail
    go_quiet (fail)
    go_wp2_with fail
    go_quiet (fail)
    go_wp2_with fail
    refine⟨⟨k,oV,by go_num,?_,_,rfl⟩,by simp only[intOf];omega⟩;rw[B5 l k hkl,B5 m k (by rw[SB.out];exact hkl),HD.out,<-XX.out,<-YY.out]
   ·have hnlt:¬ x<y:=oV
    go_wp2_with fail
    go_quiet (fail)
    go_wp2_with fail
    go_quiet (fail)
    go_wp2_with fail
    have h0:0<(val l:Int)-val m:=by
     have:=F0 SB.out (by rw[SB.out];exact hkl) LB.out HD.out.symm (by rw[<-XX.out,<-YY.out];exact hgt);omega
    go_ret
    refine⟨?_,_,by rw[Azk,Azk]⟩;rw[Cf h0];rfl
set_option maxRecDepth 100000 in
theorem Ad4 (a b:Option Addr)(ca cb m n:Nat)(w:World)(sa:m<=10000000000000)(sb:n<=10000000000000)(hne:m≠n) :
 Calls prog 184 #[.slice a m ca,.slice b n cb] w (Pj w (.int .i64 (sgn ((m:Int)-n)))):=by
 have h1:((m:Int) != n)=true:=by rw[bne_iff_ne];omega
 clear hne
 go_enter func184,ntmps184
 go_wp2_with fail
 refine (Amr _ _).mono ?_;rintro e w' ⟨rfl,rfl⟩
 go_wp2_with fail
 go_ret
 exact⟨rfl,0,rfl⟩
theorem Ahd {a b c d:Nat}(h1:a<b↔c<d)(h2:b<a↔d<c):sgn ((a:Int)-b)=sgn ((c:Int)-d):=by
 rcases Axu a b with h|h|h
 ·have:=h1.1 h;rw[Dc oV,Dc oV]
 ·have h3:¬ c<d:=fun h'=>by have:=h1.2 h';omega
  have h4:¬ d<c:=fun h'=>by have:=h2.2 h';omega
  rw[show (a:Int)-b=0 by omega,show (c:Int)-d=0 by omega]
 ·have:=h2.1 h;rw[Cf oV,Cf oV]
theorem Gb (va vb:Value)(m n:Nat)(w:World)(ha:Ci w va m)(hb:Ci w vb n)(sa:nl m<=10000000000000)(sb:nl n<=10000000000000) :
 Calls prog 184 #[va,vb] w (Pj w (.int .i64 (sgn ((m:Int)-n)))):=by
 obtain⟨a,ca,rfl,_,ra⟩:=ha;obtain⟨b,cb,rfl,_,rb⟩:=hb;by_cases h:(Aa n).length=(Aa m).length
 ·have:=Yp a b ca cb (Aa m) (Aa n) w ra rb (Am _) (Am _) sa h;rw[Ai,Ai]at this;rw[h];exact this
 ·have:=Ad4 a b ca cb (Aa m).length (Aa n).length w sa sb (fun e=>h e.symm);rw[Ahd (a:=(Aa m).length) (b:=(Aa n).length) (c:=m) (d:=n)]at this
  ·exact this
  ·constructor
   ·exact fun h'=>I5 h'
   ·intro h';have:=Ct (Az4 h');unfold nl at this;omega
  ·constructor
   ·exact fun h'=>I5 h'
   ·intro h';have:=Ct (Az4 h');unfold nl at this;omega
end
section
variable {e:TypeId}{n:Nat}{o:List Nat}{w wr:World}
def Aq6 (w:World)(l m:List Nat)(n:Nat)(i:Value)(wr:World):Prop :=
 ∃ (k:Nat) (o:List Nat),k<=l.length/\i=.int .i64 k/\Fo l m k 0 o 0 /\
  wr.ownsRow w.heap.size 236 1 (.slice (some ⟨w.heap.size,0,none⟩) n n) n (Ay o)/\Ext w wr
def An6 (w:World)(l m:List Nat)(n j:Nat)(c i:Value)(wr:World):Prop :=
 ∃ (k:Nat) (o:List Nat) (cc:Nat),k<=m.length/\i=.int .i64 k/\c=.int .u64 (cc:Int)/\Fo l m j k o cc /\
  wr.ownsRow w.heap.size 236 1 (.slice (some ⟨w.heap.size,0,none⟩) n n) n (Ay o)/\Ext w wr
theorem Og {n j:Nat}(h:wr.ownsRow w.heap.size e 1 (.slice (some ⟨w.heap.size,0,none⟩) n n) n (Ay o))(hj:j<o.length) :
 wr.cell? ⟨w.heap.size,j,none⟩=some (.int .u64 (o.getD j 0:Nat)):=by
 obtain⟨b,off,h1,h2⟩:=(Row.of_owns h).at hj;simp only[Atd,Addr.mk.injEq,and_true]at h1;obtain⟨rfl,rfl⟩:=h1;rw[Aud]at h2;exact h2
theorem Qp (j d:Nat)(h:wr.ownsRow w.heap.size e 1 (.slice (some ⟨w.heap.size,0,none⟩) n n) n (Ay o))(x:Ext w wr) :
 (wr.setCell ⟨w.heap.size,j,none⟩ (.int .u64 (d:Int))).ownsRow w.heap.size e 1 (.slice (some ⟨w.heap.size,0,none⟩) n n) n (Ay (o.set j d)) /\
  Ext w (wr.setCell ⟨w.heap.size,j,none⟩ (.int .u64 (d:Int))):=by
 refine⟨?_,x.setCell (Atb _) _⟩;have:=(h.stored j (.int .u64 (d:Int))).1;rw[U3]at this;exact this
def Ab8 (w:World)(n:Nat)(e:Ending)(w':World):Prop:=∃ k cap,e=.returned (.slice (some ⟨w.heap.size,0,none⟩) k cap)/\Ci w' (.slice (some ⟨w.heap.size,0,none⟩) k cap) n/\Ext w w'
set_option maxRecDepth 100000 in
theorem Ama (a b:Option Addr)(ca cb:Nat)(l m:List Nat)(w:World)(ha:Row w a (Ay l))(hb:Row w b (Ay m))(la:Low l)(lb:Low m)
 (sa:l.length<=10000000000000) (sb:m.length<=10000000000000) :
 Calls prog 164 #[.slice a l.length ca,.slice b m.length cb] w (Ab8 w (val l*val m)):=by
 obtain⟨i0,hi,hz0,hz1,hz2⟩:=info_parts Tryz.info236;have HI:=As8 hi;have HZ0:=As8 hz0;have HZ1:=As8 hz1;have HZ2:=As8 hz2;clear hi hz0 hz1 hz2;have HA:=As8 ha;have HB:=As8 hb;have LA:=As8 la;have LB:=As8 lb;clear ha hb la lb;obtain⟨n,hn⟩:∃ n,n=l.length+m.length:=⟨_,rfl⟩;have HN:=As8 hn;have hn1:n<=20000000000001:=oV
 have hn2:l.length+m.length<=n:=oV
 clear hn
 go_enter func164,ntmps164
 go_wp2_with (at_make;refine wpList_make_full _ rfl _ _ 99 rfl w.heap.size 236 i0 (.int .u64 0) 1 Tryz.underlying99 HI.out HZ0.out HZ1.out .i64 .i64 _ _ n rfl rfl (by have:=HN.out;omega) (by have:=HN.out;omega) (by rw[HZ2.out];omega) (by unfold maxLen;omega) (Atb _) ?_;intro w1 hown hgrow)
 rw[Jr]at hown;have HO:=As8 hown;have X1:Hid (Ext w w1):=(Ext.refl w).grown hgrow (fun k hk=>by cases hk);clear hown hgrow
 go_loopw [20] (Aq6 w l m n) (fun i _=>l.length-(intOf i).toNat)
 case atStart=>exact⟨0,_,Atu _,rfl,Fo.start _ _,by rw[<-HN.out];exact HO.out,X1.out⟩
 case round =>
  obtain⟨j,o,hk,rfl,hst,hown,hx⟩:=hrel;have HS:=As8 hst;have HW:=As8 hown;have HX:=As8 hx;clear hst hown hx HO X1;by_cases hlt:j<l.length
  ·obtain⟨x,hx⟩:∃ x,x=l.getD j 0:=⟨_,rfl⟩;have hx1:x<1000000000:=by rw[hx];exact LA.out.getD j
   obtain⟨ba,offa,rfl,hca⟩:=(HA.out.ext HX.out).at hlt;rw[<-hx]at hca;have XX:=As8 hx;clear hx
   go_wp2_with fail
   obtain⟨wo,hwo⟩:∃ wo:World,wo=wr:=⟨_,rfl⟩;subst hwo
   go_loopw [8,27] (An6 w l m n j) (fun _ i _=>m.length-(intOf i).toNat)
   case atStart=>exact⟨0,_,0,Atu _,rfl,rfl,HS.out,HW.out,HX.out⟩
   case round =>
    obtain⟨k,o2,cc,hk2,rfl,rfl,hst2,hown2,hx2⟩:=hrel;have HS2:=As8 hst2;have HW2:=As8 hown2;have HX2:=As8 hx2;have hcc:=hst2.carry;have hl2:=hst2.len;have hlow2:=As8 hst2.low;have hlo2:n<=o2.length:=by have:=HN.out;omega
    clear hst2 hown2 hx2 HS HW HX hca hl2;by_cases hlt2:k<m.length
    ·obtain⟨y,hy⟩:∃ y,y=m.getD k 0:=⟨_,rfl⟩;have hy1:y<1000000000:=by rw[hy];exact LB.out.getD k
     obtain⟨bb,offb,rfl,hcb⟩:=(HB.out.ext HX2.out).at hlt2;rw[<-hy]at hcb;obtain⟨z,hz⟩:∃ z,z=o2.getD (j+k) 0:=⟨_,rfl⟩;have hz1:z<1000000000:=by rw[hz];exact hlow2.out.getD _
     have hcz:=Og HW2.out (j:=j+k) oV;have hfz:=HW2.out.frozenAt (j+k);rw[<-hz]at hcz;have YY:=As8 hy;have ZZ:=As8 hz;clear hy hz;obtain⟨p,hp⟩:∃ p,p=x*y:=⟨_,rfl⟩;have hp1:p<=999999999*999999999:=by rw[hp];exact Aut oV oV
     have hp2:((x:Int)*y)=p:=by rw[hp];exact (Aws _ _).symm
     have PP:=As8 hp;clear hp
     go_wp2_with fail
     rw[show ((z:Int)+p+cc)%1000000000=(((z+x*y+cc)%1000000000:Nat):Int) by rw[<-PP.out];omega,show ((z:Int)+p+cc)/1000000000=(((z+x*y+cc)/1000000000:Nat):Int) by rw[<-PP.out];omega];have hs:=HS2.out.step LA.out LB.out hlt2 hlt XX.out YY.out ZZ.out rfl;have hset:=Qp (j+k) ((z+x*y+cc)%1000000000) HW2.out HX2.out;exact⟨⟨k+1,_,_,oV,by go_num,rfl,hs,hset.1,hset.2⟩,by simp only[intOf];omega⟩
    ·obtain rfl:k=m.length:=oV
     obtain⟨h0,hnext⟩:=HS2.out.next hlt;have hcz:=Og HW2.out (j:=j+m.length) oV;rw[h0]at hcz;have hfz:=HW2.out.frozenAt (j+m.length);have HNX:=As8 hnext;clear h0 hnext
     go_wp2_with fail
     have hset:=Qp (j+m.length) cc HW2.out HX2.out;exact⟨⟨j+1,_,oV,by go_num,HNX.out,hset.1,hset.2⟩,by simp only[intOf];omega⟩
  ·obtain rfl:j=l.length:=oV
   have hlen:=HS.out.len;have hrow:=As8 (Row.of_owns HW.out);have hnat:=As8 (Dg (cap:=n) (n:=val l*val m) HS.out.low hrow.out HS.out.done oV);have HL:Hid (o.length=n):=by rw[hlen];exact HN.out.symm
   clear hlen
   go_wp2_with fail
   ((with_reducible refine (F5 _ _ _ o _ HL.out oV oV hrow.out).mono ?_);rintro e w' ⟨rfl,rfl⟩)
   go_wp2_with fail
   go_ret
   exact⟨_,_,rfl,hnat.out,HX.out⟩
theorem Qj (va vb:Value)(m n:Nat)(w:World)(ha:Ci w va m)(hb:Ci w vb n)(sa:nl m<=10000000000000)(sb:nl n<=10000000000000) :
 Calls prog 164 #[va,vb] w (Ab8 w (m*n)):=by
 obtain⟨a,ca,rfl,_,ra⟩:=ha;obtain⟨b,cb,rfl,_,rb⟩:=hb;have:=Ama a b ca cb (Aa m) (Aa n) w ra rb (Am _) (Am _) sa sb;rw[Ai,Ai]at this;exact this
theorem Aef (va vb:Value)(m n:Nat)(w:World)(ha:Ci w va m)(hb:Ci w vb n)(sa:nl m<=10000000000000)(sb:nl n<=10000000000000) :
 Calls prog 164 #[va,vb] w (Uq w (m*n)) :=
 (Qj va vb m n w ha hb sa sb).mono fun _ _ ⟨k,cap,h1,h2,h3⟩=>⟨_,h1,h2,h3⟩
def Ald (w:World)(l:List Nat)(d n:Nat)(r i:Value)(wr:World):Prop :=
 ∃ (k:Nat) (o:List Nat) (rr:Nat),k<=l.length/\i=.int .i64 ((k:Int)-1)/\r=.int .u64 (rr:Int)/\Hr l d k o rr /\
  wr.ownsRow w.heap.size 236 1 (.slice (some ⟨w.heap.size,0,none⟩) n n) n (Ay o)/\Ext w wr
def Nm (w:World)(n r:Nat)(e:Ending)(w':World):Prop:=∃ v,e=.returned (.tuple #[v,.int .u64 (r:Int)])/\Ci w' v n/\Ext w w'
set_option maxRecDepth 100000 in
theorem Aev (a:Option Addr)(ca d:Nat)(l:List Nat)(w:World)(ha:Row w a (Ay l))(la:Low l)
 (sa:l.length<=10000000000000) (hd0:0<d) (hd:d<1000000000) :
 Calls prog 231 #[.slice a l.length ca,.int .u64 d] w (Nm w (val l/d) (val l%d)):=by
 obtain⟨i0,hi,hz0,hz1,hz2⟩:=info_parts Tryz.info236;have HI:=As8 hi;have HZ0:=As8 hz0;have HZ1:=As8 hz1;have HZ2:=As8 hz2;clear hi hz0 hz1 hz2;have HA:=As8 ha;have LA:=As8 la;clear ha la;obtain⟨n,hn⟩:∃ n,n=l.length:=⟨_,rfl⟩;have HN:=As8 hn;have hn1:n<=10000000000001:=oV
 have hn2:l.length<=n:=oV
 clear hn
 go_enter func231,ntmps231
 go_wp2_with (at_make;refine wpList_make_full _ rfl _ _ 99 rfl w.heap.size 236 i0 (.int .u64 0) 1 Tryz.underlying99 HI.out HZ0.out HZ1.out .i64 .i64 _ _ n rfl rfl (by have:=HN.out;omega) (by have:=HN.out;omega) (by rw[HZ2.out];omega) (by unfold maxLen;omega) (Atb _) ?_;intro w1 hown hgrow)
 rw[Jr]at hown;have HO:=As8 hown;have X1:Hid (Ext w w1):=(Ext.refl w).grown hgrow (fun k hk=>by cases hk);clear hown hgrow
 go_loopw [7,8] (Ald w l d n) (fun _ i _=>(intOf i+1).toNat)
 case atStart=>exact⟨l.length,_,0,oV,rfl,rfl,Hr.start _ _ hd0,by rw[<-HN.out];exact HO.out,X1.out⟩
 case round =>
  obtain⟨k,o,rr,hk,rfl,rfl,hst,hown,hx⟩:=hrel;have HS:=As8 hst;have HW:=As8 hown;have HX:=As8 hx;have hrr:=hst.rest;have hlo:n<=o.length:=by have:=HN.out;have:=hst.len;omega
  clear hst hown hx HO X1;rcases k with _|k
  ·have hlen:=HS.out.len;have hrow:=As8 (Row.of_owns HW.out);have hnat:=As8 (Dg (cap:=n) (n:=val l/d) HS.out.low hrow.out HS.out.done.1 oV);have HL:Hid (o.length=n):=by rw[hlen];exact HN.out.symm
   clear hlen
   go_wp2_with fail
   ((with_reducible refine (F5 _ _ _ o _ HL.out oV oV hrow.out).mono ?_);rintro e w' ⟨rfl,rfl⟩)
   go_wp2_with fail
   go_ret2
   exact⟨_,by rw[HS.out.done.2];rfl,hnat.out,HX.out⟩
  ·rw[show ((k+1:Nat):Int)-1=k by omega];have hkl:k<l.length:=oV
   obtain⟨x,hx⟩:∃ x,x=l.getD k 0:=⟨_,rfl⟩;have hx1:x<1000000000:=by rw[hx];exact LA.out.getD k
   obtain⟨ba,offa,rfl,hca⟩:=(HA.out.ext HX.out).at hkl;rw[<-hx]at hca;have hce:=Og HW.out (j:=k) oV;have hfz:=HW.out.frozenAt k;have XX:=As8 hx;clear hx;have hd2:((d:Int)==0)=false:=gV
   go_wp2_with fail
   go_region
   go_wp2_with fail
   rw[show ((rr:Int)*1000000000+x)%d=(((rr*1000000000+x)%d:Nat):Int) by simp,show ((rr:Int)*1000000000+x)/d=(((rr*1000000000+x)/d:Nat):Int) by simp];have hs:=HS.out.step LA.out hkl XX.out;have hset:=Qp k ((rr*1000000000+x)/d) HW.out HX.out;exact⟨⟨k,_,_,oV,rfl,rfl,hs,hset.1.drew,hset.2.drew⟩,by simp only[intOf];omega⟩
theorem Ow (va:Value)(m d:Nat)(w:World)(ha:Ci w va m)(sa:nl m<=10000000000000)(hd0:0<d)(hd:d<1000000000) :
 Calls prog 231 #[va,.int .u64 d] w (Nm w (m/d) (m%d)):=by
 obtain⟨a,ca,rfl,_,ra⟩:=ha;have:=Aev a ca d (Aa m) w ra (Am _) sa hd0 hd;rw[Ai]at this;exact this
end
section
variable {U V p top u2 v1 v2:Nat}
structure Wm (v1 v2 u2 top p V U:Nat):Prop where
 v:∃ v',v' < p/\V=(v1*1000000000+v2)*p+v'
 u:∃ u',u' < p/\U=(top*1000000000+u2)*p+u'
 v1pos:500000000<=v1
 v1low:v1<1000000000
 v2low:v2<1000000000
 u2low:u2<1000000000
 top1:top<=v1*1000000000+999999999
 less:U<1000000000*V
theorem Wm.pos (h:Wm v1 v2 u2 top p V U):0<V:=by
 rcases At5 V with h0|h0
 ·have:=h.less;rw[h0]at this;omega
 ·exact h0
structure P0 (v1 top V U q r:Nat):Prop where
 eq:q*v1+r=top
 ge:U/V<=q
 low:1000000000<=q->r<1000000000
 qle:q<=2000000000
theorem P0.start (h:Wm v1 v2 u2 top p V U):P0 v1 top V U (top/v1) (top%v1):=by
 have h1:=h.v1pos;have hm:=Avf top v1;have hr:=Au3 top (show 0<v1 by omega);have hv:=h.v1low;refine⟨by rw[At7];exact hm,?_,fun _=>oV,?_⟩
 ·obtain⟨v',hv',eV⟩:=h.v;obtain⟨u',hu',eU⟩:=h.u;have hpos:=h.pos;have hu2:=h.u2low;rw[Awn oV];have hq:U/V*V<=U:=Nat.div_mul_le_self U V;generalize U/V=q at *
  have hpp:0<p:=oV
  have e1:q*v1*1000000000*p<=q*V:=by
   rw[eV,Atz,Atz];refine Aul _ ?_;rw[<-Atz,At2];omega
  have e2:U<(top*1000000000+u2+1)*p:=by rw[eU,At2 _ 1,Avm];omega
  have e3:q*v1*1000000000*p<(top*1000000000+u2+1)*p:=oV
  have e4:=Ayz e3;omega
 ·rw[<-Nat.lt_succ_iff,Au4 oV];have:=h.top1;omega
theorem P0.step {v1 v2 u2 top p V U q r:Nat}(h:Wm v1 v2 u2 top p V U)(t:P0 v1 top V U q r)
 (hc:1000000000<=q\/r*1000000000+u2<q*v2):0<q/\P0 v1 top V U (q-1) (r+v1):=by
 have hpos:=h.pos;have hlt:U/V<q:=by
  rcases hc with hc|hc
  ·have:U/V<1000000000:=by rw[Au4 hpos];exact h.less
   omega
  ·rw[Au4 hpos];obtain⟨v',hv',eV⟩:=h.v;obtain⟨u',hu',eU⟩:=h.u;have e1:q*((v1*1000000000+v2)*p)<=q*V:=Aul _ oV;have e2:q*((v1*1000000000+v2)*p)=((q*v1)*1000000000+q*v2)*p:=by
    rw[<-Atz,Aui,<-Atz]
   have e3:(top*1000000000+u2+1)*p<=((q*v1)*1000000000+q*v2)*p:=by
    refine Ats _ ?_;have:=t.eq;omega
   have e4:(top*1000000000+u2+1)*p=(top*1000000000+u2)*p+p:=by rw[At2 _ 1,Avm]
   omega
 have hq:0<q:=Aum (Atu _) hlt;refine⟨hq,?_,Nat.le_sub_one_of_lt hlt,fun hge=>?_,by have:=t.qle;omega⟩
 ·obtain⟨k,rfl⟩:∃ k,q=k+1:=⟨q-1,oV⟩;have:=t.eq;rw[At2,Avm]at this;simp only[Avv];omega
 ·have e:=t.eq;have ht:=h.top1;obtain⟨k,rfl⟩:∃ k,q=1000000000+1+k:=⟨q-1000000001,oV⟩;have:(1000000000+1+k)*v1=1000000000*v1+v1+k*v1:=by rw[At2,At2,Avm]
  have h3:0<=k*v1:=Atu _;rw[this]at e;omega
theorem P0.done {v1 v2 u2 top p V U q r:Nat}(h:Wm v1 v2 u2 top p V U)(t:P0 v1 top V U q r)
 (hc:¬ (r<1000000000/\(1000000000<=q\/r*1000000000+u2<q*v2))):q<1000000000/\U/V<=q/\q<=U/V+1:=by
 have hq:q<1000000000:=by
  rcases At8 q 1000000000 with h1|h1
  ·exact h1
  ·exact absurd ⟨t.low h1,Or.inl h1⟩ hc
 have hcond:q*v2<=r*1000000000+u2:=by
  rcases At8 (r*1000000000+u2) (q*v2) with h1|h1
  ·rcases At8 r 1000000000 with h2|h2
   ·exact absurd ⟨h2,Or.inr h1⟩ hc
   ·have:q*v2<=999999999*999999999:=Aut oV (by have:=h.v2low;omega);omega
  ·exact h1
 refine⟨hq,t.ge,?_⟩;rcases At5 q with h0|h0
 ·rw[h0];exact Atu _
 ·obtain⟨k,rfl⟩:∃ k,q=k+1:=⟨q-1,oV⟩
  suffices k<=U/V by omega
  have hpos:=h.pos;rw[Awn hpos];obtain⟨v',hv',eV⟩:=h.v;obtain⟨u',hu',eU⟩:=h.u;have e1:(k+1)*V=(((k+1)*v1)*1000000000+(k+1)*v2)*p+(k+1)*v':=by
   rw[eV,Aui,<-Atz,Aui,<-Atz]
  have e2:(((k+1)*v1)*1000000000+(k+1)*v2)*p<=(top*1000000000+u2)*p:=by
   refine Ats _ ?_;have:=t.eq;omega
  have e3:(k+1)*v'<=1000000000*p:=Aut oV oV;have e4:1000000000*p<=V:=by
   rw[eV];have:1000000000*p<=(v1*1000000000+v2)*p:=Ats _ (by have:=h.v1pos;omega);omega
  have e5:(k+1)*V=k*V+V:=by rw[At2,Avm]
  omega
structure K2 (full v:List Nat)(off q k:Nat)(o:List Nat)(c:Nat):Prop where
 len:o.length=full.length
 low:Low o
 carry:c<=1000000000
 sum:val ((o.drop off).take k)+q*val (v.take k)=val ((full.drop off).take k)+1000000000^k*c
 same:∀ j,j<off\/off+k<=j->o.getD j 0=full.getD j 0
theorem Ea (l:List Nat)(off k:Nat):(l.drop off).getD k 0=l.getD (off+k) 0:=by
 simp[As7,List.getElem?_drop]
theorem L8 (l:List Nat)(j k d:Nat)(h:k<=j):(l.set j d).take k=l.take k:=by
 rw[List.take_set_of_le h]
theorem K2.start (full v:List Nat)(off q:Nat)(h:Low full):K2 full v off q 0 full 0 :=
 ⟨rfl,h,oV,by simp[val],fun _ _=>rfl⟩
theorem K2.step {full v o:List Nat}{off q k c x y d e:Nat}(h:K2 full v off q k o c)(hk:off+k<full.length)
 (hx:x=v.getD k 0) (hy:y=o.getD (off+k) 0) (hd:d<1000000000) (he:e<=1000000000) (hde:d+q*x+c=y+1000000000*e) :
 K2 full v off q (k+1) (o.set (off+k) d) e:=by
 refine⟨by simp[h.len],h.low.set _ hd,he,?_,fun j hj=>?_⟩
 ·rw[Av,Av,Av,Ea,Ea];have e1:((o.set (off+k) d).drop off).take k=(o.drop off).take k:=by
   rw[A1x,if_neg oV,L8 _ _ _ _ oV]
  have e2:(o.set (off+k) d).getD (off+k) 0=d:=by
   simp[As7,h.len,hk]
  rw[e1,e2,<-hx,<-h.same (off+k) (Or.inr (Atb _)),<-hy,Auc];have hs:=h.sum;generalize 1000000000^k=p at *
  have e3:p*d+p*(q*x)+p*c=p*y+p*1000000000*e:=by
   rw[Atz,<-Aui,<-Aui,<-Aui,hde]
  have e4:q*(val (A36 k v)+p*x)=q*val (A36 k v)+p*(q*x):=by
   rw[Aui];congr 1;rw[<-Atz,At7 q,Atz]
  omega
 ·rw[Fi _ _ oV];exact h.same j oV
structure Lt (full v:List Nat)(off k:Nat)(o:List Nat)(c:Nat):Prop where
 len:o.length=full.length
 low:Low o
 carry:c<=1
 sum:val ((o.drop off).take k)+1000000000^k*c=val ((full.drop off).take k)+val (v.take k)
 same:∀ j,j<off\/off+k<=j->o.getD j 0=full.getD j 0
theorem Lt.start (full v:List Nat)(off:Nat)(h:Low full):Lt full v off 0 full 0 :=
 ⟨rfl,h,oV,by simp[val],fun _ _=>rfl⟩
theorem Lt.step {full v o:List Nat}{off k c x y:Nat}(h:Lt full v off k o c)(hv:Low v)(hk:off+k<full.length)
 (hx:x=v.getD k 0) (hy:y=o.getD (off+k) 0) :
 Lt full v off (k+1) (o.set (off+k) ((y+x+c)%1000000000)) ((y+x+c)/1000000000):=by
 have h1:=hv.getD k;have h2:=h.low.getD (off+k);have h3:=h.carry;rw[<-hx]at h1;rw[<-hy]at h2;refine⟨by simp[h.len],h.low.set _ oV,oV,?_,fun j hj=>?_⟩
 ·rw[Av,Av,Av,Ea,Ea];have e1:((o.set (off+k) ((y+x+c)%1000000000)).drop off).take k=(o.drop off).take k:=by
   rw[A1x,if_neg oV,L8 _ _ _ _ oV]
  have e2:(o.set (off+k) ((y+x+c)%1000000000)).getD (off+k) 0=(y+x+c)%1000000000:=by
   simp[As7,h.len,hk]
  rw[e1,e2,<-hx,<-h.same (off+k) (Or.inr (Atb _)),<-hy,Auc,Avl,Ha,Aui,Aui];have hs:=h.sum;omega
 ·rw[Fi _ _ oV];exact h.same j oV
end
section
variable {A V j m n:Nat}{qs u:List Nat}
theorem Ym (l:List Nat)(n:Nat):val (l.take (n+2))=val (l.take n)+1000000000^n*(l.getD n 0+1000000000*l.getD (n+1) 0):=by
 rw[Av,Av,Auc,Aui,Atz];omega
theorem Ff {l:List Nat}(h:Low l)(k:Nat):val (l.take k)<1000000000^k :=
 Auf (I8 (h.take k)) (Atq oV (by rw[Atm];omega))
theorem Acw {full v:List Nat}{off n:Nat}(hn:v.length=n+2)(hf:Low full)(hv:Low v)(hv1:500000000<=v.getD (n+1) 0)
 (hU:val ((full.drop off).take (n+3))<1000000000*val v) :
 Wm (v.getD (n+1) 0) (v.getD n 0) (full.getD (off+n) 0) (full.getD (off+(n+2)) 0*1000000000+full.getD (off+(n+1)) 0) (1000000000^n) (val v) (val ((full.drop off).take (n+3))):=by
 have eV:val v=(v.getD (n+1) 0*1000000000+v.getD n 0)*1000000000^n+val (v.take n):=by
  have:=Ym v n;rw[<-hn,At9]at this;rw[this,At7 (v.getD (n+1) 0*1000000000+v.getD n 0),At7 (v.getD (n+1) 0),Az5 (v.getD n 0),Az5]
 have eU:val ((full.drop off).take (n+3))=((full.getD (off+(n+2)) 0*1000000000+full.getD (off+(n+1)) 0)*1000000000+full.getD (off+n) 0)*1000000000^n+val ((full.drop off).take n):=by
  rw[Av,Ym,Ea,Ea,Ea,Aww,At7 _ (1000000000^n)];generalize 1000000000^n=p;rw[show (1000000000:Nat)^2=1000000000*1000000000 by rfl,Atz p,Avl (val _),<-Aui,Az5 (val _)]
  congr 2
  omega
 have h1:=hv.getD (n+1);have h2:=hv.getD n;have h3:=hf.getD (off+n);have h4:=hf.getD (off+(n+1));have h5:=hf.getD (off+(n+2));have l1:=Ff hv n;have l2:=Ff (hf.drop off) n;refine⟨⟨_,l1,eV⟩,⟨_,l2,eU⟩,hv1,h1,h2,h3,?_,hU⟩;rw[eU,eV]at hU;generalize v.getD (n+1) 0=v1 at *
 generalize v.getD n 0=v2 at *
 generalize full.getD (off+n) 0=u2 at *
 generalize full.getD (off+(n+1)) 0=u1 at *
 generalize full.getD (off+(n+2)) 0=u0 at *
 generalize val ((full.drop off).take n)=x at *
 generalize val (v.take n)=y at *
 generalize 1000000000^n=p at *
 have:(u0*1000000000*1000000000)*p<((v1+1)*1000000000*1000000000)*p:=by
  have e1:(u0*1000000000*1000000000)*p<=((u0*1000000000+u1)*1000000000+u2)*p:=Ats _ oV;have e2:1000000000*((v1*1000000000+v2)*p+y)<=1000000000*((v1*1000000000+v2+1)*p):=by
   refine Aul _ ?_;rw[At2 _ 1,Avm];omega
  have e3:1000000000*((v1*1000000000+v2+1)*p)=(1000000000*(v1*1000000000+v2+1))*p:=by rw[Atz]
  have e4:(1000000000*(v1*1000000000+v2+1))*p<=((v1+1)*1000000000*1000000000)*p:=Ats _ oV;omega
 have:=Ayz this;omega
theorem Gy (l:List Nat)(off n:Nat):val ((l.drop off).take (n+1))=val ((l.drop off).take n)+1000000000^n*l.getD (off+n) 0:=by
 rw[Av,Ea]
theorem Zo (o:List Nat)(off n d:Nat)(h:off+n<o.length):val (((o.set (off+n) d).drop off).take (n+1))=val ((o.drop off).take n)+1000000000^n*d:=by
 rw[Gy];have e1:((o.set (off+n) d).drop off).take n=(o.drop off).take n:=by
  rw[A1x,if_neg oV,L8 _ _ _ _ oV]
 have e2:(o.set (off+n) d).getD (off+n) 0=d:=by simp[As7,h]
 rw[e1,e2]
structure Pn (full:List Nat)(off n V:Nat)(o:List Nat):Prop where
 len:o.length=full.length
 low:Low o
 rest:val ((o.drop off).take (n+1))=val ((full.drop off).take (n+1))%V
 same:∀ j,j<off\/off+n<j->o.getD j 0=full.getD j 0
theorem Zp {full v o:List Nat}{off n q c:Nat}(hn:v.length=n)(hl:off+n<full.length)(h:K2 full v off q n o c)(hf:Low full)
 (hge:val ((full.drop off).take (n+1))/val v<=q) (hpos:0<val v) (hc:c<=full.getD (off+n) 0) :
 q=val ((full.drop off).take (n+1))/val v/\Pn full off n (val v) (o.set (off+n) (full.getD (off+n) 0-c)):=by
 have hs:=h.sum;rw[<-hn,At9,hn]at hs;have hU:=Gy full off n;have hset:=Zo o off n (full.getD (off+n) 0-c) (by rw[h.len];exact hl);have hlow:=hf.getD (off+n);generalize hu:full.getD (off+n) 0=u at *
 generalize hUU:val ((full.drop off).take (n+1))=U at *
 generalize val v=V at *
 generalize val ((full.drop off).take n)=x at *
 generalize val ((o.drop off).take n)=y at *
 have hpm:1000000000^n*u=1000000000^n*c+1000000000^n*(u-c):=by rw[<-Aui];congr 1;omega
 have hUq:U=q*V+(y+1000000000^n*(u-c)):=by
  generalize 1000000000^n*(u-c)=a at *
  generalize 1000000000^n*c=b at *
  generalize 1000000000^n*u=d at *
  omega
 have hq:q=U/V:=by
  refine Az3 ?_ hge;rw[Awn hpos];omega
 refine⟨hq,by simp[h.len],h.low.set _ oV,?_,fun j hj=>?_⟩
 ·rw[hset,hUU];have:=Avf U V;rw[<-hq,At7]at this;generalize 1000000000^n*(u-c)=a at *
  omega
 ·rw[Fi _ _ oV];exact h.same j oV
theorem Ahx {full v o o2:List Nat}{off n q c cb:Nat}(hn:v.length=n)(hl:off+n<full.length)(h:K2 full v off q n o c)
 (hge:q<=val ((full.drop off).take (n+1))/val v+1) (hpos:0<val v) (hv:val v<1000000000^n) (hc:full.getD (off+n) 0<c) (hb:Lt o v off n o2 cb) :
 q=val ((full.drop off).take (n+1))/val v+1/\full.getD (off+n) 0+cb=c/\Pn full off n (val v) (o2.set (off+n) 0):=by
 have hs:=h.sum;have hs2:=hb.sum;rw[<-hn,At9,hn]at hs hs2;have hU:=Gy full off n;have hset:=Zo o2 off n 0 (by rw[hb.len,h.len];exact hl);have hy:=Ff (h.low.drop off) n;have hz:=Ff (hb.low.drop off) n;have hdm:=Avf (val ((full.drop off).take (n+1))) (val v);have hml:=Au3 (val ((full.drop off).take (n+1))) hpos;generalize full.getD (off+n) 0=u at *
 generalize hUU:val ((full.drop off).take (n+1))=U at *
 generalize val v=V at *
 generalize val ((full.drop off).take n)=x at *
 generalize val ((o.drop off).take n)=y at *
 generalize val ((o2.drop off).take n)=z at *
 have hbc:=hb.carry;obtain⟨k,rfl⟩:∃ k,c=u+1+k:=⟨c-u-1,oV⟩;have hm:1000000000^n*(u+1+k)=1000000000^n*u+1000000000^n+1000000000^n*k:=by rw[Aui,Aui,Ayl]
 have hk0:1000000000^n*0<=1000000000^n*k:=Aul _ (Atu _);rw[hm]at hs;generalize hP:1000000000^n=P at *
 have hlt:U<q*V:=by
  generalize P*u=a at *
  generalize P*k=b at *
  omega
 have hq:q=U/V+1:=by
  refine Az3 hge ?_;exact (Au4 hpos).2 hlt
 have hqV:q*V=V*(U/V)+V:=by rw[hq,At2,Avm,At7]
 have hR:z+P*cb=U%V+P+P*k:=by
  generalize P*u=a at *
  generalize P*k=b at *
  generalize P*cb=d at *
  generalize V*(U/V)=f at *
  omega
 have hcb:cb=1:=by
  rcases At5 cb with h0|h0
  ·subst h0;rw[Avw]at hR;generalize P*k=b at *
   omega
  ·omega
 subst hcb;rw[Ayl]at hR;have hk:k=0:=by
  rcases At5 k with h0|h0
  ·exact h0
  ·have:P*1<=P*k:=Aul _ h0;generalize P*k=b at *
   omega
 subst hk;refine⟨hq,oV,by simp[hb.len,h.len],hb.low.set _ oV,?_,fun j hj=>?_⟩
 ·rw[hset,hUU,Avw,Avb];rw[Avw]at hR;omega
 ·rw[Fi _ _ oV,hb.same j oV];exact h.same j oV
structure Mg (A V n m:Nat)(j:Nat)(u qs:List Nat):Prop where
 ulen:u.length=m+n
 qlen:qs.length=m
 ulow:Low u
 qlow:Low qs
 less:val (u.drop j)<V
 sum:val u+1000000000^j*(val (qs.drop j)*V)=A
 zero:∀ k,j+n<=k->u.getD k 0=0
theorem G2 {j k:Nat}(h:∀ i,j+k<=i->u.getD i 0=0):val ((u.drop j).take k)=val (u.drop j):=by
 have hz:val ((u.drop j).drop k)=0:=by
  have:∀ (l:List Nat),(∀ i,l.getD i 0=0)->val l=0:=by
   intro l;induction l with
   |nil=>intro _;rfl
   |cons d l ih =>
    intro hl;have h0:d=0:=by simpa using hl 0
    have h1:=ih (fun i=>by simpa using hl (i+1));simp[val,h0,h1]
  refine this _ (fun i=>?_);rw[Ea,Ea];exact h _ oV
 by_cases hk:k<=(u.drop j).length
 ·have:=Fj (u.drop j) k hk;rw[hz]at this;omega
 ·rw[Atp oV]
theorem Z5 (hj:j<u.length):val (u.drop j)=u.getD j 0+1000000000*val (u.drop (j+1)):=by
 rw[B5 u j hj];rfl
theorem Mg.before (h:Mg A V n m (j+1) u qs)(hj:j<m) :
 val ((u.drop j).take (n+1))<1000000000*V:=by
 rw[G2 (fun i hi=>h.zero i oV),Z5 (by have:=h.ulen;omega)];have:=h.less;have:=h.ulow.getD j;omega
theorem Mg.step {A V n m j:Nat}{u u' qs:List Nat}(h:Mg A V n m (j+1) u qs)(hj:j<m)(hV:0<V)(hVn:V<1000000000^n)
 (hs:Pn u j n V u') (hq:val ((u.drop j).take (n+1))/V<1000000000) :
 Mg A V n m j u' (qs.set j (val ((u.drop j).take (n+1))/V)):=by
 have hrest:=hs.rest;have hml:=Au3 (val ((u.drop j).take (n+1))) hV;have htop:u'.getD (j+n) 0=0:=by
  have:=Gy u' j n;rcases At5 (u'.getD (j+n) 0) with h0|h0
  ·exact h0
  ·have:1000000000^n*1<=1000000000^n*u'.getD (j+n) 0:=Aul _ h0;omega
 have hzero:∀ k,j+n<=k->u'.getD k 0=0:=by
  intro k hk;by_cases e:k=j+n
  ·rw[e];exact htop
  ·rw[hs.same k oV];exact h.zero k oV
 have hd':val (u'.drop j)=val ((u.drop j).take (n+1))%V:=by
  rw[<-hrest,G2 (fun i hi=>hzero i oV)]
 refine⟨by rw[hs.len];exact h.ulen,by simp[h.qlen],hs.low,h.qlow.set _ hq,by rw[hd'];exact hml,?_,hzero⟩;have hsum:=h.sum;have e1:=Fj u j (by have:=h.ulen;omega);have e2:=Fj u' j (by have:=h.ulen;have:=hs.len;omega);have e3:u'.take j=u.take j:=by
  apply List.ext_getElem?;intro i;rw[Avu,Avu];split
  ·rename_i hi;have:=hs.same i (Or.inl hi);have l1:i<u'.length:=by have:=h.ulen;have:=hs.len;omega
   have l2:i<u.length:=by have:=h.ulen;omega
   simp[As7,l1,l2]at this⊢;exact this
  ·rfl
 have e4:val ((u.drop j).take (n+1))=val (u.drop j):=G2 (fun i hi=>h.zero i oV);have e5:val ((qs.set j (val ((u.drop j).take (n+1))/V)).drop j)=val ((u.drop j).take (n+1))/V+1000000000*val (qs.drop (j+1)):=by
  rw[B5 _ j (by simp[h.qlen,hj]),Ay5 oV];have:(qs.set j (val ((u.drop j).take (n+1))/V)).getD j 0=val ((u.drop j).take (n+1))/V:=by
   simp[As7,h.qlen,hj]
  rw[this];rfl
 rw[e5,e2,e3,hd',e4];rw[e1,Auc]at hsum;have hdm:=Avf (val (u.drop j)) V;generalize val (u.drop j)/V=q at *
 generalize val (u.drop j)%V=r at *
 generalize val (u.take j)=x at *
 generalize val (qs.drop (j+1))=y at *
 generalize 1000000000^j=p at *
 rw[<-hdm]at hsum;rw[<-hsum,At2,Aui,Aui,At7 V q];rw[show p*1000000000*(y*V)=p*(1000000000*y*V) by rw[Atz,Atz]];omega
theorem Mg.done (h:Mg A V n m 0 u qs)(hV:0<V):val qs=A/V/\val u=A%V:=by
 have hs:=h.sum;have hl:=h.less;simp only[Aw4,A0z,Avm]at hs hl;rw[<-hs];constructor
 ·rw[Nat.add_mul_div_right _ _ hV,Aw1 hl,Aud]
 ·rw[Nat.add_mul_mod_self_right,Axg hl]
end
section
variable {a b w wr:World}{base g n:Nat}{e:TypeId}{o:List Nat}{r:Option Nat}
theorem Sp (w:World)(r:Option Nat):w.grownBy w r:=⟨rfl,rfl,rfl,Atb _,fun _ _ _=>rfl⟩
theorem Q0 {a b c:World}(h:a.grownBy b r)(k:b.grownBy c r):a.grownBy c r :=
 ⟨k.os.trans h.os,k.tape.trans h.tape,k.output.trans h.output,As9 h.size k.size,fun i hi hr=>(k.block i (Auf hi h.size) hr).trans (h.block i hi hr)⟩
theorem Aab (h:a.grownBy b r)(n:Nat):a.grownBy (b.drewN n) r:=by
 obtain⟨h1,h2,h3,h4,h5⟩:=h;exact⟨h1,h2,h3,h4,h5⟩
def Fe (w:World)(g:Nat)(a:Option Addr)(cs:List Value):Prop:=Row w a cs/\∀ b off,a=some ⟨b,off,none⟩->b≠g
theorem Fe.grown {w w':World}{a:Option Addr}{cs:List Value}(h:Fe w g a cs)(hg:w.grownBy w' (some g)):Fe w' g a cs:=by
 refine⟨fun j hj=>?_,h.2⟩;obtain⟨b,off,h1,h2⟩:=h.1 j hj;exact⟨b,off,h1,hg.cell h2 (by simp;exact h.2 b off h1)⟩
def Am3 (w:World)(base g N:Nat)(full:List Nat)(off n V:Nat)(e:Ending)(w':World):Prop :=
 ∃ o,e=.returned (.int .u64 ((val ((full.drop off).take (n+1))/V:Nat):Int))/\Pn full off n V o /\
  w'.ownsRow base 236 1 (.slice (some ⟨g,0,none⟩) N N) N (Ay o)/\w.grownBy w' (some g)
def Ai7 (w:World)(v1 top V U:Nat)(q r:Value)(wr:World):Prop :=
 ∃ qq rr:Nat,q=.int .u64 (qq:Int)/\r=.int .u64 (rr:Int)/\P0 v1 top V U qq rr/\rr<2000000000/\∃ d,wr=w.drewN d
def Aou (w:World)(base g N:Nat)(full m:List Nat)(off q n:Nat)(c i:Value)(wr:World):Prop :=
 ∃ (k:Nat) (o:List Nat) (cc:Nat),k<=n/\i=.int .i64 k/\c=.int .u64 (cc:Int)/\K2 full m off q k o cc /\
  wr.ownsRow base 236 1 (.slice (some ⟨g,0,none⟩) N N) N (Ay o)/\w.grownBy wr (some g)
def Ao8 (w:World)(base g N:Nat)(full m:List Nat)(off n:Nat)(c i:Value)(wr:World):Prop :=
 ∃ (k:Nat) (o:List Nat) (cc:Nat),k<=n/\i=.int .i64 k/\c=.int .u64 (cc:Int)/\Lt full m off k o cc /\
  wr.ownsRow base 236 1 (.slice (some ⟨g,0,none⟩) N N) N (Ay o)/\w.grownBy wr (some g)
theorem F2 {n j:Nat}(h:wr.ownsRow base e 1 (.slice (some ⟨g,0,none⟩) n n) n (Ay o))(hj:j<o.length) :
 wr.cell? ⟨g,j,none⟩=some (.int .u64 (o.getD j 0:Nat)):=by
 obtain⟨b,off,h1,h2⟩:=(Row.of_owns h).at hj;obtain⟨rfl,rfl⟩:=h1;rw[Aud]at h2;exact h2
theorem K7 (j d:Nat)(h:wr.ownsRow base e 1 (.slice (some ⟨g,0,none⟩) n n) n (Ay o))(x:w.grownBy wr (some g)) :
 (wr.setCell ⟨g,j,none⟩ (.int .u64 (d:Int))).ownsRow base e 1 (.slice (some ⟨g,0,none⟩) n n) n (Ay (o.set j d)) /\
  w.grownBy (wr.setCell ⟨g,j,none⟩ (.int .u64 (d:Int))) (some g):=by
 have:=h.stored j (.int .u64 (d:Int));rw[U3]at this;exact⟨this.1,Q0 x this.2⟩
theorem Ai1 {u c b:Nat}(h:u+c=b):IntKind.u64.wrap ((u:Int)+IntKind.u64.wrap ((c:Int)-b))=((0:Nat):Int):=by
 have e:∀ n:Int,IntKind.u64.wrap n=n%18446744073709551616:=fun n=>by simp[IntKind.wrap,IntKind.signed,IntKind.bits]
 rw[e,e];omega
set_option maxRecDepth 100000 in
theorem Ag7 (base g N off n cu:Nat)(b:Option Addr)(cb:Nat)(full m:List Nat)(w:World)
 (hown:w.ownsRow base 236 1 (.slice (some ⟨g,0,none⟩) N N) N (Ay full)) (hv:Fe w g b (Ay m)) (hfl:full.length=N)
 (lf:Low full) (lm:Low m) (hm:m.length=n+2) (hN:off+(n+2)<N) (hNN:N<=30000000000000) (hcu:n+3<=cu)
 (hv1:500000000<=m.getD (n+1) 0) (hU:val ((full.drop off).take (n+3))<1000000000*val m) :
 Calls prog 232 #[.slice (some ⟨g,off,none⟩) (n+3) cu,.slice b (n+2) cb] w (Am3 w base g N full off (n+2) (val m)):=by
 have hp:=Acw hm lf lm hv1 hU;obtain⟨bv,ov,rfl,hcv1⟩:=hv.1.at (j:=n+1) oV;have hcv2:w.cell? ⟨bv,ov+n,none⟩=some (.int .u64 (m.getD n 0:Nat)):=by
  obtain⟨b',off',h1,h2⟩:=hv.1.at (j:=n) oV;simp only[Atd,Addr.mk.injEq,and_true]at h1;obtain⟨rfl,rfl⟩:=h1;exact h2
 have hcu0:=F2 hown (j:=off+(n+2)) oV;have hcu1:=F2 hown (j:=off+(n+1)) oV;have hcu2:=F2 hown (j:=off+n) oV;obtain⟨v1,hv1e⟩:∃ x,x=m.getD (n+1) 0:=⟨_,rfl⟩;obtain⟨v2,hv2e⟩:∃ x,x=m.getD n 0:=⟨_,rfl⟩;obtain⟨u0,hu0e⟩:∃ x,x=full.getD (off+(n+2)) 0:=⟨_,rfl⟩;obtain⟨u1,hu1e⟩:∃ x,x=full.getD (off+(n+1)) 0:=⟨_,rfl⟩;obtain⟨u2,hu2e⟩:∃ x,x=full.getD (off+n) 0:=⟨_,rfl⟩;rw[<-hv1e,<-hv2e,<-hu0e,<-hu1e,<-hu2e]at hp;rw[<-hv1e]at hcv1 hv1;rw[<-hv2e]at hcv2;rw[<-hu0e]at hcu0;rw[<-hu1e]at hcu1;rw[<-hu2e]at hcu2;have b1:=hp.v1low;have b2:=hp.v2low;have b3:=hp.u2low;have b4:u0<1000000000:=by rw[hu0e];exact lf.getD _
 have b5:u1<1000000000:=by rw[hu1e];exact lf.getD _
 have b6:((v1:Int)==0)=false:=gV
 have HP:=As8 hp;have HO:=As8 hown;have HV:=As8 hv;have LF:=As8 lf;have LM:=As8 lm;have HM:=As8 hm;have HFL:=As8 hfl;have E0:=As8 hu0e;clear hp hown hv lf lm hm hfl hv1e hv2e hu0e hu1e hu2e hU
 go_enter func232,ntmps232
 go_wp2_with fail
 go_quiet (fail)
 go_wp2_with fail
 go_quiet (fail)
 go_wp2_with fail
 rw[show ((u0:Int)*1000000000+u1)/v1=(((u0*1000000000+u1)/v1:Nat):Int) by simp,show ((u0:Int)*1000000000+u1)%v1=(((u0*1000000000+u1)%v1:Nat):Int) by simp]
 go_loopw [7,8] (Ai7 w v1 (u0*1000000000+u1) (val m) (val ((full.drop off).take (n+3)))) (fun _ r _=>(1000000000-intOf r).toNat)
 case atStart =>
  have hlt:=Au3 (u0*1000000000+u1) (show 0<v1 by omega);exact⟨_,_,rfl,rfl,P0.start HP.out,oV,_,Azk _ _ _⟩
 case round =>
  obtain⟨qq,rr,rfl,rfl,ht,hr2,d,rfl⟩:=hrel;have HT:=As8 ht;have hq2:=ht.qle;clear ht;obtain⟨p,hp⟩:∃ p,p=qq*v2:=⟨_,rfl⟩;have hp1:p<=2000000000*999999999:=by rw[hp];exact Aut oV oV
  have hp2:((qq:Int)*v2)=p:=by rw[hp];exact (Aws _ _).symm
  have PP:=As8 hp;clear hp;by_cases hcont:rr<1000000000/\(1000000000<=qq\/rr*1000000000+u2<p)
  ·have hstep:=HT.out.step HP.out (by rw[<-PP.out];exact hcont.2);have HST:=As8 hstep;have hq0:=hstep.1;clear hstep;obtain⟨hc1,hc2⟩:=hcont;have d1:decide ((rr:Int)<1000000000)=true:=gV
   by_cases hc3:1000000000<=qq
   ·have d2:decide ((1000000000:Int)<=qq)=true:=gV
    clear hc2
    go_wp2_with fail
    go_quiet (fail)
    go_wp2_with fail
    exact⟨⟨qq-1,rr+v1,by go_num,by go_num,HST.out.2,oV,_,rfl⟩,by simp only[intOf];omega⟩
   ·have d2:decide ((1000000000:Int)<=qq)=false:=gV
    have d3:decide ((rr:Int)*1000000000+u2<p)=true:=gV
    clear hc2
    go_wp2_with fail
    go_quiet (fail)
    go_wp2_with fail
    exact⟨⟨qq-1,rr+v1,by go_num,by go_num,HST.out.2,oV,_,rfl⟩,by simp only[intOf];omega⟩
  ·have hfin:=HT.out.done HP.out (by rw[<-PP.out];exact hcont);have HF:=As8 hfin;have hqB:=hfin.1;clear hfin;have hsplit:(decide ((rr:Int)<1000000000)=false)\/(decide ((rr:Int)<1000000000)=true/\decide ((1000000000:Int)<=qq)=false/\decide ((rr:Int)*1000000000+u2<p)=false):=by
    simp only[decide_eq_false_iff_not,decide_eq_true_eq];omega
   clear hcont;rcases hsplit with d1|⟨d1,d2,d3⟩;all_goals
    go_wp2_with fail
    go_quiet (fail)
    go_wp2_with fail
    go_loopw [9,80] (Aou w base g N full m off qq (n+2)) (fun _ i _=>(n+2)-(intOf i).toNat)
    case atStart=>exact⟨0,full,0,oV,rfl,rfl,K2.start _ _ _ _ LF.out,Na HO.out _,Aab (Sp _ _) _⟩
    case round =>
     obtain⟨k,o,cc,hk,rfl,rfl,hst,hown,hgr⟩:=hrel;have HS:=As8 hst;have HW:=As8 hown;have HG:=As8 hgr;have hcc:=hst.carry;have hlo:N<=o.length:=by have:=hst.len;have:=HFL.out;omega
     clear hst hown hgr d1 hcv1 hcv2 hcu0 hcu1 hcu2 hp2 hp1;by_cases hlt:k<n+2
     ·obtain⟨x,hx⟩:∃ x,x=m.getD k 0:=⟨_,rfl⟩;obtain⟨y,hy⟩:∃ y,y=o.getD (off+k) 0:=⟨_,rfl⟩;have hx1:x<1000000000:=by rw[hx];exact LM.out.getD k
      have hy1:y<1000000000:=by rw[hy];exact HS.out.low.getD _
      have hcx:wr.cell? ⟨bv,ov+k,none⟩=some (.int .u64 (x:Int)):=by
       obtain⟨b',off',h1,h2⟩:=(HV.out.grown HG.out).1.at (j:=k) (by rw[HM.out];exact hlt);simp only[Atd,Addr.mk.injEq,and_true]at h1;obtain⟨rfl,rfl⟩:=h1;rw[hx];exact h2
      have hcy:=F2 HW.out (j:=off+k) oV;have hfy:=HW.out.frozenAt (off+k);rw[<-hy]at hcy;have XX:=As8 hx;have YY:=As8 hy;clear hx hy;obtain⟨p2,hp2⟩:∃ p2,p2=qq*x:=⟨_,rfl⟩;have hp21:p2<=999999999*999999999:=by rw[hp2];exact Aut oV oV
      have hp22:((qq:Int)*x)=p2:=by rw[hp2];exact (Aws _ _).symm
      have PP2:=As8 hp2;clear hp2;by_cases hy2:y<(p2+cc)%1000000000
      ·have d4:decide ((y:Int)<((p2:Int)+cc)%1000000000)=true:=gV
       go_wp2_with fail
       rw[show (y:Int)+1000000000=((y+1000000000:Nat):Int) by omega,show ((y+1000000000:Nat):Int)-((p2:Int)+cc)%1000000000=((y+1000000000-(p2+cc)%1000000000:Nat):Int) by omega,show ((p2:Int)+cc)/1000000000+1=(((p2+cc)/1000000000+1:Nat):Int) by omega];have hs1:=K7 (off+k) (y+1000000000) HW.out HG.out;have hs2:=K7 (off+k) (y+1000000000-(p2+cc)%1000000000) hs1.1 hs1.2;rw[List.set_set]at hs2;refine⟨⟨k+1,_,_,oV,by go_num,rfl,?_,hs2.1,hs2.2⟩,by simp only[intOf];omega⟩;exact HS.out.step (by have:=HFL.out;omega) XX.out YY.out oV oV (by rw[<-PP2.out];omega)
      ·have d4:decide ((y:Int)<((p2:Int)+cc)%1000000000)=false:=gV
       go_wp2_with fail
       rw[show (y:Int)-((p2:Int)+cc)%1000000000=((y-(p2+cc)%1000000000:Nat):Int) by omega,show ((p2:Int)+cc)/1000000000=(((p2+cc)/1000000000:Nat):Int) by omega];have hs2:=K7 (off+k) (y-(p2+cc)%1000000000) HW.out HG.out;refine⟨⟨k+1,_,_,oV,by go_num,rfl,?_,hs2.1,hs2.2⟩,by simp only[intOf];omega⟩;exact HS.out.step (by have:=HFL.out;omega) XX.out YY.out oV oV (by rw[<-PP2.out];omega)
     ·obtain rfl:k=n+2:=oV
      have hcy:=F2 HW.out (j:=off+(n+2)) oV;have hfy:=HW.out.frozenAt (off+(n+2));rw[HS.out.same _ (Or.inr (Atb _)),<-E0.out]at hcy;have hVpos:=HP.out.pos;by_cases hen:cc<=u0
      ·have hd:=Zp HM.out (by rw[HFL.out];exact hN) HS.out LF.out HF.out.2.1 hVpos (by rw[<-E0.out];exact hen);rw[<-E0.out]at hd;have HD:=As8 hd;clear hd hVpos
       go_wp2_with fail
       go_ret
       rw[show (u0:Int)-cc=((u0-cc:Nat):Int) by omega];have hs2:=K7 (off+(n+2)) (u0-cc) HW.out HG.out;exact⟨_,by rw[<-HD.out.1];rfl,HD.out.2,hs2.1,hs2.2⟩
      ·have hlow:=HS.out.low;have LO:=As8 hlow;have VP:=As8 hVpos;clear hlow hVpos hcy hfy;obtain⟨wo,hwo⟩:∃ wo:World,wo=wr:=⟨_,rfl⟩;subst hwo;have hcy:=F2 HW.out (j:=off+(n+2)) oV;rw[HS.out.same _ (Or.inr (Atb _)),<-E0.out]at hcy
       go_wp2_with fail
       go_loopw [14,132] (Ao8 w base g N o m off (n+2)) (fun _ i _=>(n+2)-(intOf i).toNat)
       case atStart=>exact⟨0,o,0,oV,rfl,rfl,Lt.start _ _ _ LO.out,HW.out,HG.out⟩
       case round =>
        obtain⟨k,o2,cb2,hk,rfl,rfl,hst2,hown2,hgr2⟩:=hrel;have HS2:=As8 hst2;have HW2:=As8 hown2;have HG2:=As8 hgr2;have hcb2:=hst2.carry;have hlo2:N<=o2.length:=by have:=hst2.len;omega
        clear hst2 hown2 hgr2 hcy;by_cases hlt:k<n+2
        ·obtain⟨x,hx⟩:∃ x,x=m.getD k 0:=⟨_,rfl⟩;obtain⟨y,hy⟩:∃ y,y=o2.getD (off+k) 0:=⟨_,rfl⟩;have hx1:x<1000000000:=by rw[hx];exact LM.out.getD k
         have hy1:y<1000000000:=by rw[hy];exact HS2.out.low.getD _
         have hcx:wr.cell? ⟨bv,ov+k,none⟩=some (.int .u64 (x:Int)):=by
          obtain⟨b',off',h1,h2⟩:=(HV.out.grown HG2.out).1.at (j:=k) (by rw[HM.out];exact hlt);simp only[Atd,Addr.mk.injEq,and_true]at h1;obtain⟨rfl,rfl⟩:=h1;rw[hx];exact h2
         have hcy:=F2 HW2.out (j:=off+k) oV;have hfy:=HW2.out.frozenAt (off+k);rw[<-hy]at hcy;have XX:=As8 hx;have YY:=As8 hy;clear hx hy
         go_wp2_with fail
         rw[show ((y:Int)+x+cb2)%1000000000=(((y+x+cb2)%1000000000:Nat):Int) by omega,show ((y:Int)+x+cb2)/1000000000=(((y+x+cb2)/1000000000:Nat):Int) by omega];have hs2:=K7 (off+k) ((y+x+cb2)%1000000000) HW2.out HG2.out;refine⟨⟨k+1,_,_,oV,by go_num,rfl,?_,hs2.1,hs2.2⟩,by simp only[intOf];omega⟩;exact HS2.out.step LM.out (by have:=HFL.out;have:=HS.out.len;omega) XX.out YY.out
        ·obtain rfl:k=n+2:=oV
         have hb:=Ahx HM.out (by rw[HFL.out];exact hN) HS.out HF.out.2.2 VP.out (by have:=I8 LM.out;rw[HM.out]at this;exact this) (by rw[<-E0.out];omega) HS2.out;rw[<-E0.out]at hb;have hsum:=hb.2.1;have hcy:=F2 HW2.out (j:=off+(n+2)) oV;have hfy:=HW2.out.frozenAt (off+(n+2));rw[HS2.out.same _ (Or.inr (Atb _)),HS.out.same _ (Or.inr (Atb _)),<-E0.out]at hcy;have hq1:1<=qq:=by rw[hb.1];exact Nat.le_add_left 1 _
         have HB:=As8 hb;have HSUM:=As8 hsum;clear hb hsum
         go_wp2_with fail
         go_ret
         rw[Ai1 HSUM.out];have hs2:=K7 (off+(n+2)) 0 HW2.out HG2.out;refine⟨_,?_,HB.out.2.2,hs2.1,hs2.2⟩;refine congrArg (fun z:Int=>Ending.returned (.int .u64 z)) (a₁:=(qq:Int)-1) ?_;have:=HB.out.1;omega
end
section
variable {f k m n:Nat}
structure Anx (n k f:Nat):Prop where
 len:nl n=k+2
 pos:1<=f
 low:f<1000000000
 vlen:nl (n*f)=k+2
 vtop:500000000<=(Aa (n*f)).getD (k+1) 0
 fle:f*1000000000^(k+1)<=n*f
theorem Ae7 (n k:Nat)(h:nl n=k+2):n=val ((Aa n).take (k+1))+1000000000^(k+1)*(Aa n).getD (k+1) 0:=by
 have:=Av (Aa n) (k+1);rw[Atp (show (Aa n).length<=k+1+1 from Nat.le_of_eq h),Ai]at this;exact this
theorem Anh (n k:Nat)(h:nl n=k+2):1<=(Aa n).getD (k+1) 0:=by
 have hne:n≠0:=by intro e;rw[e,Rw]at h;omega
 have:=Nc hne;have hl:(Aa n).length=k+2:=h;rw[hl]at this;simp only[Avv,show k+2-1=k+1 from rfl]at this;omega
theorem Anx.make (h:nl n=k+2):Anx n k (1000000000/((Aa n).getD (k+1) 0+1)):=by
 have h1:=Anh n k h;have h2:=(Am n).getD (k+1);have hn:=Ae7 n k h;have hlt:=Ff (Am n) (k+1);generalize (Aa n).getD (k+1) 0=b at *
 have hdm:=Avf 1000000000 (b+1);have hml:=Au3 1000000000 (show 0<b+1 by omega);generalize hf:1000000000/(b+1)=f at *
 generalize 1000000000%(b+1)=r at *
 have hf1:1<=f:=by
  rcases At5 f with h0|h0
  ·rw[h0,Avw]at hdm;omega
  ·exact h0
 have hf2:f<1000000000:=by
  have:(1+1)*f<=(b+1)*f:=Ats _ oV;omega
 have hbf:b*f+f+r=1000000000:=by rw[At2,Avm]at hdm;exact hdm
 have hbf2:b+f<=b*f+1:=by
  obtain⟨x,rfl⟩:∃ x,b=x+1:=⟨b-1,oV⟩;obtain⟨y,rfl⟩:∃ y,f=y+1:=⟨f-1,oV⟩;rw[At2,Aui,Avm,Ayl];have:0<=x*y:=Atu _;omega
 have hbig:500000000<=b*f:=oV
 generalize hx:val ((Aa n).take (k+1))=x at *
 generalize hP:1000000000^(k+1)=P at *
 have hPn:P<=n:=by
  have:P*1<=P*b:=Aul _ h1;omega
 have hup:n*f<P*1000000000:=by
  have e1:n<P*(b+1):=by rw[Aui,Ayl];omega
  have e2:n*f<P*(b+1)*f:=A0o e1 oV;have e3:P*(b+1)*f<=P*1000000000:=by rw[Atz];exact Aul _ oV
  omega
 have hlo:P<=n*f:=by
  have:n*1<=n*f:=Aul _ hf1;omega
 have hvl:nl (n*f)=k+2:=by
  refine Az3 (A0 (by rw[show k+2=k+1+1 from rfl,Auc,hP];exact hup)) ?_;rcases At8 (nl (n*f)) (k+2) with h3|h3
  ·have h4:=Ck (n*f);have h5:1000000000^nl (n*f)<=1000000000^(k+1):=Atq oV oV;rw[hP]at h5;omega
  ·exact h3
 refine⟨h,hf1,hf2,hvl,?_,?_⟩
 ·have hv:=Ae7 (n*f) k hvl;have hvt:=Ff (Am (n*f)) (k+1);rw[hP]at hv hvt;generalize (Aa (n*f)).getD (k+1) 0=t at *
  have e1:P*(b*f)<=n*f:=by
   rw[<-Atz];exact Ats _ oV
  have e2:n*f<P*(t+1):=by rw[Aui,Ayl];omega
  have e3:P*(b*f)<P*(t+1):=oV
  have:=A0w e3;omega
 ·rw[At7 n];exact Aul _ (by rw[hP];exact hPn)
theorem Mg.start {m n k f M:Nat}(h:Anx n k f)(hM:nl m+1=M+(k+2)) :
 Mg (m*f) (n*f) (k+2) M M (Aa (m*f)++As6 (M+(k+2)-nl (m*f)) 0) (As6 M 0):=by
 have hl:nl (m*f)<=M+(k+2):=by
  rw[<-hM];refine As9 (Fu m f) (Nat.add_le_add_left ?_ _);exact A0 (by simpa using h.low)
 have hlen:(Aa (m*f)++As6 (M+(k+2)-nl (m*f)) 0).length=M+(k+2):=by
  rw[List.length_append,List.length_replicate];unfold nl at *;omega
 have hval:val (Aa (m*f)++As6 (M+(k+2)-nl (m*f)) 0)=m*f:=by
  rw[Oc,W4,Ai];omega
 refine⟨hlen,mV,(Am _).append (Low.zeros _),Low.zeros _,?_,?_,?_⟩
 ·have hs:=Fj (Aa (m*f)++As6 (M+(k+2)-nl (m*f)) 0) M oV;rw[hval]at hs;generalize val ((Aa (m*f)++As6 (M+(k+2)-nl (m*f)) 0).drop M)=y at *
  generalize val ((Aa (m*f)++As6 (M+(k+2)-nl (m*f)) 0).take M)=x at *
  have hm:=Ck m;rw[show nl m=M+(k+1) by omega,Aww]at hm;have hfle:=h.fle;have hpos:=h.pos;generalize 1000000000^(k+1)=P at *
  generalize 1000000000^M=Q at *
  have e1:m*f<Q*P*f:=A0o hm oV;have e2:Q*P*f=Q*(f*P):=by rw[Atz,At7 P]
  have e3:Q*y<Q*(f*P):=oV
  have:=A0w e3;omega
 ·rw[hval,Aue mV];simp[val]
 ·intro j hj;have:(Aa (m*f)++As6 (M+(k+2)-nl (m*f)) 0)[j]?=none:=Att oV;rw[As7,this];rfl
theorem Abg (hf:0<f):m*f/(n*f)=m/n/\m*f%(n*f)=(m%n)*f :=
 ⟨Nat.mul_div_mul_right m n hf,Nat.mul_mod_mul_right f m n⟩
end
section
variable {N base g k n:Nat}{e:TypeId}{w w':World}{xs:List Value}
def R9 (w:World)(m n:Nat)(e:Ending)(w':World):Prop:=∃ u v,e=.returned (.tuple #[u,v])/\Ci w' u m/\Ci w' v n/\Ext w w'
theorem Aei {m n:Nat}(h:n<=m):0<=sgn ((m:Int)-n):=by
 rcases At8 n m with h1|h1
 ·rw[Cf oV];omega
 ·rw[show (m:Int)-n=0 by omega,On];omega
set_option maxRecDepth 100000 in
theorem Z4 (va vb:Value)(m n:Nat)(w:World)(ha:Ci w va m)(hb:Ci w vb n)(sa:nl m<=10000000000000)(sb:nl n<=10000000000000)(hlt:m<n) :
 Calls prog 209 #[va,vb] w (R9 w 0 m):=by
 have HA:=As8 ha;have hc:=Gb va vb m n w ha hb sa sb;rw[Dc oV]at hc;have HC:=As8 hc
 go_enter func209,ntmps209
 go_wp2_with fail
 refine HC.out.mono ?_;rintro e w' ⟨rfl,q,rfl⟩
 go_wp2_with fail
 go_ret2
 exact⟨_,_,rfl,Ci.zero _ _ _,HA.out.ext ((Ext.refl w).drewN q),(Ext.refl w).drewN q⟩
theorem Ec {d:Nat}(h0:d≠0)(h:d<1000000000):Aa d = [d]:=by
 rw[Fg h0,show d/1000000000=0 by omega,Bb,show d%1000000000=d by omega]
theorem Afv (w1:World)(r:Nat):Row (w1.alloc (Obj.cells #[Auj IntKind.u64 (r:Int)] 236)) (some ⟨w1.heap.size,0,none⟩) (Ay [r]):=by
 intro j hj;obtain rfl:j=0:=by simp_all
 exact⟨_,_,rfl,by simp[Ay]⟩
set_option maxRecDepth 100000 in
theorem Yy (va vb:Value)(m n:Nat)(w:World)(ha:Ci w va m)(hb:Ci w vb n)(sa:nl m<=10000000000000)(hn0:0<n)(hn:n<1000000000)(hge:n<=m) :
 Calls prog 209 #[va,vb] w (R9 w (m/n) (m%n)):=by
 have hl:=Ec oV hn;have HA:=As8 ha;have hc:=Gb va vb m n w ha hb sa (by unfold nl;rw[hl];simp);obtain⟨s,hs⟩:∃ s,s=sgn ((m:Int)-n):=⟨_,rfl⟩;have hs0:0<=s:=by rw[hs];exact Aei hge
 have HC:=As8 hc;obtain⟨b,cb,rfl,_,hrow⟩:=hb;rw[hl]at hrow HC⊢;obtain⟨bb,ob,rfl,hcb⟩:=hrow.at (j:=0) mV;simp only[Avb]at hcb
 go_enter func209,ntmps209
 go_wp2_with fail
 refine HC.out.mono ?_;rintro e w' ⟨rfl,q,rfl⟩
 go_wp2_with fail
 have hsh:=Ow va m n _ (HA.out.ext ((Ext.refl w).drewN q)) sa hn0 hn;obtain⟨r,hr⟩:∃ r,r=m%n:=⟨_,rfl⟩;rw[<-hr]at hsh;have hrn:r<1000000000:=by rw[hr];have:=Au3 m hn0;omega
 have HR:=As8 hr;clear hr;refine hsh.mono ?_;rintro e w1 ⟨v,rfl,hv,hx⟩;have HV:=As8 hv;have HX:=As8 hx
 go_wp2_with fail
 have hrow:Row (w1.alloc (Obj.cells #[Auj IntKind.u64 (r:Int)] 236)) (some ⟨w1.heap.size,0,none⟩) (Ay [r]):=Afv w1 r;refine (F5 _ _ _ [r] _ rfl mV mV hrow).mono ?_;rintro e w' ⟨rfl,rfl⟩;have hnat:=Dg (cap:=1) (Low.cons hrn Low.nil) hrow (n:=r) (by simp[val]) mV;have HNAT:=As8 hnat
 go_wp2_with fail
 go_ret2
 have hx2:=(((Ext.refl w).drewN q).trans HX.out).alloc (Obj.cells #[Auj IntKind.u64 (r:Int)] 236);exact⟨_,_,rfl,HV.out.ext ((Ext.refl w1).alloc _),by rw[<-HR.out];exact HNAT.out,hx2⟩
def Yj (n:Nat):Array Value:=(Ay (As6 n 0)).toArray
theorem Tn (W:World)(N:Int)(n:Nat)(hN:N=n)(hn:n<=30000000000000) :
 (Instr.makeSlice 99 (.int .i64 N) (.int .i64 N)).run prog W=.ok (.slice (some ⟨W.heap.size,0,none⟩) n n) (W.alloc (.cells (Yj n) 236)):=by
 subst hN;obtain⟨i0,hi,hz0,hz1,hz2⟩:=info_parts Tryz.info236;have:=run_make (P:=prog) W 99 236 i0 (.int .u64 0) Tryz.underlying99 hi hz0 .i64 .i64 n n oV oV (by rw[hz2];omega) oV;rw[this,Avo,hz1];have e:madeCells (Auj .u64 0).cells (n*1)=Yj n:=by
  apply Array.ext';rw[Jr];rfl
 rw[e]
theorem Sf (W:World)(base n:Nat)(hb:base<=W.heap.size)(hn:n<=30000000000000) :
 (W.alloc (.cells (Yj n) 236)).ownsRow base 236 1 (.slice (some ⟨W.heap.size,0,none⟩) n n) n (Ay (As6 n 0)):=by
 have:=World.ownsRow_lit (e:=236) (size:=1) (base:=base) W (Yj n) n hb (by unfold maxLen;omega) (by simp[Yj]);exact this
def Yg (w:World)(B N V:Nat)(u v:Value)(wx:World):Prop :=
 ∃ g av nv cv,u=.slice (some ⟨g,0,none⟩) N N/\v=.slice av nv cv/\nv=nl V/\wx.ownsRow B 236 1 (.slice (some ⟨g,0,none⟩) N N) N (Ay (As6 N 0)) /\
  Fe wx g av (Ay (Aa V))/\Ext w wx/\w.heap.size<=g
theorem Ext.grownBy (h:Ext w w')(r:Option Nat):w.grownBy w' r:=⟨h.os,h.tape,h.output,h.size,fun k hk _=>Below.block h k hk⟩
theorem Tp {size g n cap k:Nat}(h:w.ownsRow base e size (.slice (some ⟨g,0,none⟩) n cap) k xs)(x:Ext w w') :
 w'.ownsRow base e size (.slice (some ⟨g,0,none⟩) n cap) k xs:=h.kept (x.grownBy none) (Or.inr (by simp[A3a]))
theorem Arm {W2 w3:World}{N V kk cap:Nat}(hN:N<=30000000000000)(hv:Ci w3 (.slice (some ⟨(W2.alloc (.cells (Yj N) 236)).drew.heap.size,0,none⟩) kk cap) V)
 (hx:Ext (W2.alloc (.cells (Yj N) 236)).drew w3) :
 Yg W2 W2.heap.size N V (.slice (some ⟨W2.heap.size,0,none⟩) N N) (.slice (some ⟨W2.heap.size+1,0,none⟩) kk cap) w3:=by
 have hs:(W2.alloc (.cells (Yj N) 236)).drew.heap.size=W2.heap.size+1:=mV
 rw[hs]at hv;obtain⟨a',c',e1,_,hr⟩:=hv;simp only[Atr]at e1;obtain⟨rfl,e2,rfl⟩:=e1;refine⟨W2.heap.size,_,_,_,rfl,rfl,e2,Tp (World.ownsRow.drew (Sf W2 _ N (Atb _) hN)) hx,⟨hr,?_⟩,(((Ext.refl W2).alloc _).drew).trans hx,Atb _⟩;intro b off hb;simp only[Atd,Addr.mk.injEq]at hb;omega
theorem Ard {W2 w3:World}{N V kk cap:Nat}(hN:N<=30000000000000)(hV:0<V)(hv:Ci w3 (.slice (some ⟨W2.drew.heap.size,0,none⟩) kk cap) V)(hx:Ext W2.drew w3) :
 Yg W2 W2.heap.size N V (.slice (some ⟨w3.heap.size,0,none⟩) N N) (.slice (some ⟨W2.heap.size,0,none⟩) kk cap) (w3.alloc (.cells (Yj N) 236)):=by
 have hs:W2.drew.heap.size=W2.heap.size:=rfl;obtain⟨a',c',e1,_,hr⟩:=hv;simp only[Atr]at e1;obtain⟨rfl,e2,rfl⟩:=e1;have hlt:W2.heap.size<w3.heap.size:=by
  obtain⟨b,off,h1,h2⟩:=hr.at (j:=0) (by
   have:Aa V≠[]:=fun e=>by have:=Fx.1 e;omega
   exact Avq.2 this)
  simp only[Atd,Addr.mk.injEq]at h1;have:=block_lt_of_cell h2;simp only at this;omega
 have hx2:Ext W2 w3:=((Ext.refl W2).drew).trans hx;refine⟨w3.heap.size,_,_,_,rfl,rfl,e2,Sf w3 _ N hx2.size hN,⟨hr.ext ((Ext.refl w3).alloc _),?_⟩,hx2.alloc _,hx2.size⟩;intro b off hb;simp only[Atd,Addr.mk.injEq]at hb;omega
theorem Nz (h:w.ownsRow base e 1 (.slice (some ⟨g,0,none⟩) n n) n xs) :
 w.heap[g]?=some (.cells xs.toArray e (0,0))/\base<=g:=by
 rcases h.2 with ⟨h',_⟩|⟨g',cap',cur,h',hb,hg,_,_,hsz,htake⟩
 ·grind
 ·obtain⟨rfl,rfl⟩:=h';rw[Atp gV]at htake;rw[<-htake];exact⟨by simpa using hg,hb⟩
theorem Ac3 (h:w.heap[g]?=some (.cells xs.toArray e (0,0)))(hb:base<=g)(hn:xs.length=n)(hm:n<=30000000000000) :
 w.ownsRow base e 1 (.slice (some ⟨g,0,none⟩) n n) n xs:=by
 refine⟨oV,Or.inr ⟨g,n,xs.toArray,rfl,hb,h,Atb _,by unfold maxLen;omega,gV,?_⟩⟩;rw[Atp gV]
theorem X8 (w:World)(g:Nat)(cs:Array Value):w.grownBy (w.setRow g cs) (some g) :=
 ⟨rfl,rfl,rfl,mV,fun k _ hk=>setRow_other w g k _ (fun e=>hk (by simp[e]))⟩
theorem Arv {l:List Nat}(h:w.ownsRow base 236 1 (.slice (some ⟨g,0,none⟩) N N) N (Ay (As6 N 0)))(hl:l.length<=N)(hN:N<=30000000000000) :
 (w.setRow g ((Ay (As6 N 0)).toArray.toList.take 0++(Ay l++(Ay (As6 N 0)).toArray.toList.drop (0+(Ay l).length))).toArray).ownsRow base 236 1 (.slice (some ⟨g,0,none⟩) N N) N
  (Ay (l++As6 (N-l.length) 0)):=by
 obtain⟨h1,h2⟩:=Nz h;have e:(Ay (As6 N 0)).toArray.toList.take 0++(Ay l++(Ay (As6 N 0)).toArray.toList.drop (0+(Ay l).length))=Ay (l++As6 (N-l.length) 0):=by
  simp[Ay]
 rw[e];exact Ac3 (setRow_heap w g _ _ _ _ h1) h2 gV hN
theorem Pi {w:World}{ops:Array Oper}{rest:List Oper}{o:Oper}{a:Act}{Q:Exit->Act->World->Prop}(hgd:o.guard=none)(d s:Operand)
 (ho:o.op=.call { callee:=.builtin .copy,args:=#[d,s],argTypes:=#[99,99] })
 (base g N sLen sCap:Nat) (ad:Addr) (l:List Nat) (hd:a.eval d=.slice (some ⟨g,0,none⟩) N N) (hs:a.eval s=.slice (some ad) sLen sCap)
 (hown:w.ownsRow base 236 1 (.slice (some ⟨g,0,none⟩) N N) N (Ay (As6 N 0))) (hl:l.length=sLen) (hN:N<=30000000000000) (hle:l.length<=N)
 (hsrc:Row w (some ad) (Ay l))
 (h:∀ w',w'.ownsRow base 236 1 (.slice (some ⟨g,0,none⟩) N N) N (Ay (l++As6 (N-l.length) 0))->w.grownBy w' (some g)->wpList prog ops Q rest (a.put o.dst (goInt (Ay l).length)) w') :
 wpList prog ops Q (o::rest) a w:=by
 obtain⟨i0,hi,hz0,hz1,hz2⟩:=info_parts Tryz.info236;refine wpList_copy_own hgd d s _ _ ho 236 Tryz.underlying99 (by rw[hi];simp[hz1]) g 0 N N ad sLen sCap hd hs (Ay (As6 N 0)).toArray 236 (Nz hown).1 (Ay l)
  (by rw[Q2,hl];exact (Av6 oV).symm) (fun j v hj=>?_) gV (fun v hv=>?_) (h _ (Arv hown hle hN) (X8 _ _ _))
 ·have hjl:j<l.length:=by
   rcases At8 j l.length with h|h
   ·exact h
   ·rw[Att (by simpa using h)]at hj;cases hj
  obtain⟨b',off',h1,h2⟩:=hsrc j (by simpa using hjl);simp only[Atd]at h1;subst h1;have:(⟨b',off',none⟩:Addr).add j=⟨b',off'+j,none⟩:=by
   unfold Addr.add;split
   ·grind
   ·rfl
  rw[this,h2,As7,hj];rfl
 ·obtain⟨x,_,rfl⟩:=List.mem_map.1 hv;rfl
def Aqz (w:World)(A V n M N g gq:Nat)(av:Option Addr)(i:Value)(wr:World):Prop :=
 ∃ (j:Nat) (u qs:List Nat),j<=M/\i=.int .i64 ((j:Int)-1)/\Mg A V n M j u qs /\
  wr.ownsRow w.heap.size 236 1 (.slice (some ⟨g,0,none⟩) N N) N (Ay u)/\wr.ownsRow w.heap.size 236 1 (.slice (some ⟨gq,0,none⟩) M M) M (Ay qs) /\
  Fe wr g av (Ay (Aa V))/\Fe wr gq av (Ay (Aa V))/\Ext w wr
theorem Fe.ext {w w':World}{g:Nat}{a:Option Addr}{cs:List Value}(h:Fe w g a cs)(x:Ext w w'):Fe w' g a cs:=⟨h.1.ext x,h.2⟩
theorem Fe.new {a:Option Addr}{cs:List Value}(h:Fe w g a cs)(hc:0<cs.length)(x:Ext w w'):Fe w' w.heap.size a cs:=by
 refine⟨h.1.ext x,fun b off hb=>?_⟩;obtain⟨b',off',h1,h2⟩:=h.1 0 hc;have:=block_lt_of_cell h2;rw[hb]at h1;simp only[Atd,Addr.mk.injEq]at h1;simp only at this;omega
theorem Api (h:w.ownsRow base e 1 (.slice (some ⟨g,0,none⟩) n n) k xs):g<w.heap.size:=(h.lt g rfl).2
theorem Ud {base e g g' n k:Nat}(h:w.ownsRow base e 1 (.slice (some ⟨g,0,none⟩) n n) k xs)(hg:w.grownBy w' (some g'))(hne:g≠g') :
 w'.ownsRow base e 1 (.slice (some ⟨g,0,none⟩) n n) k xs:=h.kept hg (Or.inr (by simp[A3a,hne]))
set_option maxRecDepth 100000 in
theorem Aad (va vb:Value)(m n k:Nat)(w:World)(ha:Ci w va m)(hb:Ci w vb n)(sa:nl m<=5000000000000)(hn:nl n=k+2)(hge:n<=m) :
 Calls prog 209 #[va,vb] w (R9 w (m/n) (m%n)):=by
 obtain⟨i0,hi,hz0,hz1,hz2⟩:=info_parts Tryz.info236;have HI:=As8 hi;have HZ0:=As8 hz0;have HZ1:=As8 hz1;have HZ2:=As8 hz2;clear hi hz0 hz1 hz2;have hnm:k+2<=nl m:=by rw[<-hn];exact Ct hge
 have hc:=Gb va vb m n w ha hb oV oV;obtain⟨s,hs⟩:∃ s,s=sgn ((m:Int)-n):=⟨_,rfl⟩;have hs0:0<=s:=by rw[hs];exact Aei hge
 rw[<-hs]at hc;have HC:=As8 hc;have HNP:Hid (0<n):=by
  rcases At5 n with h0|h0
  ·rw[h0,Rw]at hn;omega
  ·exact h0
 have HA:=As8 ha;have HB:=As8 hb;have hnorm:=Anx.make hn;obtain⟨a,ca,rfl,_,hrowa⟩:=ha;obtain⟨b,cb,rfl,_,hrow⟩:=hb;have hlen:(Aa n).length=k+2:=hn;have hlenm:(Aa m).length=nl m:=rfl;obtain⟨bb,ob,rfl,hcb⟩:=hrow.at (j:=k+1) oV;obtain⟨b1,hb1⟩:∃ b1,b1=(Aa n).getD (k+1) 0:=⟨_,rfl⟩;have hb1l:b1<1000000000:=by rw[hb1];exact (Am n).getD _
 rw[<-hb1]at hcb hnorm;rw[hlen]at HC HB⊢;rw[hlenm]at HC HA⊢;obtain⟨f,hf⟩:∃ f,f=1000000000/(b1+1):=⟨_,rfl⟩;rw[<-hf]at hnorm;obtain⟨L,hL⟩:∃ L,L=nl m:=⟨_,rfl⟩;rw[<-hL]at HC HA sa hnm⊢;have hfi:(1000000000:Int)/((b1:Int)+1)=(f:Int):=by rw[hf];simp
 have hf1:=hnorm.pos;have hf2:=hnorm.low;have HNM:=As8 hnorm;have HL:=As8 hL;have HF:=As8 hf;have hd0:decide (s<0)=false:=gV
 have hd1:(((k:Int)+2)==1)=false:=gV
 clear hc hrow hrowa hs hlen hlenm hnorm hb1 hL hf hn
 go_enter func209,ntmps209
 go_wp2_with fail
 refine HC.out.mono ?_;rintro e w' ⟨rfl,q,rfl⟩
 go_upto_region 7 with fail
 have x2:Ext w ((w.drewN q).alloc (Obj.cells #[Auj IntKind.u64 (f:Int)] 236)):=((Ext.refl w).drewN q).alloc _;have hfr:Ci ((w.drewN q).alloc (Obj.cells #[Auj IntKind.u64 (f:Int)] 236)) (.slice (some ⟨w.heap.size,0,none⟩) 1 1) f:=by
  refine⟨_,1,by rw[Ec oV hf2];rfl,by rw[Ec oV hf2];simp,?_⟩;rw[Ec oV hf2];exact Afv (w.drewN q) f
 have hfc:((w.drewN q).alloc (Obj.cells #[Auj IntKind.u64 (f:Int)] 236)).cell? ⟨w.heap.size,0,none⟩=some (.int .u64 (f:Int)):=World.cell?_alloc_new (w:=w.drewN q) _ _ _;generalize (w.drewN q).alloc (Obj.cells #[Auj IntKind.u64 (f:Int)] 236)=W2 at *
 have X2:=As8 x2;have HFR:=As8 hfr;have HFC:=As8 hfc;clear x2 hfr hfc HC
 go_cut [9,10] (Yg W2 W2.heap.size (L+1) (n*f))
 case first =>
  have hmk:=fun W:World=>Tn W ((L:Int)+1) (L+1) oV oV;have hmul:=fun (W:World) (x:Ext W2 W)=>Qj _ _ n f W (HB.out.ext (X2.out.trans x)) (HFR.out.ext x) (by rw[HNM.out.len];omega) (by unfold nl;rw[Ec oV hf2];simp);have HM:=As8 hmul;clear hmul;have hw1:IntKind.i64.wrap ((L:Int)+1)=(L:Int)+1:=IntWalk.i64_in _ oV
  go_region_with (first|(go_at_call 164;refine (HM.out _ ?_).mono ?_;(first|exact (Ext.refl _).drew|exact ((Ext.refl _).alloc _).drew|exact ((Ext.refl _).drew).alloc _);rintro e w3 ⟨kk,cap,rfl,hv,hx⟩))
  all_goals (try go_wp2_with fail)
  all_goals go_meet
  ·exact Arm oV hv hx
  ·exact Ard oV (Axa HNP.out oV) hv hx
 case rest =>
  obtain⟨g,av,nv,cv,rfl,rfl,hnv,hown,hvr,hx,hg⟩:=hcut;rw[HNM.out.vlen]at hnv;subst hnv;have HO:=As8 hown;have HV:=As8 hvr;have HX:=As8 hx;clear hown hvr hx
  go_wp2_with fail
  refine (Qj _ _ m f _ (HA.out.ext (X2.out.trans HX.out)) (HFR.out.ext HX.out) (by rw[<-HL.out];omega) (by unfold nl;rw[Ec oV hf2];simp)).mono ?_;rintro e w3 ⟨kk,cap,rfl,hv,hx⟩;obtain⟨au,cu,e1,_,hru⟩:=hv;simp only[Atr]at e1;obtain⟨rfl,e2,rfl⟩:=e1;have hlu:(Aa (m*f)).length<=L+1:=by
   have h1:=Fu m f;have h2:nl f<=1:=by unfold nl;rw[Ec oV hf2];simp
   rw[<-HL.out]at h1;unfold nl at h1 h2;omega
  have ho3:=Tp HO.out hx;have HO3:=As8 ho3;have HX3:=As8 hx;have HLU:=As8 hlu;have HE2:=As8 e2;have HRU:=As8 hru;clear ho3 hx hlu e2 hru;obtain⟨M,hM⟩:∃ M,M=L+1-(k+2):=⟨_,rfl⟩;have hM1:L+1=M+(k+2):=oV
  have HMM:=As8 hM;have HM1:=As8 hM1;have hM2:M<=L:=oV
  clear hM hM1
  go_wp2_with (first
   |(with_reducible refine Pi rfl (.tmp 49) (.tmp 52) rfl W2.heap.size g (L+1) kk _ ⟨wc.heap.size,0,none⟩ (Aa (m*f)) rfl rfl HO3.out HE2.out.symm oV HLU.out HRU.out ?_;intro w4 ho4 hg4;have HO4:=As8 ho4;have HG4:=As8 hg4;clear ho4 hg4;have X4:=As8 ((HX.out.trans HX3.out).grown HG4.out (fun k' hk'=>by cases hk';exact hg));have HV4:=As8 ((HV.out.ext HX3.out).grown HG4.out))
   |(at_make;refine wpList_make_full _ rfl _ _ 99 rfl W2.heap.size 236 i0 (.int .u64 0) 1 Tryz.underlying99 HI.out HZ0.out HZ1.out .i64 .i64 _ _ M rfl rfl (by have:=HMM.out;omega) (by have:=HMM.out;omega) (by rw[HZ2.out];omega) (by unfold maxLen;omega) X4.out.size ?_;intro w5 ho5 hg5;rw[Jr]at ho5;have HO5:=As8 ho5;have X5:Hid (Ext w4 w5):=(Ext.refl w4).grown hg5 (fun k' hk'=>by cases hk');clear ho5 hg5))
  have hgq:g≠w4.heap.size:=by have:=Api HO4.out;omega
  have hvlen:0<(Ay (Aa (n*f))).length:=by rw[Q2];have:=HNM.out.vlen;unfold nl at this;omega
  have HV5:=As8 (HV4.out.ext X5.out);have HQ5:=As8 (HV4.out.new hvlen X5.out);have HU5:=As8 (Tp HO4.out X5.out);have XX5:=As8 (X4.out.trans X5.out);generalize w4.heap.size=gq at *
  clear HO HV HO3 HX3 HRU HV4 HO4 HG4 X4 X5 hvlen
  go_loopw [12] (Aqz W2 (m*f) (n*f) (k+2) M (L+1) g gq av) (fun i _=>(intOf i+1).toNat)
  case atStart =>
   have hu5:=HU5.out;rw[show L+1-(Aa (m*f)).length=M+(k+2)-nl (m*f) by unfold nl;have:=HM1.out;omega]at hu5;exact⟨M,_,_,Atb _,rfl,Mg.start HNM.out (by rw[<-HL.out];exact HM1.out),hu5,HO5.out,HV5.out,HQ5.out,XX5.out⟩
  case round =>
   obtain⟨j,u,qs,hj,rfl,hst,hou,hoq,hvu,hvq,hx⟩:=hrel;have HS:=As8 hst;have HU:=As8 hou;have HQ:=As8 hoq;have HVU:=As8 hvu;have HVQ:=As8 hvq;have HXR:=As8 hx;clear hst hou hoq hvu hvq hx HV5 HQ5 HU5 XX5 HO5;rcases j with _|j
   ·have hdone:=HS.out.done (Axa HNP.out oV);rw[(Abg (m:=m) (n:=n) (show 0<f by omega)).1,(Abg (m:=m) (n:=n) (show 0<f by omega)).2]at hdone;have hul:u.length=L+1:=by rw[HS.out.ulen];exact HM1.out.symm
    have hrowu:=Row.of_owns HU.out;have hrowq:=Row.of_owns HQ.out;have hfc:=HXR.out.cell HFC.out;have hut:val (u.take (k+2))=(m%n)*f:=by
     rw[<-hdone.2];have:=G2 (u:=u) (j:=0) (k:=k+2) (fun i hi=>HS.out.zero i hi);simpa using this
    have HUT:=As8 hut;have HDN:=As8 hdone;have HRU:=As8 hrowu;have HRQ:=As8 hrowq;have HUL:=As8 hul;clear hdone hul hrowu hrowq hut;have hrt:Row wr (some ⟨g,0,none⟩) (Ay (u.take (k+2))):=by rw[<-V2];exact HRU.out.take _
    have hltk:(u.take (k+2)).length=k+2:=by rw[Atm,HUL.out];have:=HM1.out;omega
    obtain⟨X,hX⟩:∃ X,X=Value.slice (some ⟨g,0,none⟩) (Bl (u.take (k+2)) (u.take (k+2)).length) (L+1):=⟨_,rfl⟩;have hXn:Ci wr X ((m%n)*f):=by
     rw[hX];exact Dg (HS.out.ulow.take _) hrt HUT.out (by rw[hltk];have:=HM1.out;omega)
    have htr:∀ W,Ext wr W->Calls prog 172 #[.slice (some ⟨g,0,none⟩) (k+2) (L+1)] W fun e w'=>e=.returned X/\W=w':=fun W x=>by
     rw[hX];exact F5 _ _ _ _ W hltk oV (by have:=HM1.out;omega) (hrt.ext x)
    have hmn:nl ((m%n)*f)<=10000000000000:=by
     have h1:=Fu (m%n) f;have h2:nl f<=1:=by unfold nl;rw[Ec oV hf2];simp
     have h3:nl (m%n)<=nl m:=Ct (Nat.mod_le _ _);rw[<-HL.out]at h3;omega
    have hsh:∀ W,Ext wr W->Calls prog 231 #[X,.int .u64 f] W (Nm W (m%n) 0):=fun W x=>by
     have:=Ow X ((m%n)*f) f W (hXn.ext x) hmn oV hf2;rw[Nat.mul_div_cancel _ oV,Nat.mul_mod_left]at this;exact this
    have HTR:=As8 htr;have HSH:=As8 hsh;clear htr hsh hX hrt hltk hXn hmn;have hM3:M<=9223372036854775807:=oV
    have hqz:HQ=HQ:=rfl;clear hqz
    go_wp2_with fail
    go_region_with (first
     |(go_at_call 172;refine (HTR.out _ ?_).mono ?_;(exact (Ext.refl _).drew);rintro e w7 ⟨rfl,rfl⟩)
     |(go_at_call 231;refine (HSH.out _ ?_).mono ?_;(exact (Ext.refl _).drew);rintro e w7 ⟨v7,rfl,hv7,hx7⟩))
    all_goals
     have HV7:=As8 hv7;have HX7:Hid (Ext wr w7):=((Ext.refl wr).drew).trans hx7;clear hv7 hx7
     go_wp2_with fail
     refine (F5 _ _ _ qs _ HS.out.qlen hM3 (Atb _) (HRQ.out.ext HX7.out)).mono ?_;rintro e w8 ⟨rfl,rfl⟩
     go_wp2_with fail
     go_ret2
     have hqn:=Dg (cap:=M) HS.out.qlow (HRQ.out.ext HX7.out) (n:=m/n) HDN.out.1 (by rw[HS.out.qlen];exact Atb _);exact⟨_,_,rfl,hqn,HV7.out,(X2.out.trans HXR.out).trans HX7.out⟩
   ·rw[show ((j+1:Nat):Int)-1=j by omega];have hul:u.length=L+1:=by rw[HS.out.ulen];exact HM1.out.symm
    have hbef:=HS.out.before (show j<M by omega);have hqlt:val ((u.drop j).take (k+2+1))/(n*f)<1000000000:=by
     rw[Au4 (Axa HNP.out oV)];exact hbef
    have hstep:=Ag7 W2.heap.size g (L+1) j k (L+1-j) av cv u (Aa (n*f)) wr HU.out HVU.out hul HS.out.ulow (Am _) HNM.out.vlen (by have:=HM1.out;omega) oV (by have:=HM1.out;omega) HNM.out.vtop (by rw[Ai];exact hbef);rw[Ai]at hstep;obtain⟨qd,hqd⟩:∃ qd,qd=val ((u.drop j).take (k+2+1))/(n*f):=⟨_,rfl⟩;have HQD:=As8 hqd;have HST:=As8 hstep;have hm1:=HM1.out;have hjj:j+(k+2)+1<=L+1:=oV
    have hjm:j<M:=oV
    have hcz:L+1≠j:=oV
    clear hqd hstep hbef hul hm1
    go_wp2_with fail
    rw[show j+(k+2)+1-j=k+3 by omega];refine HST.out.mono ?_;rintro e w6 ⟨o,rfl,hsd,how,hgr⟩;rw[<-HQD.out];have hq6:=Ud HQ.out hgr hgq.symm;have hcq:=F2 hq6 (j:=j) (by rw[HS.out.qlen];omega);have hfq:=hq6.frozenAt j;have HQ6:=As8 hq6;have HU6:=As8 how;have HGR:=As8 hgr;have HSD:=As8 hsd;clear hq6 how hgr hsd
    go_wp2_with fail
    have hset:=K7 j qd HQ6.out (Sp w6 (some gq));refine⟨⟨j,o,qs.set j qd,oV,rfl,?_,Ud HU6.out hset.2 hgq,hset.1,?_,?_,?_⟩,by simp only[intOf];omega⟩
    ·rw[HQD.out];exact HS.out.step hjm (Axa HNP.out oV) (by have:=Ck (n*f);rw[HNM.out.vlen]at this;exact this) HSD.out hqlt
    ·refine⟨?_,HVU.out.2⟩;exact (Fe.grown ⟨(HVU.out.grown HGR.out).1,HVQ.out.2⟩ hset.2).1
    ·exact Fe.grown ⟨(HVU.out.grown HGR.out).1,HVQ.out.2⟩ hset.2
    ·have x6:=HXR.out.grown HGR.out (fun k' hk'=>by cases hk';exact hg);exact x6.grown hset.2 (fun k' hk'=>by cases hk';exact (Nz HQ.out).2)
theorem Vp (va vb:Value)(m n:Nat)(w:World)(ha:Ci w va m)(hb:Ci w vb n)(sa:nl m<=5000000000000)(sb:nl n<=5000000000000)(hn:0<n) :
 Calls prog 209 #[va,vb] w (R9 w (m/n) (m%n)):=by
 rcases At8 m n with h|h
 ·rw[Aw1 h,Axg h];exact Z4 va vb m n w ha hb oV oV h
 ·rcases At8 n 1000000000 with h2|h2
  ·exact Yy va vb m n w ha hb oV hn h2 h
  ·have h3:2<=nl n:=by
    rcases At8 (nl n) 2 with h4|h4
    ·have h5:=Ck n;have h6:1000000000^nl n<=1000000000^1:=Atq oV oV;rw[Nat.pow_one]at h6;omega
    ·exact h4
   exact Aad va vb m n (nl n-2) w ha hb sa oV h
end
section
variable {n:Nat}
theorem Aha (h:nl n<=2):n=(Aa n).getD 1 0*1000000000+(Aa n).getD 0 0:=by
 have h1:=Ym (Aa n) 0;rw[Atp (show (Aa n).length<=0+2 from h),Ai]at h1;simp only[Ayo,val,A0z,Avm,Aud]at h1;omega
set_option maxRecDepth 100000 in
theorem Y6 (va:Value)(n:Nat)(w:World)(ha:Ci w va n)(h:nl n<=2) :
 Calls prog 219 #[va] w fun e w'=>e=.returned (.int .u64 (n:Int))/\w=w':=by
 have hs:=Aha h;obtain⟨a,c,rfl,_,hr⟩:=ha;have hx:=Uu a c (Aa n) 1 w (by unfold nl at h;omega) oV hr;have hy:=Uu a c (Aa n) 0 w (by unfold nl at h;omega) oV hr;rw[show (1:Int).toNat=1 by rfl]at hx;rw[show (0:Int).toNat=0 by rfl]at hy;have b1:=(Am n).getD 1;have b0:=(Am n).getD 0;obtain⟨x,ex⟩:∃ x,x=(Aa n).getD 1 0:=⟨_,rfl⟩;obtain⟨y,ey⟩:∃ y,y=(Aa n).getD 0 0:=⟨_,rfl⟩;rw[<-ex]at hx b1 hs;rw[<-ey]at hy b0 hs;have HX:=As8 hx;have HY:=As8 hy;have HS:=As8 hs;clear hx hy hs ex ey hr
 go_enter func219,ntmps219
 go_wp2_with fail
 refine HX.out.mono ?_;rintro e w' ⟨rfl,rfl⟩
 go_wp2_with fail
 refine HY.out.mono ?_;rintro e w' ⟨rfl,rfl⟩
 go_wp2_with fail
 go_ret
 exact⟨Anr (by have:=HS.out;omega),rfl⟩
theorem Xl (h:nl n<=2):n<1000000000000000000:=by
 have h1:=Ck n;have h2:1000000000^nl n<=1000000000^2:=Atq oV h;rw[show (1000000000:Nat)^2=1000000000000000000 by rfl]at h2;omega
theorem Um (m n:Nat):Auw n (m%n)=Auw m n:=by rw[A01 m n,Nat.gcd_rec n m,A01]
end
section
variable {b:Bool}{g n:Nat}{s:Value}{t:TypeId}{w:World}
def Om (w:World)(v:Value)(z:Int):Prop:=∃ a n c,v=.agg #[.bool (decide (z<0)),.slice a n c]/\Ci w (.slice a n c) z.natAbs
theorem Om.ext {w w':World}{v:Value}{z:Int}(h:Om w v z)(x:Ext w w'):Om w' v z:=by
 obtain⟨a,n,c,h1,h2⟩:=h;exact⟨a,n,c,h1,h2.ext x⟩
def Y4 (w:World)(z:Int)(e:Ending)(w':World):Prop:=∃ v,e=.returned v/\Om w' v z/\Ext w w'
def Bt (neg:Bool)(n:Nat):Int:=if neg then -(n:Int) else n
theorem Iz (neg:Bool)(n:Nat):(Bt neg n).natAbs=n:=by unfold Bt;split<;>omega
theorem Va (neg:Bool)(n:Nat):decide (Bt neg n<0)=(neg&&decide (0<n)):=by
 unfold Bt;cases neg<;>simp<;>omega
theorem Qd (z:Int):Bt (decide (z<0)) z.natAbs=z:=by
 unfold Bt;by_cases h:z<0<;>simp[h]<;>omega
theorem Yz {b neg:Bool}(hb:b=(neg&&decide (0<n)))(hs:Ci w s n):Om w (.agg #[.bool b,s]) (Bt neg n):=by
 obtain⟨a,c,rfl,h2⟩:=id hs;exact⟨a,_,c,by rw[Va,hb],by rw[Iz];exact hs⟩
theorem Aoy {z:Int}(hb:b=decide (z<0))(hs:Ci w s z.natAbs):Om w (.agg #[.bool b,s]) z:=by
 obtain⟨a,c,rfl,h2⟩:=id hs;exact⟨a,_,c,by rw[hb],hs⟩
theorem Cm :0<(Aa n).length↔0<n:=by
 constructor
 ·intro h;rcases At5 n with h0|h0
  ·rw[h0,Bb]at h;simp at h
  ·exact h0
 ·intro h;exact Avq.2 (fun e=>by have:=Fx.1 e;omega)
theorem Nl (w:World)(a:Addr)(v:Value):w.grownBy (w.setCell a v) (some a.block) :=
 ⟨rfl,rfl,rfl,by simp[World.setCell],fun k _ hk=>Below.heap_setCell _ _ _ _ (fun e=>hk (by rw[e]))⟩
def Ams (w:World)(g:Nat):Prop:=∃ (cs:Array Value) (t:TypeId) (fr:Nat×Nat),w.heap[g]?=some (.cells cs t fr)/\∀ (j:Nat) (k:IntKind) (z:Int),cs[j]?≠some (Auj k z)
theorem Ci.grown {w w':World}(h:Ci w s n)(hg:Ams w g)(hw:w.grownBy w' (some g)):Ci w' s n:=by
 obtain⟨a,c,h1,h2,h3⟩:=h;refine⟨a,c,h1,h2,fun j hj=>?_⟩;obtain⟨b,off,e1,e2⟩:=h3 j hj;refine⟨b,off,e1,hw.cell e2 ?_⟩;simp only[ne_eq,Atd];intro e;obtain⟨cs,t,fr,hb,hno⟩:=hg;rw[<-e]at hb;rw[cell_of_row _ _ _ _ _ _ hb]at e2;have hj':j<(Aa n).length:=by simpa using hj
 refine hno _ .u64 ((Aa n).getD j 0:Nat) (e2.trans ?_);simp[Ay,hj']
theorem Aj3 {o0 o1 v0 v1:Value}(h:w.heap[g]?=some (.cells #[o0,o1] t (0,0))) :
 ((w.setCell ⟨g,0,none⟩ v0).setCell ⟨g,1,none⟩ v1).heap[g]?=some (.cells #[v0,v1] t (0,0)):=by
 rw[heap_setCell_same _ _ _ _ _ _ (heap_setCell_same _ _ _ _ _ _ h)];rfl
theorem Arx (w:World)(g:Nat)(v0 v1:Value):w.grownBy ((w.setCell ⟨g,0,none⟩ v0).setCell ⟨g,1,none⟩ v1) (some g) :=
 Q0 (Nl _ _ _) (Nl _ _ _)
theorem Asz {a w:World}(h:Ext a w)(hg:a.heap.size<=g)(v0 v1:Value):Ext a ((w.setCell ⟨g,0,none⟩ v0).setCell ⟨g,1,none⟩ v1) :=
 (h.setCell (p:=⟨g,0,none⟩) hg v0).setCell (p:=⟨g,1,none⟩) hg v1
theorem Anp {a:Option Addr}{n c:Nat}(h:w.heap[g]?=some (.cells #[.bool b,.slice a n c] t (0,0))):Ams w g:=by
 refine⟨_,_,_,h,fun j k z e=>?_⟩
 match j with
 |0=>simp at e
 |1=>simp at e
 |j+2=>simp at e
theorem Tryz.size101:(prog.info? 101).map (·.size)=some 2:=kV
theorem Y0 {fn:Func}{p:Tmp}{R:Ending->World->Prop}{a:Act}{w:World}{g:Nat}{v0 v1:Value}(h:fn.results = #[.cell p 101])
 (hp:a.tmps.getD p undef=.pointer (some ⟨g,0,none⟩)) (hg:w.heap[g]?=some (.cells #[v0,v1] 101 (0,0))) (hd:a.defers = []) (hR:R (.returned (.agg #[v0,v1])) w) :
 bodyPost prog fn R .ret a w :=
 ⟨hd,_,results_cell_row h a.tmps w g _ _ _ _ hp hg Tryz.underlying101 rfl Tryz.size101,hR⟩
set_option maxRecDepth 100000 in
theorem Ad2 (neg:Bool)(s:Value)(n:Nat)(w:World)(h:Ci w s n)(hn:nl n<=100000000000000) :
 Calls prog 163 #[.bool neg,s] w (Y4 w (Bt neg n)):=by
 have H:=As8 h;obtain⟨a,c,rfl,_,_⟩:=h;have hl:(Aa n).length<=100000000000000:=hn;by_cases hp:0<(Aa n).length
 ·have hd:decide (0<((Aa n).length:Int))=true:=gV
  have hp':=Cm.1 hp;cases neg
  ·go_enter func163,ntmps163
   go_wp2_with fail
   refine bodyPost_ret (v:=.agg #[.bool false,.slice a (Aa n).length c]) (by simp[results,Tryz.results163,go_sem]) rfl ⟨_,rfl,Yz rfl (H.out.ext ((Ext.refl w).alloc _)),(Ext.refl w).alloc _⟩
  ·go_enter func163,ntmps163
   go_wp2_with fail
   refine bodyPost_ret (v:=.agg #[.bool true,.slice a (Aa n).length c]) (by simp[results,Tryz.results163,go_sem]) rfl ⟨_,rfl,Yz (by simp[hp']) (H.out.ext ((Ext.refl w).alloc _)),(Ext.refl w).alloc _⟩
 ·have hd:decide (0<((Aa n).length:Int))=false:=by simp only[decide_eq_false_iff_not];omega
  have hp':¬ 0<n:=fun h=>hp (Cm.2 h);cases neg
  ·go_enter func163,ntmps163
   go_wp2_with fail
   refine bodyPost_ret (v:=.agg #[.bool false,.slice a (Aa n).length c]) (by simp[results,Tryz.results163,go_sem]) rfl ⟨_,rfl,Yz rfl (H.out.ext ((Ext.refl w).alloc _)),(Ext.refl w).alloc _⟩
  ·go_enter func163,ntmps163
   go_wp2_with fail
   refine bodyPost_ret (v:=.agg #[.bool false,.slice a (Aa n).length c]) (by simp[results,Tryz.results163,go_sem]) rfl ⟨_,rfl,Yz (by simp[hp']) (H.out.ext ((Ext.refl w).alloc _)),(Ext.refl w).alloc _⟩
end
section
variable {g:Nat}{t:TypeId}{w:World}{y z:Int}
theorem Ans {x y:Value}(h:w.heap[g]?=some (.cells #[x,y] t (0,0))):w.cell? ⟨g,0,none⟩=some x:=by rw[cell_of_row _ _ _ _ _ _ h];rfl
theorem An9 {x y:Value}(h:w.heap[g]?=some (.cells #[x,y] t (0,0))):w.cell? ⟨g,1,none⟩=some y:=by rw[cell_of_row _ _ _ _ _ _ h];rfl
theorem Ab2 (y z:Int):Bt (!(decide (y<0)==decide (z<0))) (y.natAbs*z.natAbs)=y*z:=by
 unfold Bt;have e:((y.natAbs*z.natAbs:Nat):Int)=(y.natAbs:Int)*z.natAbs:=Aws _ _;rw[e];by_cases hy:y<0<;>by_cases hz:z<0<;>simp[hy,hz]
 ·rw[show (y.natAbs:Int) = -y by omega,show (z.natAbs:Int) = -z by omega,Int.neg_mul_neg]
 ·rw[show (y.natAbs:Int) = -y by omega,show (z.natAbs:Int)=z by omega,A0k,A0l]
 ·rw[show (y.natAbs:Int)=y by omega,show (z.natAbs:Int) = -z by omega,A1h,A0l]
 ·rw[show (y.natAbs:Int)=y by omega,show (z.natAbs:Int)=z by omega]
theorem Aak (hs:decide (y<0)=decide (z<0)):Bt (decide (y<0)) (y.natAbs+z.natAbs)=y+z:=by
 unfold Bt;by_cases hy:y<0<;>by_cases hz:z<0<;>simp[hy,hz]at hs⊢<;>omega
theorem Wj (hs:decide (y<0)≠decide (z<0))(h:z.natAbs<=y.natAbs):Bt (decide (y<0)) (y.natAbs-z.natAbs)=y+z:=by
 unfold Bt;by_cases hy:y<0<;>by_cases hz:z<0<;>simp[hy,hz]at hs⊢<;>omega
theorem Xb (hs:decide (y<0)≠decide (z<0))(h:y.natAbs<z.natAbs):Bt (decide (z<0)) (z.natAbs-y.natAbs)=y+z:=by
 unfold Bt;by_cases hy:y<0<;>by_cases hz:z<0<;>simp[hy,hz]at hs⊢<;>omega
end
section
variable {y z:Int}
theorem X3 {y z q r:Int}(h:y=z*q+r)(h0:0<=r)(h1:r<z.natAbs):y/z=q/\y%z=r:=by
 have hz:z≠0:=by intro e;subst e;simp at h1;omega
 have e1:y%z=r:=by
  rw[h,Int.add_comm,Int.add_mul_emod_self_left];rcases Int.lt_or_gt_of_ne hz with hn|hn
  ·rw[<-Int.emod_neg];exact A2n h0 oV
  ·exact A2n h0 oV
 refine⟨?_,e1⟩;have:=Int.mul_ediv_add_emod y z;rw[e1,h]at this;have e2:z*((z*q+r)/z)=z*q:=oV
 rw[h];exact Int.eq_of_mul_eq_mul_left hz e2
theorem Vy (hy:¬ y<0)(hz:z≠0):Bt (!(decide (y<0)==decide (z<0))) (y.natAbs/z.natAbs)=y/z/\Bt false (y.natAbs%z.natAbs)=y%z:=by
 have hd:=Avf y.natAbs z.natAbs;have hm:=Au3 y.natAbs (show 0<z.natAbs by omega);generalize y.natAbs/z.natAbs=q at *
 generalize y.natAbs%z.natAbs=r at *
 have hd':(z.natAbs:Int)*q+r=y.natAbs:=by rw[<-hd];simp
 have:=X3 (y:=y) (z:=z) (q:=Bt (!(decide (y<0)==decide (z<0))) q) (r:=(r:Int)) (by
  unfold Bt;by_cases h:z<0
  ·rw[show (!(decide (y<0)==decide (z<0)))=true by simp[hy,h],if_pos rfl,A1h];rw[show (z.natAbs:Int) = -z by omega,A0k]at hd';omega
  ·rw[show (!(decide (y<0)==decide (z<0)))=false by simp[hy,h],if_neg mV];rw[show (z.natAbs:Int)=z by omega]at hd';omega) oV oV
 exact⟨this.1.symm,by rw[this.2];rfl⟩
theorem Vq (hy:y<0)(hz:z≠0)(hr:y.natAbs%z.natAbs=0):Bt (!(decide (y<0)==decide (z<0))) (y.natAbs/z.natAbs)=y/z/\Bt false (y.natAbs%z.natAbs)=y%z:=by
 have hd:=Avf y.natAbs z.natAbs;rw[hr]at hd⊢;generalize y.natAbs/z.natAbs=q at *
 have hd':(z.natAbs:Int)*q=y.natAbs:=by rw[<-hd];simp
 have:=X3 (y:=y) (z:=z) (q:=Bt (!(decide (y<0)==decide (z<0))) q) (r:=0) (by
  unfold Bt;by_cases h:z<0
  ·rw[show (!(decide (y<0)==decide (z<0)))=false by simp[hy,h],if_neg mV];rw[show (z.natAbs:Int) = -z by omega,A0k]at hd';omega
  ·rw[show (!(decide (y<0)==decide (z<0)))=true by simp[hy,h],if_pos rfl,A1h];rw[show (z.natAbs:Int)=z by omega]at hd';omega) oV oV
 exact⟨this.1.symm,by rw[this.2];rfl⟩
theorem Yl (hy:y<0)(hz:z≠0)(hr:0<y.natAbs%z.natAbs):Bt (!(decide (y<0)==decide (z<0))) (y.natAbs/z.natAbs+1)=y/z/\Bt false (z.natAbs-y.natAbs%z.natAbs)=y%z:=by
 have hd:=Avf y.natAbs z.natAbs;have hm:=Au3 y.natAbs (show 0<z.natAbs by omega);generalize y.natAbs/z.natAbs=q at *
 generalize y.natAbs%z.natAbs=r at *
 have hd':(z.natAbs:Int)*q+r=y.natAbs:=by rw[<-hd];simp
 have:=X3 (y:=y) (z:=z) (q:=Bt (!(decide (y<0)==decide (z<0))) (q+1)) (r:=((z.natAbs-r:Nat):Int)) (by
  unfold Bt;by_cases h:z<0
  ·rw[show (!(decide (y<0)==decide (z<0)))=false by simp[hy,h],if_neg mV];rw[show (z.natAbs:Int) = -z by omega,A0k]at hd';rw[A22,A31];omega
  ·rw[show (!(decide (y<0)==decide (z<0)))=true by simp[hy,h],if_pos rfl];rw[show (z.natAbs:Int)=z by omega]at hd';rw[A1h,A22,A31];omega) oV oV
 exact⟨this.1.symm,by rw[this.2];rfl⟩
end
section
variable {n:Int}
theorem Adw (h:n<0)(h2:-9223372036854775808<=n):IntKind.u64.wrap (-(IntKind.u64.wrap n))=((n.natAbs:Nat):Int):=by
 have e:∀ n:Int,IntKind.u64.wrap n=n%18446744073709551616:=fun n=>by simp[IntKind.wrap,IntKind.signed,IntKind.bits]
 rw[e,e];omega
theorem Ac8 (h:0<=n)(h2:n<=9223372036854775807):IntKind.u64.wrap n=((n.natAbs:Nat):Int):=by
 have e:∀ n:Int,IntKind.u64.wrap n=n%18446744073709551616:=fun n=>by simp[IntKind.wrap,IntKind.signed,IntKind.bits]
 rw[e];omega
end
def Sk (w:World)(v:Value)(q:Rat):Prop :=
 ∃ a n c a' n' c',v=.agg #[.bool (decide (q.num<0)),.slice a n c,.bool false,.slice a' n' c']/\Ci w (.slice a n c) q.num.natAbs/\Ci w (.slice a' n' c') q.den
theorem Sk.num {w:World}{b b':Bool}{a a':Option Addr}{n n' c c':Nat}{q:Rat}(h:Sk w (.agg #[.bool b,.slice a n c,.bool b',.slice a' n' c']) q):Om w (.agg #[.bool b,.slice a n c]) q.num:=by
 obtain⟨_,_,_,_,_,_,h1,h2,h3⟩:=h;simp only[Axc,Axh,Ave,Ax2,Atr,and_true]at h1;obtain⟨rfl,⟨rfl,rfl,rfl⟩,rfl,rfl,rfl,rfl⟩:=h1;exact⟨_,_,_,rfl,h2⟩
theorem Sk.den {w:World}{b b':Bool}{a a':Option Addr}{n n' c c':Nat}{q:Rat}(h:Sk w (.agg #[.bool b,.slice a n c,.bool b',.slice a' n' c']) q):Om w (.agg #[.bool b',.slice a' n' c']) q.den:=by
 obtain⟨_,_,_,_,_,_,h1,h2,h3⟩:=h;simp only[Axc,Axh,Ave,Ax2,Atr,and_true]at h1;obtain⟨rfl,⟨rfl,rfl,rfl⟩,rfl,rfl,rfl,rfl⟩:=h1;refine⟨_,_,_,?_,by rw[Atv];exact h3⟩;rw[show decide (((q.den:Nat):Int)<0)=false by simp only[decide_eq_false_iff_not];omega]
theorem Qb:nl 1<=1:=by unfold nl;rw[Ec oV oV];simp
theorem Rb {d:Nat}:(sgn ((d:Int)-1)==0)=decide (d=1):=by
 rcases Awd ((d:Int)-1) 0 with h|h|h
 ·rw[Dc h,decide_eq_false oV];rfl
 ·rw[h,On,decide_eq_true oV];rfl
 ·rw[Cf h,decide_eq_false oV];rfl
set_option maxRecDepth 100000 in
theorem Abd (v:Value)(q:Rat)(w:World)(hv:Sk w v q) :
 Calls prog 177 #[v] w (Y4 w q.num):=by
 have Hv:=As8 hv;obtain⟨a,n,c,a',n',c',rfl,_,_⟩:=hv;obtain⟨p,hp⟩:∃ p,p=decide (q.num<0):=⟨_,rfl⟩;rw[<-hp]at Hv⊢;clear hp
 go_enter func177,ntmps177
 go_wp2_with fail
 refine Y0 rfl rfl (heap_alloc2_new _ _ _) rfl ⟨_,rfl,Hv.out.num.ext (((Ext.refl w).alloc _).alloc _),((Ext.refl w).alloc _).alloc _⟩
set_option maxRecDepth 100000 in
theorem Abf (v:Value)(q:Rat)(w:World)(hv:Sk w v q) :
 Calls prog 176 #[v] w (Y4 w q.den):=by
 have Hv:=As8 hv;obtain⟨a,n,c,a',n',c',rfl,_,_⟩:=hv;obtain⟨p,hp⟩:∃ p,p=decide (q.num<0):=⟨_,rfl⟩;rw[<-hp]at Hv⊢;clear hp
 go_enter func176,ntmps176
 go_wp2_with fail
 refine Y0 rfl rfl (heap_alloc2_new _ _ _) rfl ⟨_,rfl,Hv.out.den.ext (((Ext.refl w).alloc _).alloc _),((Ext.refl w).alloc _).alloc _⟩
section
variable {y z:Int}
theorem Lx (y z:Int):Au0 (-y) (-z)=Au0 y z:=by
 rw[Awf,Awf,Ayf,Ayf];by_cases h:(z:Rat)=0
 ·rw[h];simp[Azs]
 ·have:-(z:Rat)≠0:=by grind
  grind
theorem Sv (hz:0<z)(hg:Auw y.natAbs z.natAbs=1):(Au0 y z).num=y/\(Au0 y z).den=z.natAbs:=by
 have e:(z:Int)=((z.natAbs:Nat):Int):=oV
 rw[e,Azx,A3g,dif_neg oV,A2t];simp only[Atv,hg];simp
theorem Ti {G:Nat}(hz:0<z)(hg:G=Auw y.natAbs z.natAbs):(Au0 y z).num=y/G/\(Au0 y z).den=z.natAbs/G:=by
 have e:(z:Int)=((z.natAbs:Nat):Int):=oV
 rw[e,Azx,A3g,dif_neg oV,A2t];subst hg;constructor<;>simp
end
def Sz (q:Rat)(k:Nat):Prop:=nl q.num.natAbs<=k/\nl q.den<=k
theorem Ah4 {q r:Rat}(h1:q.den=1)(h2:r.den=1):((q.num*r.num:Int):Rat)=q*r:=by
 rw[A3q,h1,h2,Avm,Rat.mkRat_one]
theorem Yd (q r:Rat):Au0 (q.num*r.num) ((q.den:Int)*(r.den:Int))=q*r:=by
 rw[A3q,<-Azx,Aws]
theorem Aga (q r:Rat):Au0 (q.num*(r.den:Int)) ((q.den:Int)*r.num)=q/r:=by
 rw[Awf,Av9,Av9];have e1:q=(q.num:Rat)/((q.den:Int):Rat):=by rw[<-Awf,Aza]
 have e2:r=(r.num:Rat)/((r.den:Int):Rat):=by rw[<-Awf,Aza]
 have d1:((q.den:Int):Rat)≠0:=by have:=q.den_nz;simp;exact this
 have d2:((r.den:Int):Rat)≠0:=by have:=r.den_nz;simp;exact this
 by_cases h:(r.num:Rat)=0
 ·have:r=0:=by rw[e2,h];simp[Azs]
  rw[h,this];simp[Azs]
 ·generalize (q.num:Rat)=a at *
  generalize (r.num:Rat)=b at *
  generalize ((q.den:Int):Rat)=c at *
  generalize ((r.den:Int):Rat)=d at *
  rw[e1,e2];grind
theorem Dl {y z:Int}{k:Nat}(h1:nl y.natAbs<=k)(h2:nl z.natAbs<=k):nl (y*z).natAbs<=2*k:=by
 rw[Int.natAbs_mul];have:=Fu y.natAbs z.natAbs;omega
end Go.Proofs.YtnafchoihfnkeaaGreatDoor
