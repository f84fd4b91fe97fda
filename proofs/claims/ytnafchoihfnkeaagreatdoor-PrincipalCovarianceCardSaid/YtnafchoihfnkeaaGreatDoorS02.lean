/- Parts of one proof, joined by a program. -/
import Derived.Test.YtnafchoihfnkeaaGreatDoorS01
import Derived.Deep.LoopGhost
import Derived.WalkKit
import Derived.Lib.Hide
import Derived.Test.YtnafchoihfnkeaaGreatDoorProg
import Derived.KernelRfl
import Derived.Deep.QuietTactic
import Derived.BigQuiet
import Derived.RegionTactic
import Derived.ChangeAlike
import Derived.Outline
import Derived.Deep.RegionWith
import Derived.Deep.DeepCutAuto
import Derived.Laws.CopyOwn
import Derived.Deep.RegionHeld3
set_option linter.defProp false
set_option linter.unusedVariables false
set_option linter.unusedSimpArgs false
set_option linter.unusedSectionVars false
set_option maxHeartbeats 16000000
namespace Go.Proofs.YtnafchoihfnkeaaGreatDoor
open Go.Proofs.Tryz
open Go.RowKit
def Ayt:=@List.cons_append
def Auc:=@Nat.pow_succ
def Aui:=@Nat.mul_add
def Atz:=@Nat.mul_assoc
def At7:=@Nat.mul_comm
def Avl:=@Nat.add_assoc
def Av2:=@List.eq_of_mem_replicate
def As7:=@List.getD_eq_getElem?_getD
def As5:=@List.getElem?_eq_getElem
def Ath:=@List.getElem_mem
def Att:=@List.getElem?_eq_none
def Aul:=@Nat.mul_le_mul_left
def A0b:=@List.replicate_succ
def Atp:=@List.take_of_length_le
def Avv:=@Nat.add_sub_cancel
def Avq:=@List.length_pos_iff
def At9:=@List.take_length
def Au4:=@Nat.div_lt_iff_lt_mul
def Aum:=@Nat.lt_of_le_of_lt
def Atq:=@Nat.pow_le_pow_right
def Aww:=@Nat.pow_add
def Aud:=@Nat.zero_add
def Axb:=@List.map_set
def Ayy:=@List.map_take
def Ax9:=@Int.eq_ofNat_of_zero_le
def Avo:=@Int.toNat_natCast
def Awd:=@Int.lt_trichotomy
def At5:=@Nat.eq_zero_or_pos
def Avw:=@Nat.mul_zero
def Az3:=@Nat.le_antisymm
def Ayl:=@Nat.mul_one
def Awg:=@List.take_append_drop
def Aw9:=@List.drop_eq_getElem_cons
def Avi:=@List.set_cons_succ
def A11:=@List.getD_cons_succ
def Axy:=@List.mem_or_eq_of_mem_set
def Avg:=@List.getElem?_replicate
def Aut:=@Nat.mul_le_mul
def Au3:=@Nat.mod_lt
def At2:=@Nat.add_mul
def Ayo:=@List.take_zero
def Atu:=@Nat.zero_le
def Ats:=@Nat.mul_le_mul_right
def Avf:=@Nat.div_add_mod
def Aw4:=@List.drop_zero
def Aw1:=@Nat.div_eq_of_lt
def Axg:=@Nat.mod_eq_of_lt
def Awm:=@List.set_append_right
def Avc:=@Nat.sub_self
def Avj:=@List.set_cons_zero
def Av3:=@List.replicate_zero
def Auu:=@List.append_nil
def Aue:=@List.drop_of_length_le
def Axu:=@Nat.lt_trichotomy
def Az4:=@Nat.le_of_lt
def Aws:=@Int.natCast_mul
def Awn:=@Nat.le_div_iff_mul_le
def Ay7:=@Nat.div_mul_le_self
def Avm:=@Nat.one_mul
def Ayz:=@Nat.lt_of_mul_lt_mul_right
def A1x:=@List.drop_set
def Az5:=@Nat.add_comm
def Awe:=@List.ext_getElem?
def A0z:=@Nat.pow_zero
def A00:=@List.set_set
def A0o:=@Nat.mul_lt_mul_of_pos_right
def A0w:=@Nat.lt_of_mul_lt_mul_left
def Atg:=@List.length_append
def Aur:=@List.length_replicate
def Axa:=@Nat.mul_pos
def A01:=@Nat.gcd_comm
def A0k:=@Int.neg_mul
def A0l:=@Int.neg_neg
def A1h:=@Int.mul_neg
def A16:=@Int.lt_or_gt_of_ne
def A1m:=@Int.mul_ediv_add_emod
def Axh:=@Array.mk.injEq
def Atv:=@Int.natAbs_natCast
def Awf:=@Rat.divInt_eq_div
def Ayf:=@Rat.intCast_neg
def Azs:=@Rat.div_def
def Azx:=@Rat.divInt_ofNat
def Av9:=@Rat.intCast_mul
def Aza:=@Rat.num_divInt_den
def Au7:=@Int.natAbs_mul
section
variable {B:List (Nat×Blk)}{T:List (Nat×SV)}
variable [Ca] [Df] [Pu]
def Ae0 (d:Nat):List (Nat×SV)->SV
 |[]=>.junk
 |(e,x)::l=>cond (Nat.beq d e) x (Ae0 d l)
def Sp (d:Nat):List (Nat×Blk)->Option Blk
 |[]=>none
 |(e,x)::l=>cond (Nat.beq d e) (some x) (Sp d l)
def S.of (n:Nat)(T:List (Nat×SV))(B:List (Nat×Blk)):S:={ n:=n,tm:=fun d=>Ae0 d T,hp:=fun k=>Sp k B }
def Ak2 (B:List (Nat×Blk)):SV->Bool
 |.p k _=>B.any fun q=>Nat.beq q.1 k
 |_=>true
def Th (T:List (Nat×SV))(B:List (Nat×Blk)):Bool:=T.all (fun p=>Ak2 B p.2)&&B.all (fun q=>q.2.cells.all (Ak2 B))
structure Cov (N:Nat)(s:S)(T:List (Nat×SV))(B:List (Nat×Blk)):Prop where
 n:s.n=N
 t:T.map (fun p=>s.tm p.1)=T.map (·.2)
 b:B.map (fun p=>s.hp p.1)=B.map (fun p=>some p.2)
def Ql {d:Nat}{x:SV}:∀ {T:List (Nat×SV)},Ae0 d T=x->x≠.junk->(d,x)∈T
 |[],h,hx=>absurd h.symm hx
 |(e,y)::l,h,hx=>by
  unfold Ae0 at h;cases hb:Nat.beq d e with
  |true=>simp[hb]at h;have:=Aug hb;subst this;subst h;simp
  |false=>simp[hb]at h;exact Auv _ (Ql h hx)
def Mw {d:Nat}{x:Blk}:∀ {B:List (Nat×Blk)},Sp d B=some x->(d,x)∈B
 |[],h=>by cases h
 |(e,y)::l,h=>by
  unfold Sp at h;cases hb:Nat.beq d e with
  |true=>simp[hb]at h;have:=Aug hb;subst this;subst h;simp
  |false=>simp[hb]at h;exact Auv _ (Mw h)
def Kn {k:Nat}:∀ {B:List (Nat×Blk)},B.any (fun q=>Nat.beq q.1 k)=true->Sp k B≠none
 |[],h=>by simp at h
 |(e,y)::l,h=>by
  unfold Sp;cases hb:Nat.beq k e with
  |true=>simp
  |false =>
   simp only[cond_false];refine Kn ?_;simp only[List.any_cons,Av7]at h;rcases h with h|h
   ·have:=Aug h;subst this;simp at hb
   exact h
def Ant {n:Nat}(h:Th T B=true):M3 (S.of n T B):=by
 unfold Th at h;simp only[Atj,Atx]at h;refine⟨fun d k off a=>?_,fun j b k off e f=>?_⟩
 ·have:=h.1 _ (Ql a mV);exact Kn this
 have:=h.2 _ (Mw e) _ f;exact Kn this
def Rel.cov {c:Cx}{s:S}{u m:PH}{ρ:Nat->Nat}{a:Act}{w:World}(h:Rel c s u m ρ a w){N:Nat}(f:Cov N s T B)(C:Th T B=true):Rel c (S.of N T B) u m ρ a w:=by
 have D:∀ d x,(d,x)∈T->s.tm d=x:=by
  intro d x g;have:=f.t;rw[List.map_inj_left]at this;exact this _ g
 have y:∀ d x,(d,x)∈B->s.hp d=some x:=by
  intro d x g;have:=f.b;rw[List.map_inj_left]at this;exact this _ g
 refine⟨h.sz.trans f.n,fun d z=>?_,h.df,fun k b e=>h.box k b (y k b (Mw e)),fun k j e A=>?_,Ant C,h.gd,h.gr⟩
 ·have:=D d _ (Ql rfl z);have v:=h.tm d (by rw[this];exact z);rw[this]at v;exact v
 have q:∀ k,(S.of N T B).hp k≠none->s.hp k≠none:=by
  intro k e;cases hq:Sp k B with
  |none=>exact absurd hq e
  |some b=>rw[y k b (Mw hq)];simp
 exact h.inj k j (q k e) (q j A)
def Akp (st:List KI×S):Bool:=match st.1 with|.code (.loop _)::_=>true|_=>false
def Amr (st:List KI×S)(J:S->PH->PH->Prop)(T:List (Nat×SV))(B:List (Nat×Blk)):List KI×S:=match st.1 with
 |.code (.loop c)::k=>(.code c::.lp J::k,S.of st.2.n T B)
 |_=>st
def Aq7:List KI->Option (S->PH->PH->Prop)
 |.lp J::_=>some J
 |_=>none
section rules
variable {P:Program} [A7 P] {fn:Func} {Post:Bz} {st:List KI×S} {u m:PH}
def G.back {J:S->PH->PH->Prop}(h:Aq7 (adv P st).1=some J)(d:J (adv P st).2 u m):G P fn Post st u m:=by
 refine G.stp ?_;generalize adv P st=st' at h d;obtain⟨g,s⟩:=st'
 match g,h with
 |.lp J'::k,h =>
  simp only[Aq7,Atd]at h;subst h;exact⟨fun c ρ a w e f=>⟨s,u,m,ρ,f,d⟩⟩
def G.loop {ι:Type}(T:ι->List (Nat×SV))(B:ι->List (Nat×Blk))(j:ι->PH->PH->Prop)(μ:ι->Nat)(q:ι)(h:Akp (adv P st)=true)(F:∀ i,Th (T i) (B i)=true)(h0:Cov (adv P st).2.n (adv P st).2 (T q) (B q))(N:j q u m)
 (E:∀ (J:S->PH->PH->Prop) (i:ι),(∀ f t d g,Cov (adv P st).2.n t (T f) (B f)->PH.le u d->j f d g->μ f < μ i->J t d g)->∀ d g,PH.le u d->j i d g->G P fn Post (Amr (adv P st) J (T i) (B i)) d g):G P fn Post st u m:=by
 refine G.stp ?_;generalize adv P st=st' at h h0 E;obtain⟨Q,s⟩:=st'
 match Q,h with
 |.code (.loop x)::k,_ =>
  refine⟨?_⟩;intro c ρ a w v O;show (Code.loop x).wp P (Ko P fn Post c k) a w;refine wp_loop_ghost (fun n a w=>∃ i d g D,Rel c (S.of s.n (T i) (B i)) d g D a w/\PH.le u d/\j i d g/\μ i=n) (μ q) ⟨q,u,m,ρ,O.cov h0 (F q),PH.le_refl _,N,rfl⟩ ?_;rintro n a w ⟨i,d,g,D,I,K,L,rfl⟩;have:=(E (fun t d g=>∃ f,Cov s.n t (T f) (B f)/\PH.le u d/\j f d g/\μ f < μ i) i (fun f t d g y z A C=>⟨f,y,z,A,C⟩) d g K L).out c D a w v I;refine wp_mono this fun e a w H=>?_;cases e with
  |normal =>
   obtain⟨t,V,R,W,U,f,y,z,A,C⟩:=H;exact⟨_,C,f,V,R,W,U.cov y (F f),z,A,rfl⟩
  |_=>exact H
end rules
end
section
variable [Ca] [Pu] [Df]
variable {P:Program} [A7 P] {fn:Func} {Post:Bz} {st:List KI×S} {u m:PH}
def cV {N:Nat}{s:S}{T:List (Nat×SV)}{B:List (Nat×Blk)}(a:s.n=N:=by kernel_rfl)(b:T.map (fun p=>s.tm p.1)=T.map (·.2):=by kernel_rfl)(c:B.map (fun p=>s.hp p.1)=B.map (fun p=>some p.2):=by kernel_rfl):Cov N s T B:=⟨a,b,c⟩
def G.c {f:Nat}{args:List Value}{R:Value->PH->Prop}(hc:∀ args w,(callFunc f args).run P w=.ok (.enter f args) w)(c:Fn0 P f args u R)(k:∀ v u',PH.le u u'->R v u'->G P fn Post (nx (adv P st) v) u' m)(h:Al P (adv P st)=.call f args:=by kernel_rfl):G P fn Post st u m:=G.call0 f args h hc c k
def G.eT (x y:Int)(k:G P fn Post (nx (adv P st) (.bool true)) u m)(h:Al P (adv P st)=.bin .eql (.int .i64 x) (.int .i64 y):=by kernel_rfl)(hb:x=y:=by omega):G P fn Post st u m:=G.eqlT x y h hb k
def G.eF (x y:Int)(k:G P fn Post (nx (adv P st) (.bool false)) u m)(h:Al P (adv P st)=.bin .eql (.int .i64 x) (.int .i64 y):=by kernel_rfl)(hb:¬ (x=y):=by omega):G P fn Post st u m:=G.eqlF x y h hb k
def G.nT (x y:Int)(k:G P fn Post (nx (adv P st) (.bool true)) u m)(h:Al P (adv P st)=.bin .neq (.int .i64 x) (.int .i64 y):=by kernel_rfl)(hb:x≠y:=by omega):G P fn Post st u m:=G.neqT x y h hb k
def G.nF (x y:Int)(k:G P fn Post (nx (adv P st) (.bool false)) u m)(h:Al P (adv P st)=.bin .neq (.int .i64 x) (.int .i64 y):=by kernel_rfl)(hb:¬ (x≠y):=by omega):G P fn Post st u m:=G.neqF x y h hb k
def G.lT (x y:Int)(k:G P fn Post (nx (adv P st) (.bool true)) u m)(h:Al P (adv P st)=.bin .lss (.int .i64 x) (.int .i64 y):=by kernel_rfl)(hb:x<y:=by omega):G P fn Post st u m:=G.lssT x y h hb k
def G.lF (x y:Int)(k:G P fn Post (nx (adv P st) (.bool false)) u m)(h:Al P (adv P st)=.bin .lss (.int .i64 x) (.int .i64 y):=by kernel_rfl)(hb:¬ (x<y):=by omega):G P fn Post st u m:=G.lssF x y h hb k
def G.kT (x y:Int)(k:G P fn Post (nx (adv P st) (.bool true)) u m)(h:Al P (adv P st)=.bin .leq (.int .i64 x) (.int .i64 y):=by kernel_rfl)(hb:x<=y:=by omega):G P fn Post st u m:=G.leqT x y h hb k
def G.kF (x y:Int)(k:G P fn Post (nx (adv P st) (.bool false)) u m)(h:Al P (adv P st)=.bin .leq (.int .i64 x) (.int .i64 y):=by kernel_rfl)(hb:¬ (x<=y):=by omega):G P fn Post st u m:=G.leqF x y h hb k
def G.gT (x y:Int)(k:G P fn Post (nx (adv P st) (.bool true)) u m)(h:Al P (adv P st)=.bin .gtr (.int .i64 x) (.int .i64 y):=by kernel_rfl)(hb:x>y:=by omega):G P fn Post st u m:=G.gtrT x y h hb k
def G.gF (x y:Int)(k:G P fn Post (nx (adv P st) (.bool false)) u m)(h:Al P (adv P st)=.bin .gtr (.int .i64 x) (.int .i64 y):=by kernel_rfl)(hb:¬ (x>y):=by omega):G P fn Post st u m:=G.gtrF x y h hb k
def G.hT (x y:Int)(k:G P fn Post (nx (adv P st) (.bool true)) u m)(h:Al P (adv P st)=.bin .geq (.int .i64 x) (.int .i64 y):=by kernel_rfl)(hb:x≥y:=by omega):G P fn Post st u m:=G.geqT x y h hb k
def G.hF (x y:Int)(k:G P fn Post (nx (adv P st) (.bool false)) u m)(h:Al P (adv P st)=.bin .geq (.int .i64 x) (.int .i64 y):=by kernel_rfl)(hb:¬ (x≥y):=by omega):G P fn Post st u m:=G.geqF x y h hb k
def G.eT' (x y:Int)(hb:x=y)(k:G P fn Post (nx (adv P st) (.bool true)) u m)(h:Al P (adv P st)=.bin .eql (.int .i64 x) (.int .i64 y):=by kernel_rfl):G P fn Post st u m:=G.eqlT x y h hb k
def G.eF' (x y:Int)(hb:¬ (x=y))(k:G P fn Post (nx (adv P st) (.bool false)) u m)(h:Al P (adv P st)=.bin .eql (.int .i64 x) (.int .i64 y):=by kernel_rfl):G P fn Post st u m:=G.eqlF x y h hb k
def G.nT' (x y:Int)(hb:x≠y)(k:G P fn Post (nx (adv P st) (.bool true)) u m)(h:Al P (adv P st)=.bin .neq (.int .i64 x) (.int .i64 y):=by kernel_rfl):G P fn Post st u m:=G.neqT x y h hb k
def G.nF' (x y:Int)(hb:¬ (x≠y))(k:G P fn Post (nx (adv P st) (.bool false)) u m)(h:Al P (adv P st)=.bin .neq (.int .i64 x) (.int .i64 y):=by kernel_rfl):G P fn Post st u m:=G.neqF x y h hb k
def G.lT' (x y:Int)(hb:x<y)(k:G P fn Post (nx (adv P st) (.bool true)) u m)(h:Al P (adv P st)=.bin .lss (.int .i64 x) (.int .i64 y):=by kernel_rfl):G P fn Post st u m:=G.lssT x y h hb k
def G.lF' (x y:Int)(hb:¬ (x<y))(k:G P fn Post (nx (adv P st) (.bool false)) u m)(h:Al P (adv P st)=.bin .lss (.int .i64 x) (.int .i64 y):=by kernel_rfl):G P fn Post st u m:=G.lssF x y h hb k
def G.kT' (x y:Int)(hb:x<=y)(k:G P fn Post (nx (adv P st) (.bool true)) u m)(h:Al P (adv P st)=.bin .leq (.int .i64 x) (.int .i64 y):=by kernel_rfl):G P fn Post st u m:=G.leqT x y h hb k
def G.kF' (x y:Int)(hb:¬ (x<=y))(k:G P fn Post (nx (adv P st) (.bool false)) u m)(h:Al P (adv P st)=.bin .leq (.int .i64 x) (.int .i64 y):=by kernel_rfl):G P fn Post st u m:=G.leqF x y h hb k
def G.gT' (x y:Int)(hb:x>y)(k:G P fn Post (nx (adv P st) (.bool true)) u m)(h:Al P (adv P st)=.bin .gtr (.int .i64 x) (.int .i64 y):=by kernel_rfl):G P fn Post st u m:=G.gtrT x y h hb k
def G.gF' (x y:Int)(hb:¬ (x>y))(k:G P fn Post (nx (adv P st) (.bool false)) u m)(h:Al P (adv P st)=.bin .gtr (.int .i64 x) (.int .i64 y):=by kernel_rfl):G P fn Post st u m:=G.gtrF x y h hb k
def G.hT' (x y:Int)(hb:x≥y)(k:G P fn Post (nx (adv P st) (.bool true)) u m)(h:Al P (adv P st)=.bin .geq (.int .i64 x) (.int .i64 y):=by kernel_rfl):G P fn Post st u m:=G.geqT x y h hb k
def G.hF' (x y:Int)(hb:¬ (x≥y))(k:G P fn Post (nx (adv P st) (.bool false)) u m)(h:Al P (adv P st)=.bin .geq (.int .i64 x) (.int .i64 y):=by kernel_rfl):G P fn Post st u m:=G.geqF x y h hb k
def G.i (i:Nat)(k:G P fn Post (nx (adv P st) (.int .i64 ((i+1:Nat):Int))) u m)(h:Al P (adv P st)=.bin .add (.int .i64 (i:Int)) (.int .i64 1):=by kernel_rfl)(h2:((i+1:Nat):Int)<=9223372036854775807:=by omega):G P fn Post st u m:=G.add (i:Int) 1 ((i+1:Nat):Int) h (by omega) (by omega) h2 k
def G.p (x y z:Int)(k:G P fn Post (nx (adv P st) (.int .i64 z)) u m)(h:Al P (adv P st)=.bin .add (.int .i64 x) (.int .i64 y):=by kernel_rfl)(hz:x+y=z:=by omega)(h1:-9223372036854775808<=z:=by omega)(h2:z<=9223372036854775807:=by omega):G P fn Post st u m:=G.add x y z h hz h1 h2 k
def G.s (x y z:Int)(k:G P fn Post (nx (adv P st) (.int .i64 z)) u m)(h:Al P (adv P st)=.bin .sub (.int .i64 x) (.int .i64 y):=by kernel_rfl)(hz:x-y=z:=by omega)(h1:-9223372036854775808<=z:=by omega)(h2:z<=9223372036854775807:=by omega):G P fn Post st u m:=G.sub x y z h hz h1 h2 k
def G.b {J:S->PH->PH->Prop}(hj:J (adv P st).2 u m)(h:Aq7 (adv P st).1=some J:=by kernel_rfl):G P fn Post st u m:=G.back h hj
def G.l {ι:Type}(T:ι->List (Nat×SV))(B:ι->List (Nat×Blk))(Inv:ι->PH->PH->Prop)(μ:ι->Nat)(i0:ι)(hI:Inv i0 u m)
    (hR:∀ (J:S->PH->PH->Prop) (i:ι),(∀ i' s' u' m',Cov (adv P st).2.n s' (T i') (B i')->PH.le u u'->Inv i' u' m'->μ i' < μ i->J s' u' m')->∀ u' m',PH.le u u'->Inv i u' m'->G P fn Post (Amr (adv P st) J (T i) (B i)) u' m') (h:Akp (adv P st)=true:=by kernel_rfl) (hl:∀ i,Th (T i) (B i)=true:=by exact fun _=>by kernel_rfl) (h0:Cov (adv P st).2.n (adv P st).2 (T i0) (B i0):=by exact cV):G P fn Post st u m:=G.loop T B Inv μ i0 h hl h0 hI hR
end
section
variable [Ca] [Pu]
variable {P:Program} [A7 P] {fn:Func} {Post:Bz} {st:List KI×S} {u m:PH}
def G.r (v:Value)(hp:Post.post v u m)(h:Arp P fn (adv P st)=some v:=by kernel_rfl):G P fn Post st u m:=G.ret v h hp
def Fn0.o {R:Value->PH->Prop}{f:FuncId}{args:List Value}(hf:P.funcs[f]?=some fn)(h:G P fn ⟨fun v u' m'=>m'=PH.mt/\R v u',PH.mt⟩ (st0 fn args) u PH.mt)(hb:fn.body.isSome=true:=by kernel_rfl)(hn:Nat.ble args.length fn.ntmps=true:=by kernel_rfl):Fn0 P f args u R:=Fn0.of hf hb hn h
def Aj.o {PostV:Value->PH->PH->Prop}{f:FuncId}{args:List Value}(hf:P.funcs[f]?=some fn)(h:G P fn ⟨PostV,m⟩ (st0 fn args) u m)(hb:fn.body.isSome=true:=by kernel_rfl)(hn:Nat.ble args.length fn.ntmps=true:=by kernel_rfl):Aj P f args u m PostV:=Aj.of hf hb hn h
end
section
variable {l:List Nat}{n:Nat}
def val:List Nat->Nat
 |[]=>0
 |d::l=>d+1000000000*val l
def Low (l:List Nat):Prop:=∀ d,d∈l->d<1000000000
def Aa (n:Nat):List Nat:=if h:n=0 then [] else n%1000000000::Aa (n/1000000000)
termination_by n
decreasing_by omega
def nl (n:Nat):Nat:=(Aa n).length
def Bc:Aa 0 = []:=by unfold Aa;simp
def Fk (h:n≠0):Aa n=n%1000000000::Aa (n/1000000000):=by
 rw[Aa];simp[h]
def Ai (n:Nat):val (Aa n)=n:=by
 induction n using Nat.strongRecOn with
 |_ n ih =>
  by_cases h:n=0
  ·subst h;simp[Bc,val]
  rw[Fk h];simp only[val];rw[ih _ oV];omega
def Am (n:Nat):Low (Aa n):=by
 induction n using Nat.strongRecOn with
 |_ n ih =>
  by_cases h:n=0
  ·subst h;simp[Bc,Low]
  rw[Fk h];intro d a;rcases At6.1 a with rfl|a
  ·omega
  exact ih _ oV d a
theorem Fu :Aa n = []↔n=0:=by
 constructor
 ·intro h;have:=Ai n;rw[h]at this;simp[val]at this;omega
 ·rintro rfl;exact Bc
def Oc (l m:List Nat):val (l++m)=val l+1000000000^l.length*val m:=by
 induction l with
 |nil=>simp[val]
 |cons d l ih =>
  simp only[Ayt,val,ih,Auh,Auc];rw[Aui,<-Atz,At7 1000000000 (1000000000^l.length),Avl]
def Ia (l:List Nat)(d:Nat):val (l++[d])=val l+1000000000^l.length*d:=by
 rw[Oc];simp[val]
def Low.nil:Low []:=by simp[Low]
def Low.cons {d:Nat}(h:d<1000000000)(e:Low l):Low (d::l):=by
 intro x a;rcases At6.1 a with rfl|a
 ·exact h
 exact e x a
def Low.append {l m:List Nat}(h:Low l)(k:Low m):Low (l++m):=by
 intro x a;rcases Ati.1 a with a|a
 ·exact h x a
 exact k x a
def Low.take (h:Low l)(k:Nat):Low (l.take k):=fun x a=>h x (Avd a)
def Low.drop (h:Low l)(k:Nat):Low (l.drop k):=fun x a=>h x (Avz a)
def Low.zeros (k:Nat):Low (List.replicate k 0):=by intro x a;have:=Av2 a;omega
def Low.getD (h:Low l)(k:Nat):l.getD k 0<1000000000:=by
 by_cases a:k<l.length
 ·rw[As7,As5 a];exact h _ (Ath a)
 rw[As7,Att oV];simp
def I9 (h:Low l):val l<1000000000^l.length:=by
 induction l with
 |nil=>simp[val]
 |cons d l ih =>
  have f:=h d mV;have a:=ih (fun x e=>h x (by simp[e]));simp only[val,Auh,Auc];have:val l+1<=1000000000^l.length:=a;have:=Aul 1000000000 this;rw[At7 (1000000000^l.length)];omega
def W8 (k:Nat):val (List.replicate k 0)=0:=by
 induction k with
 |zero=>rfl
 |succ k ih=>simp[A0b,val,ih]
def Aw (l:List Nat)(k:Nat):val (l.take (k+1))=val (l.take k)+1000000000^k*l.getD k 0:=by
 by_cases a:k<l.length
 ·rw[List.take_succ_eq_append_getElem a,Ia,Atm,Av6 oV];simp[a]
 rw[Atp oV,Atp oV];have:l[k]?=none:=Att oV;simp[this]
def Bl (l:List Nat):Nat->Nat
 |0=>0
 |n+1=>if l.getD n 0=0 then Bl l n else n+1
def Jx (l:List Nat)(n:Nat):Bl l n<=n:=by
 induction n with
 |zero=>simp[Bl]
 |succ n ih=>simp only[Bl];split<;>omega
def Nb (h:n≠0):(Aa n).getD ((Aa n).length-1) 0≠0:=by
 induction n using Nat.strongRecOn with
 |_ n ih =>
  rw[Fk h];by_cases a:n/1000000000=0
  ·rw[a,Bc];simp;omega
  have d:=ih _ oV a;have f:(Aa (n/1000000000)).length≠0:=by
   intro e;exact a (Fu.1 (Auo e))
  simp only[Auh,Avv];obtain⟨m,g⟩:∃ m,(Aa (n/1000000000)).length=m+1:=⟨_,(Nat.succ_pred_eq_of_ne_zero f).symm⟩;rw[g]at d⊢;simpa using d
def Ag4 (h:Low l)(q:l≠[]->l.getD (l.length-1) 0≠0):Aa (val l)=l:=by
 induction l with
 |nil=>simp[val,Bc]
 |cons d l ih =>
  have v:=h d mV;have k:Low l:=fun x u=>h x (by simp[u]);have g:l≠[]->l.getD (l.length-1) 0≠0:=by
   intro f;have:=q mV;obtain⟨m,t⟩:∃ m,l.length=m+1:=⟨l.length-1,by have:=Avq.2 f;omega⟩;simp only[Auh,Avv,t]at this⊢;simpa using this
  have f:val (d::l)≠0:=by
   by_cases a:l = []
   ·subst a;have:=q mV;simp at this;simp[val];omega
   intro e;have j:=ih k g;simp only[val]at e;have:val l=0:=oV;rw[this,Bc]at j;exact a j.symm
  rw[Fk f];simp only[val];rw[show (d+1000000000*val l)%1000000000=d by omega,show (d+1000000000*val l)/1000000000=val l by omega,ih k g]
def Rn (l:List Nat)(n:Nat):val (l.take (Bl l n))=val (l.take n):=by
 induction n with
 |zero=>simp[Bl]
 |succ n ih =>
  simp only[Bl];split
  ·rename_i h;rw[ih,Aw,h];simp
  rfl
def Rh (l:List Nat)(n:Nat)(h:Bl l n≠0):l.getD (Bl l n-1) 0≠0:=by
 induction n with
 |zero=>simp[Bl]at h
 |succ n ih =>
  simp only[Bl]at h⊢;split
  ·rename_i h0;rw[if_pos h0]at h;exact ih h
  rename_i h0;simpa using h0
def H8 (h:Low l):Aa (val l)=l.take (Bl l l.length):=by
 have e:val l=val (l.take (Bl l l.length)):=by rw[Rn,At9]
 rw[e];refine Ag4 (h.take _) (fun a=>?_);have d:=Jx l l.length;have h0:Bl l l.length≠0:=by intro f;rw[f]at a;simp at a
 have:=Rh l l.length h0;rw[Atm,Av6 d];rw[As7,Avu,if_pos oV,<-As7];exact this
def Rv:nl 0=0:=by simp[nl,Bc]
def Ck (n:Nat):n<1000000000^nl n:=by
 have:=I9 (Am n);rwa[Ai]at this
def A0 {n k : Nat} (h : n < 1000000000 ^ k) : nl n ≤ k := by
  induction k generalizing n with
  | zero => have : n = 0 := by simp at h; omega
            subst this; simp [Rv]
  | succ k ih =>
    by_cases h0 : n = 0
    · subst h0; simp [Rv]
    have : n / 1000000000 < 1000000000 ^ k := by
      rw [Au4 oV]; rwa [Auc] at h
    have := ih this
    simp only [nl] at this ⊢
    rw [Fk h0]; simp; omega
def Ct {m n:Nat}(h:m<=n):nl m<=nl n:=A0 (Aum h (Ck n))
def Pr (h:n≠0):1000000000^(nl n-1)<=n:=by
 rcases At8 n (1000000000^(nl n-1)) with a|a
 ·have:=A0 a;have d:nl n≠0:=by
   intro e;exact h (Fu.1 (Auo e))
  omega
 exact a
def Al2 (m n:Nat):nl (m+n)<=max (nl m) (nl n)+1:=by
 refine A0 ?_;have a:=Ck m;have d:=Ck n;have e:1000000000^nl m<=1000000000^max (nl m) (nl n):=Atq oV oV;have f:1000000000^nl n<=1000000000^max (nl m) (nl n):=Atq oV oV;rw[Auc];omega
def Fz (m n:Nat):nl (m*n)<=nl m+nl n:=by
 refine A0 ?_;rw[Aww];exact Nat.mul_lt_mul'' (Ck m) (Ck n)
end
section
variable {a:Option Addr}{cs:List Value}{w:World}
def Ext (w w':World):Prop:=Below w.heap.size w w'
def Ext.refl (w:World):Ext w w:=Below.refl _ _
def Ext.trans {a b c:World}(h:Ext a b)(k:Ext b c):Ext a c:=Below.trans h (Below.mono k h.size)
def Ext.alloc {a w:World}(h:Ext a w)(o:Obj):Ext a (w.alloc o):=Below.alloc h h.size o
def Ext.drew {a w:World}(h:Ext a w):Ext a w.drew:=Below.drew h
def Ext.cell {w w':World}(h:Ext w w'){p:Addr}{v:Value}(hp:w.cell? p=some v):w'.cell? p=some v:=by
 rw[Below.cell h (block_lt_of_cell hp)];exact hp
def Ext.size {w w':World}(h:Ext w w'):w.heap.size<=w'.heap.size:=Below.size h
def Ext.setCell {a w:World}(h:Ext a w){p:Addr}(hp:a.heap.size<=p.block)(u:Value):Ext a (w.setCell p u):=Below.setCell h hp u
def Ext.grown {a w w':World}{row:Option Nat}(h:Ext a w)(d:w.grownBy w' row)(e:∀ k,row=some k->a.heap.size<=k):Ext a w' :=
 Below.grown h d h.size e
def Row (w:World)(a:Option Addr)(cs:List Value):Prop :=
 ∀ j,j<cs.length->∃ b off,a=some ⟨b,off,none⟩/\w.cell? ⟨b,off+j,none⟩=some (cs.getD j (.bool false))
def Row.ext {w w':World}(h:Row w a cs)(x:Ext w w'):Row w' a cs:=by
 intro j f;obtain⟨b,off,d,e⟩:=h j f;exact⟨b,off,d,x.cell e⟩
def Row.nil (w:World)(a:Option Addr):Row w a []:=fun j d=>absurd d mV
def Row.take (h:Row w a cs)(k:Nat):Row w a (cs.take k):=by
 intro j f;rw[Atm]at f;obtain⟨b,off,d,e⟩:=h j oV;refine⟨b,off,d,?_⟩;rw[e,As7,As7,Avu,if_pos oV]
def Row.of_owns {w:World}{base:Nat}{e:TypeId}{size:Nat}{g n cap:Nat}{xs:List Value}
 (h:w.ownsRow base e size (.slice (some ⟨g,0,none⟩) n cap) n xs):Row w (some ⟨g,0,none⟩) xs:=by
 intro j d;refine⟨g,0,rfl,?_⟩;rw[h.1]at d;have:=h.cellAt j d;rw[Aud,this,As7];have f:j<xs.length:=by rw[h.1];exact d
 rw[As5 f];rfl
def Ay (l:List Nat):List Value:=l.map fun (n:Nat)=>Value.int .u64 (n:Int)
@[simp] theorem Q8 (l:List Nat):(Ay l).length=l.length:=by simp[Ay]
def Row.at {l:List Nat}(h:Row w a (Ay l)){j:Nat}(d:j<l.length) :
 ∃ b off,a=some ⟨b,off,none⟩/\w.cell? ⟨b,off+j,none⟩=some (.int .u64 (l.getD j 0:Nat)):=by
 obtain⟨b,off,e,f⟩:=h j (by simpa[Ay] using d);exact⟨b,off,e,by rw[f];simp[Ay,d]⟩
def Tk (l:List Nat)(j n:Nat):(Ay l).set j (.int .u64 (n:Int))=Ay (l.set j n):=by simp[Ay,Axb]
def Xb (l:List Nat)(k:Nat):(Ay l).take k=Ay (l.take k):=by simp[Ay,Ayy]
def Ad0 (n:Nat):List.replicate n (Value.int .u64 0)=Ay (List.replicate n 0):=by simp[Ay]
def Uz (w:World)(v:Value)(l:List Nat):Prop:=∃ a cap,v=.slice a l.length cap/\l.length<=cap/\Row w a (Ay l)
def Ci (w:World)(v:Value)(n:Nat):Prop:=Uz w v (Aa n)
def Uz.ext {w w':World}{v:Value}{l:List Nat}(h:Uz w v l)(x:Ext w w'):Uz w' v l:=by
 obtain⟨a,cap,d,e,f⟩:=h;exact⟨a,cap,d,e,f.ext x⟩
def Ci.ext {w w':World}{v:Value}{n:Nat}(h:Ci w v n)(x:Ext w w'):Ci w' v n:=Uz.ext h x
def Ci.zero (w:World)(a:Option Addr)(cap:Nat):Ci w (.slice a 0 cap) 0:=by
 refine⟨a,cap,by rw[Bc];rfl,by rw[Bc];simp,?_⟩;rw[Bc];simp[Ay];exact Row.nil _ _
end
def V5 {a:Option Addr}{m n c:Nat}(h:m=n):Ending.returned (.slice a m c)=.returned (.slice a n c):=by rw[h]
def Ao0 {k:IntKind}{a b:Int}(h:a=b):Ending.returned (.int k a)=.returned (.int k b):=by rw[h]
def Al3 (a:Option Addr)(cap:Nat)(l:List Nat)(w:World)(q:l.length<=9223372036854775807)(m:l.length<=cap)
 (h:Row w a (Ay l)) :
 Calls prog 172 #[.slice a l.length cap] w fun e w'=>e=.returned (.slice a (Bl l l.length) cap)/\w=w':=by
 have u:=Lib.hid h;clear h
 go_enter func172,ntmps172
 go_wp2
 go_loop [3] (fun n=>∃ k:Nat,k<=l.length/\n=.int .i64 k/\Bl l l.length=Bl l k) (fun n=>(intOf n).toNat)
 case atStart=>exact⟨l.length,oV,rfl,rfl⟩
 case round =>
  obtain⟨k,z,rfl,t⟩:=hrel;have d:=Lib.hid t;clear t;rcases k with _|k
  ·go_wp2
   go_ret
   exact⟨V5 (by rw[d.out];rfl),rfl⟩
  obtain⟨b,off,rfl,v⟩:=u.out.at (j:=k) oV;obtain⟨x,f⟩:∃ x,x=l.getD k 0:=⟨_,rfl⟩;rw[<-f]at v;have g:=Lib.hid f;clear f;by_cases h0:x=0
  ·subst h0
   go_wp2
   go_round
   case rel=>exact⟨k,oV,rfl,by rw[d.out];simp only[Bl,<-g.out,if_true]⟩
   case measure=>simp[intOf]
  have y:((x:Int)==0)=false:=gV
  go_wp2
  go_ret
  exact⟨V5 (by rw[d.out];simp only[Bl,<-g.out,if_neg h0]),rfl⟩
def S2 (a:Option Addr)(cap:Nat)(l:List Nat)(i:Int)(w:World)(h:l.length<=9223372036854775807)(hi:0<=i)
 (g:Row w a (Ay l)) :
 Calls prog 221 #[.slice a l.length cap,.int .i64 i] w fun e w'=>e=.returned (.int .u64 (l.getD i.toNat 0:Nat))/\w=w':=by
 obtain⟨k,rfl⟩:=Ax9 hi;rw[Avo];have f:=Lib.hid g;clear g;by_cases n:k<l.length
 ·obtain⟨b,off,rfl,d⟩:=f.out.at (j:=k) n;obtain⟨x,m⟩:∃ x,x=l.getD k 0:=⟨_,rfl⟩;rw[<-m]at d⊢;clear f m
  go_enter func221,ntmps221
  go_wp2
  go_ret
  exact⟨rfl,rfl⟩
 have d:l.getD k 0=0:=by
  have:l[k]?=none:=Att oV;simp[this]
 rw[d];clear f d
 go_enter func221,ntmps221
 go_wp2
 go_ret
 exact⟨rfl,rfl⟩
def sgn (n:Int):Int:=if n<0 then -1 else if 0<n then 1 else 0
def Alp (n:Int)(w:World) :
 Calls prog 222 #[.int .i64 n] w fun e w'=>e=.returned (.int .i64 (sgn n))/\w=w':=by
 rcases Awd n 0 with h|h|h
 ·have a:sgn n = -1:=by simp[sgn,h]
  rw[a];clear a
  go_enter func222,ntmps222
  go_wp2
  go_ret
  exact⟨rfl,rfl⟩
 ·subst h
  go_enter func222,ntmps222
  go_wp2
  go_ret
  exact⟨rfl,rfl⟩
 have a:sgn n=1:=by simp[sgn,h];omega
 rw[a];clear a;have d:¬ n<0:=oV
 go_enter func222,ntmps222
 go_wp2
 go_ret
 exact⟨rfl,rfl⟩
def F7 (a:Option Addr)(cap n:Nat)(l:List Nat)(w:World)(h:l.length=n)(f:n<=9223372036854775807)(d:n<=cap)
 (g:Row w a (Ay l)) :
 Calls prog 172 #[.slice a n cap] w fun e w'=>e=.returned (.slice a (Bl l l.length) cap)/\w=w':=by
 subst h;exact Al3 a cap l w f d g
section
variable {a b o ys:List Nat}{c d i k r x y:Nat}
def G9 (p t:Nat):p*(t%1000000000)+p*1000000000*(t/1000000000)=p*t:=by
 rw[Atz,<-Aui,Nat.mod_add_div]
structure Jp (a b:List Nat)(k:Nat)(ys:List Nat)(c:Nat):Prop where
 len:ys.length=k
 low:Low ys
 carry:c<=1
 sum:val ys+1000000000^k*c=val (a.take k)+val (b.take k)
def Jp.start (a b:List Nat):Jp a b 0 [] 0:=⟨rfl,Low.nil,oV,by simp[val]⟩
def Jp.step (h:Jp a b k ys c)(m:Low a)(n:Low b)(e:x=a.getD k 0)(f:y=b.getD k 0) :
 Jp a b (k+1) (ys++[(x+y+c)%1000000000]) ((x+y+c)/1000000000):=by
 have g:=m.getD k;have j:=n.getD k;have q:=h.carry;rw[<-e]at g;rw[<-f]at j;refine⟨by simp[h.len],h.low.append (Low.cons oV Low.nil),oV,?_⟩;rw[Ia,Aw,Aw,h.len,<-e,<-f,Auc,Avl,G9];have:=h.sum;rw[Aui,Aui];omega
def Jp.done (h:Jp a b (max a.length b.length+1) ys c)(n:Low a)(q:Low b):val ys=val a+val b:=by
 have e:=h.sum;rw[Atp oV,Atp oV]at e;have f:=I9 n;have g:=I9 q;have j:1000000000^a.length<=1000000000^max a.length b.length:=Atq oV oV;have m:1000000000^b.length<=1000000000^max a.length b.length:=Atq oV oV;rw[Auc]at e;have u:=Auf f j;have v:=Auf g m;have t:=h.carry;clear f g j m h;generalize 1000000000^max a.length b.length=p at *
 rcases At5 c with h0|h0
 ·subst h0;rw[Avw,Avb]at e;exact e
 have f:c=1:=Az3 t h0;subst f;rw[Ayl]at e;omega
structure Jn (a b:List Nat)(k:Nat)(ys:List Nat)(c:Nat):Prop where
 len:ys.length=k
 low:Low ys
 carry:c<=1
 sum:val ys+val (b.take k)=val (a.take k)+1000000000^k*c
def Jn.start (a b:List Nat):Jn a b 0 [] 0:=⟨rfl,Low.nil,oV,by simp[val]⟩
def Jn.step (h:Jn a b k ys c)(n:Low a)(q:Low b)(e:x=a.getD k 0)(f:y=b.getD k 0) :
 Jn a b (k+1) (ys++[(x+1000000000-y-c)%1000000000]) (1-(x+1000000000-y-c)/1000000000):=by
 have j:=n.getD k;have m:=q.getD k;have z:=h.carry;rw[<-e]at j;rw[<-f]at m;refine⟨by simp[h.len],h.low.append (Low.cons oV Low.nil),oV,?_⟩;rw[Ia,Aw,Aw,h.len,<-e,<-f,Auc];have A:=h.sum;generalize 1000000000^k=p at *
 obtain⟨t,u⟩:∃ t,t=x+1000000000-y-c:=⟨_,rfl⟩;rw[<-u];have g:t%1000000000+y+c=x+1000000000*(1-t/1000000000):=oV
 have v:p*(t%1000000000)+p*y+p*c=p*x+p*1000000000*(1-t/1000000000):=by
  rw[Atz,<-Aui,<-Aui,<-Aui,g]
 omega
def Jn.done (h:Jn a b a.length ys c)(g:b.length<=a.length)(j:val b<=val a):val ys=val a-val b:=by
 have e:=h.sum;rw[Atp (Atb _),Atp g]at e;have f:=I9 h.low;rw[h.len]at f;rcases At5 c with h0|h0
 ·subst h0;simp at e;omega
 have:1000000000^a.length*1<=1000000000^a.length*c:=Aul _ h0;omega
def Fj (l:List Nat)(k:Nat)(e:k<=l.length):val l=val (l.take k)+1000000000^k*val (l.drop k):=by
 have:=Oc (l.take k) (l.drop k);rw[Awg,Atm,Av6 e]at this;exact this
def B6 (l:List Nat)(k:Nat)(e:k<l.length):l.drop k=l.getD k 0::l.drop (k+1):=by
 rw[Aw9 e];simp[e]
def Ga {a b:List Nat}{k:Nat}(n:a.length=b.length)(m:k<a.length)(g:Low a)(j:a.drop (k+1)=b.drop (k+1))
 (h:a.getD k 0<b.getD k 0):val a<val b:=by
 rw[Fj a k oV,Fj b k oV,B6 a k m,B6 b k oV,j];simp only[val];have f:=I9 (g.take k);rw[Atm,Av6 oV]at f;generalize 1000000000^k=p at *
 generalize val (List.drop (k+1) b)=q;have:p*(a.getD k 0+1+1000000000*q)<=p*(b.getD k 0+1000000000*q):=Aul _ oV;have e:p*(a.getD k 0+1+1000000000*q)=p*(a.getD k 0+1000000000*q)+p:=by
  rw[show a.getD k 0+1+1000000000*q=(a.getD k 0+1000000000*q)+1 by omega,Aui,Ayl]
 omega
def I3 {m n:Nat}(h:nl m<nl n):m<n:=by
 rcases At8 m n with e|e
 ·exact e
 have:=Ct e;omega
structure Fn (a b:List Nat)(i k:Nat)(o:List Nat)(c:Nat):Prop where
 len:o.length=a.length+b.length
 low:Low o
 carry:c<1000000000
 sum:val o+1000000000^(i+k)*c=val (a.take i)*val b+1000000000^i*(a.getD i 0*val (b.take k))
 high:∀ j,i+b.length<=j->o.getD j 0=0
def Af9 (l:List Nat)(j d:Nat)(e:j<l.length):val (l.set j d)+1000000000^j*l.getD j 0=val l+1000000000^j*d:=by
 induction l generalizing j with
 |nil=>simp at e
 |cons x l ih =>
  cases j with
  |zero=>simp[val];omega
  |succ j =>
   have:=ih j (by simpa using e);simp only[Avi,val,A11,Auc];have f:1000000000^j*1000000000*l.getD j 0=1000000000*(1000000000^j*l.getD j 0):=by rw[At7 (1000000000^j),Atz]
   have g:1000000000^j*1000000000*d=1000000000*(1000000000^j*d):=by rw[At7 (1000000000^j),Atz]
   rw[f,g];omega
def Low.set {l:List Nat}(h:Low l)(j:Nat)(f:d<1000000000):Low (l.set j d):=by
 intro x e;rcases Axy e with e|rfl
 ·exact h x e
 exact f
def Fo (l:List Nat){i j:Nat}(d:Nat)(h:i≠j):(l.set i d).getD j 0=l.getD j 0:=by
 simp[As7,h]
def Fn.start (a b:List Nat):Fn a b 0 0 (List.replicate (a.length+b.length) 0) 0:=by
 refine⟨mV,Low.zeros _,oV,by simp[W8,val],fun j _=>?_⟩;rw[As7,Avg];split<;>rfl
def Fn.step {a b o:List Nat}{i k c x y z t:Nat}(h:Fn a b i k o c)(A:Low a)(B:Low b)(L:k<b.length)(hi:i<a.length)
 (f:x=a.getD i 0) (m:y=b.getD k 0) (n:z=o.getD (i+k) 0) (E:t=z+x*y+c) :
 Fn a b i (k+1) (o.set (i+k) (t%1000000000)) (t/1000000000):=by
 have q:=A.getD i;have u:=B.getD k;have v:=h.low.getD (i+k);have J:=h.carry;rw[<-f]at q;rw[<-m]at u;rw[<-n]at v;have H:x*y<=999999999*999999999:=Aut oV oV;refine⟨by simp[h.len],h.low.set _ (Au3 _ oV),oV,?_,fun j C=>?_⟩
 ·have F:=Af9 o (i+k) (t%1000000000) (by have:=h.len;omega);rw[<-n]at F;have g:=h.sum;rw[<-f]at g;have D:val (a.take i)*val b+1000000000^i*(x*val (b.take (k+1)))=val o+1000000000^(i+k)*c+1000000000^i*(x*(1000000000^k*y)):=by
   rw[g,Aw,<-m,Aui x,Aui (1000000000^i),Avl]
  rw[<-f,D];rw[show i+(k+1)=i+k+1 by omega,Auc];have K:=G9 (1000000000^(i+k)) t;have e:1000000000^i*(x*(1000000000^k*y))=1000000000^(i+k)*(x*y):=by
   rw[Aww,Atz];congr 1;rw[<-Atz,At7 x,Atz]
  rw[e];generalize 1000000000^(i+k)=p at *
  have I:p*t=p*z+p*(x*y)+p*c:=by rw[E,Aui,Aui]
  omega
 rw[Fo _ _ oV];exact h.high j C
def Fn.next (h:Fn a b i b.length o c)(hi:i<a.length) :
 o.getD (i+b.length) 0=0/\Fn a b (i+1) 0 (o.set (i+b.length) c) 0:=by
 have h0:=h.high (i+b.length) (Atb _);refine⟨h0,by simp[h.len],h.low.set _ h.carry,oV,?_,fun j m=>?_⟩
 ·have f:=Af9 o (i+b.length) c (by have:=h.len;omega);rw[h0]at f;have g:=h.sum;rw[Atp (Atb _)]at g;rw[Aw,At2];have e:1000000000^i*a.getD i 0*val b=1000000000^i*(a.getD i 0*val b):=Atz _ _ _;rw[e,<-g];rw[Avw,Avb]at f;rw[Ayo,val,Avw,Avw,Avw,Avb,Avb];exact f
 rw[Fo _ _ oV];exact h.high j oV
def Fn.done (h:Fn a b a.length 0 o 0):val o=val a*val b:=by
 have e:=h.sum;rw[Atp (Atb _)]at e;simpa[val] using e
structure Ho (a:List Nat)(d k:Nat)(o:List Nat)(r:Nat):Prop where
 len:o.length=a.length
 low:Low o
 rest:r<d
 sum:val (a.drop k)=d*val (o.drop k)+r
def Ho.start (a:List Nat)(d:Nat)(e:0<d):Ho a d a.length (List.replicate a.length 0) 0 :=
 ⟨mV,Low.zeros _,e,by simp[val]⟩
def Ho.step (h:Ho a d (k+1) o r)(u:Low a)(e:k<a.length)(g:x=a.getD k 0) :
 Ho a d k (o.set k ((r*1000000000+x)/d)) ((r*1000000000+x)%d):=by
 have f:0<d:=Aum (Atu _) h.rest;have t:=u.getD k;rw[<-g]at t;have z:(r*1000000000+x)/d<1000000000:=by
  rw[Au4 f];have:(r+1)*1000000000<=d*1000000000:=Ats _ h.rest;rw[At7 1000000000 d];omega
 refine⟨by simp[h.len],h.low.set _ z,Au3 _ f,?_⟩;have j:=B6 a k e;have m:=B6 (o.set k ((r*1000000000+x)/d)) k (by simp[h.len,e]);rw[j,m,Ay5 oV];simp only[val,<-g];have n:(o.set k ((r*1000000000+x)/d)).getD k 0=(r*1000000000+x)/d:=by
  simp[As7,h.len,e]
 rw[n];have A:=h.sum;have v:=Avf (r*1000000000+x) d;generalize (r*1000000000+x)/d=q at *
 generalize (r*1000000000+x)%d=s at *
 rw[A,Aui,Aui,show d*(1000000000*val (List.drop (k+1) o))=1000000000*(d*val (List.drop (k+1) o)) by rw[<-Atz,At7 d,Atz]];omega
def Ho.done (h:Ho a d 0 o r):val o=val a/d/\r=val a%d:=by
 have e:=h.sum;simp only[Aw4]at e;have f:0<d:=Aum (Atu _) h.rest;rw[e];constructor
 ·rw[Nat.mul_add_div f,Aw1 h.rest];rfl
 rw[Nat.mul_add_mod,Axg h.rest]
end
def Sx (w:World)(n:Nat)(e:Ending)(w':World):Prop:=∃ v,e=.returned v/\Ci w' v n/\Ext w w'
def Tryz.info236:(prog.info? 236).map (fun i=>(i.zero,i.size,i.bytes))=some (some (.int .u64 0),1,8):=kV
def Jk (n:Nat):(madeCells (Value.int .u64 0).cells (n*1)).toList=Ay (List.replicate n 0):=by
 rw[Ayl];exact (toList_madeCells_one _ _).trans (Ad0 n)
def Dd {w:World}{a:Option Addr}{l:List Nat}{cap n:Nat}(f:Low l)(j:Row w a (Ay l))(g:val l=n)(k:l.length<=cap) :
 Ci w (.slice a (Bl l l.length) cap) n:=by
 have h:=H8 f;rw[g]at h;have e:=Jx l l.length;have d:(Aa n).length=Bl l l.length:=by rw[h,Atm,Av6 e]
 refine⟨a,cap,by rw[d],oV,?_⟩;rw[h,<-Xb];exact j.take _
def Are (w:World)(l m:List Nat)(n:Nat)(c i:Value)(wr:World):Prop :=
 ∃ (k:Nat) (ys:List Nat) (cc:Nat),k<=n/\i=.int .i64 k/\c=.int .u64 (cc:Int)/\Jp l m k ys cc /\
  wr.ownsRow w.heap.size 236 1 (.slice (some ⟨w.heap.size,0,none⟩) n n) n (Ay (ys++List.replicate (n-k) 0))/\Ext w wr
def Vz {w a:World}{e:TypeId}{n k:Nat}{ys:List Nat}{d:Nat}(q:k<n)(g:ys.length=k)
 (h:a.ownsRow w.heap.size e 1 (.slice (some ⟨w.heap.size,0,none⟩) n n) n (Ay (ys++List.replicate (n-k) 0))) (x:Ext w a) :
 (a.setCell ⟨w.heap.size,k,none⟩ (.int .u64 (d:Int))).ownsRow w.heap.size e 1 (.slice (some ⟨w.heap.size,0,none⟩) n n) n (Ay ((ys++[d])++List.replicate (n-(k+1)) 0)) /\
  Ext w (a.setCell ⟨w.heap.size,k,none⟩ (.int .u64 (d:Int))):=by
 obtain⟨f,m⟩:=h.stored k (.int .u64 (d:Int));refine⟨?_,x.setCell (Atb _) _⟩;rw[Tk]at f;have e:(ys++List.replicate (n-k) 0).set k d=(ys++[d])++List.replicate (n-(k+1)) 0:=by
  rw[Awm _ _ oV,g,Avc];obtain⟨r,j⟩:∃ r,n-k=r+1:=⟨n-k-1,oV⟩;rw[j,show n-(k+1)=r by omega,A0b,Avj,Au1];rfl
 rw[e]at f;exact f
set_option maxRecDepth 100000 in
def Amq (a b:Option Addr)(ca cb:Nat)(l m:List Nat)(w:World)(ha:Row w a (Ay l))(hb:Row w b (Ay m))(la:Low l)(lb:Low m)
 (sa:l.length<=10000000000000) (sb:m.length<=10000000000000) :
 Calls prog 183 #[.slice a l.length ca,.slice b m.length cb] w (Sx w (val l+val m)):=by
 obtain⟨i0,hi,E,F,H⟩:=info_parts Tryz.info236;have HI:=Lib.hid hi;have L:=Lib.hid E;have N:=Lib.hid F;have O:=Lib.hid H;clear hi E F H;have HA:=Lib.hid ha;have HB:=Lib.hid hb;have P:=Lib.hid la;have Q:=Lib.hid lb;clear ha hb la lb;obtain⟨n,hn⟩:∃ n,n=max l.length m.length+1:=⟨_,rfl⟩;have K:=Lib.hid hn;have a1:n<=10000000000001:=oV;clear hn;rcases At8 l.length m.length with R|R;all_goals
  go_enter func183,ntmps183
  go_wp2_with (at_make;refine wpList_make_full _ rfl _ _ 99 rfl w.heap.size 236 i0 (.int .u64 0) 1 Tryz.underlying99 HI.out L.out N.out .i64 .i64 _ _ n rfl rfl (by have:=K.out;omega) (by have:=K.out;omega) (by rw[O.out];omega) (by unfold maxLen;omega) (Atb _) ?_;intro w1 f j)
  rw[Jk]at f;have V:=Lib.hid f;have W:Hid (Ext w w1):=(Ext.refl w).grown j (fun k hk=>by cases hk);clear f j
  go_loopw [6,18] (Are w l m n) (fun _ i _=>n-(intOf i).toNat)
  case atStart=>exact⟨0,[],0,Atu _,rfl,rfl,Jp.start _ _,by simpa using V.out,W.out⟩
  case round =>
   obtain⟨k,ys,B,hk,rfl,rfl,v,f,A⟩:=hrel;have z:=Lib.hid v;have I:=Lib.hid f;have J:=Lib.hid A;have a0:=v.carry;clear v f A V W;by_cases T:k<n
   ·obtain⟨x,A⟩:∃ x,x=l.getD k 0:=⟨_,rfl⟩;obtain⟨y,U⟩:∃ y,y=m.getD k 0:=⟨_,rfl⟩;have a2:x<1000000000:=by rw[A];exact P.out.getD k
    have a3:y<1000000000:=by rw[U];exact Q.out.getD k
    have X:=Lib.hid A;have Y:=Lib.hid U;clear A U;have hf:=I.out.frozenAt k;have C:∃ u,wr.cell? ⟨w.heap.size,k,none⟩=some u:=by
     obtain⟨b,off,Z,h2⟩:=Row.of_owns I.out k (by simp[z.out.len];omega);simp only[Atd,Addr.mk.injEq,and_true]at Z;obtain⟨rfl,rfl⟩:=Z;rw[Aud]at h2;exact⟨_,h2⟩
    obtain⟨u,C⟩:=C
    go_wp2_with fail
    refine (S2 _ _ _ _ _ oV oV (HA.out.ext J.out)).mono ?_;rw[Avo,<-X.out];rintro e w' ⟨rfl,rfl⟩
    go_wp2_with fail
    refine (S2 _ _ _ _ _ oV oV (HB.out.ext J.out)).mono ?_;rw[Avo,<-Y.out];rintro e w' ⟨rfl,rfl⟩
    go_wp2
    rw[show ((x:Int)+y+B)%1000000000=(((x+y+B)%1000000000:Nat):Int) by omega,show ((x:Int)+y+B)/1000000000=(((x+y+B)/1000000000:Nat):Int) by omega];have hs:=z.out.step P.out Q.out X.out Y.out;have g:=Vz (d:=(x+y+B)%1000000000) T z.out.len I.out J.out;exact⟨⟨k+1,_,_,oV,by go_num,rfl,hs,g.1,g.2⟩,by simp only[intOf];omega⟩
   obtain rfl:k=n:=oV;have q:=z.out.len;have f:=I.out;rw[Avc,Av3,Auu]at f;have t:=Lib.hid (Row.of_owns f);have D:=Lib.hid (Dd (cap:=k) (n:=val l+val m) z.out.low t.out (by have h:=z.out;rw[K.out]at h;exact h.done P.out Q.out) oV);have HL:=Lib.hid q;clear f q
   go_wp2_with fail
   ((with_reducible refine (F7 _ _ _ ys _ HL.out oV oV t.out).mono ?_);rintro e w' ⟨rfl,rfl⟩)
   go_wp2
   go_ret
   exact⟨_,rfl,D.out,J.out⟩
def Adf (d e:Value)(m n:Nat)(w:World)(g:Ci w d m)(h:Ci w e n)(k:nl m<=10000000000000)(sb:nl n<=10000000000000) :
 Calls prog 183 #[d,e] w (Sx w (m+n)):=by
 obtain⟨a,f,rfl,_,j⟩:=g;obtain⟨b,cb,rfl,_,rb⟩:=h;have:=Amq a b f cb (Aa m) (Aa n) w j rb (Am _) (Am _) k sb;rw[Ai,Ai]at this;exact this
section
variable {n:Int}{v:Value}{w:World}
def Ext.drewN {a w:World}(h:Ext a w)(n:Nat):Ext a (w.drewN n):=by
 obtain⟨d,e,f,g,j⟩:=h;exact⟨d,e,f,g,j⟩
def Row.drewN {w:World}{a:Option Addr}{cs:List Value}(h:Row w a cs)(n:Nat):Row (w.drewN n) a cs:=h.ext ((Ext.refl w).drewN n)
def Nk {base:Nat}{e:TypeId}{size:Nat}{n:Nat}{xs:List Value}(h:w.ownsRow base e size v n xs)(k:Nat):(w.drewN k).ownsRow base e size v n xs:=h
def Ap7 (w:World)(l m:List Nat)(n:Nat)(c i:Value)(wr:World):Prop :=
 ∃ (k:Nat) (ys:List Nat) (cc:Nat),k<=n/\i=.int .i64 k/\c=.int .u64 (cc:Int)/\Jn l m k ys cc /\
  wr.ownsRow w.heap.size 236 1 (.slice (some ⟨w.heap.size,0,none⟩) n n) n (Ay (ys++List.replicate (n-k) 0))/\Ext w wr
set_option maxRecDepth 100000 in
def Aj9 (a b:Option Addr)(ca cb:Nat)(l m:List Nat)(w:World)(ha:Row w a (Ay l))(hb:Row w b (Ay m))(la:Low l)(lb:Low m)
 (sa:l.length<=10000000000000) (sb:m.length<=l.length) (I:val m<=val l) :
 Calls prog 185 #[.slice a l.length ca,.slice b m.length cb] w (Sx w (val l-val m)):=by
 obtain⟨i0,hi,L,N,O⟩:=info_parts Tryz.info236;have HI:=Lib.hid hi;have U:=Lib.hid L;have V:=Lib.hid N;have W:=Lib.hid O;clear hi L N O;have HA:=Lib.hid ha;have HB:=Lib.hid hb;have LA:=Lib.hid la;have LB:=Lib.hid lb;have LE:=Lib.hid I;clear ha hb la lb I;obtain⟨n,hn⟩:∃ n,n=l.length:=⟨_,rfl⟩;have D:=Lib.hid hn;have a2:n<=10000000000001:=oV;clear hn
 go_enter func185,ntmps185
 go_wp2_with (at_make;refine wpList_make_full _ rfl _ _ 99 rfl w.heap.size 236 i0 (.int .u64 0) 1 Tryz.underlying99 HI.out U.out V.out .i64 .i64 _ _ n rfl rfl (by have:=D.out;omega) (by have:=D.out;omega) (by rw[W.out];omega) (by unfold maxLen;omega) (Atb _) ?_;intro w1 f j)
 rw[Jk]at f;have Z:=Lib.hid f;have X1:Hid (Ext w w1):=(Ext.refl w).grown j (fun k hk=>by cases hk);clear f j
 go_loopw [6,14] (Ap7 w l m n) (fun _ i _=>n-(intOf i).toNat)
 case atStart=>exact⟨0,[],0,Atu _,rfl,rfl,Jn.start _ _,by simpa using Z.out,X1.out⟩
 case round =>
  obtain⟨k,ys,E,hk,rfl,rfl,A,f,B⟩:=hrel;have C:=Lib.hid A;have P:=Lib.hid f;have Q:=Lib.hid B;have a1:=A.carry;clear A f B Z X1;by_cases J:k<l.length
  ·have Y:k<n:=by rw[D.out];exact J
   obtain⟨x,B⟩:∃ x,x=l.getD k 0:=⟨_,rfl⟩;obtain⟨y,R⟩:∃ y,y=m.getD k 0:=⟨_,rfl⟩;have a3:x<1000000000:=by rw[B];exact LA.out.getD k
   have a4:y<1000000000:=by rw[R];exact LB.out.getD k
   obtain⟨ba,a0,rfl,X⟩:=(HA.out.ext Q.out).at J;rw[<-B]at X;have F:∀ q,Calls prog 221 #[.slice b m.length cb,.int .i64 k] (wr.drewN q) fun e w'=>e=.returned (.int .u64 (y:Int))/\w'=wr.drewN q:=fun q=>by
    have:=S2 b cb m k (wr.drewN q) oV oV ((HB.out.ext Q.out).drewN q);rw[Avo,<-R]at this;exact this.mono fun _ _ h=>⟨h.1,h.2.symm⟩
   have T:=Lib.hid F;have XX:=Lib.hid B;have YY:=Lib.hid R;clear B R F;have hf:=P.out.frozenAt k;have H:∃ u,wr.cell? ⟨w.heap.size,k,none⟩=some u:=by
    obtain⟨b,off,h1,h2⟩:=Row.of_owns P.out k (by simp[C.out.len];omega);simp only[Atd,Addr.mk.injEq,and_true]at h1;obtain⟨rfl,rfl⟩:=h1;rw[Aud]at h2;exact⟨_,h2⟩
   obtain⟨u,H⟩:=H
   go_wp2_with fail
   go_quiet ((go_at_call 221;exact Calls.quiet_of_same (T.out _)))
   go_wp2
   rw[show ((x:Int)+1000000000-y-E)%1000000000=(((x+1000000000-y-E)%1000000000:Nat):Int) by omega,show 1-((x:Int)+1000000000-y-E)/1000000000=((1-(x+1000000000-y-E)/1000000000:Nat):Int) by omega];have hs:=C.out.step LA.out LB.out XX.out YY.out;have g:=Vz (d:=(x+1000000000-y-E)%1000000000) Y C.out.len (Nk P.out nq) (Q.out.drewN nq);exact⟨⟨k+1,_,_,oV,by go_num,rfl,hs,g.1,g.2⟩,by simp only[intOf];omega⟩
  obtain rfl:k=n:=by have:=D.out;omega
  have t:=C.out.len;have f:=P.out;rw[Avc,Av3,Auu]at f;have z:=Lib.hid (Row.of_owns f);have K:=Lib.hid (Dd (cap:=k) (n:=val l-val m) C.out.low z.out (by have h:=C.out;rw[D.out]at h;exact h.done sb LE.out) oV);have HL:=Lib.hid t;clear f t
  go_wp2_with fail
  ((with_reducible refine (F7 _ _ _ ys _ HL.out oV oV z.out).mono ?_);rintro e w' ⟨rfl,rfl⟩)
  go_wp2
  go_ret
  exact⟨_,rfl,K.out,Q.out⟩
def Ac9 (e f:Value)(m n:Nat)(w:World)(h:Ci w e m)(j:Ci w f n)(q:nl m<=10000000000000)(d:n<=m) :
 Calls prog 185 #[e,f] w (Sx w (m-n)):=by
 obtain⟨a,g,rfl,_,k⟩:=h;obtain⟨b,cb,rfl,_,rb⟩:=j;have:=Aj9 a b g cb (Aa m) (Aa n) w k rb (Am _) (Am _) q (Ct d) (by rw[Ai,Ai];exact d);rw[Ai,Ai]at this;exact this
def Arv (w:World)(l m:List Nat)(i:Value)(wr:World):Prop :=
 ∃ k:Nat,k<=l.length/\i=.int .i64 ((k:Int)-1)/\l.drop k=m.drop k/\∃ q,wr=w.drewN q
def Cg (h:0<n):sgn n=1:=by unfold sgn;rw[if_neg oV,if_pos h]
def Dc (h:n<0):sgn n = -1:=by unfold sgn;rw[if_pos h]
def Ol:sgn 0=0:=by simp[sgn]
def Px (w:World)(v:Value)(e:Ending)(w':World):Prop:=e=.returned v/\∃ q,w'=w.drewN q
def Px.ext {e:Ending}{w':World}(h:Px w v e w'):e=.returned v/\Ext w w':=by
 obtain⟨a,q,rfl⟩:=h;exact⟨a,(Ext.refl w).drewN q⟩
set_option maxRecDepth 100000 in
def Y3 (a b:Option Addr)(Q cb:Nat)(l m:List Nat)(w:World)(D:Row w a (Ay l))(E:Row w b (Ay m))(la:Low l)(I:Low m)
 (V:l.length<=10000000000000) (sb:m.length=l.length) :
 Calls prog 184 #[.slice a l.length Q,.slice b l.length cb] w (Px w (.int .i64 (sgn ((val l:Int)-val m)))):=by
 have L:=Lib.hid D;have N:=Lib.hid E;have O:=Lib.hid la;have P:=Lib.hid I;have SB:=Lib.hid sb;clear D E la I sb
 go_enter func184,ntmps184
 go_wp2_with fail
 go_loopw [5] (Arv w l m) (fun i _=>(intOf i+1).toNat)
 case atStart=>exact⟨l.length,oV,rfl,by rw[Aue (Atb _),Aue (by rw[SB.out];exact Atb _)],0,rfl⟩
 case round =>
  obtain⟨k,U,rfl,F,q,rfl⟩:=hrel;have e:=Lib.hid F;clear F;rcases k with _|k
  ·go_wp2_with fail
   have h0:(val l:Int)-val m=0:=by have:=e.out;simp only[Aw4]at this;rw[this];omega
   go_ret
   refine⟨?_,q,rfl⟩;rw[h0,Ol];rfl
  rw[show ((k+1:Nat):Int)-1=k by omega];have d:k<l.length:=oV;obtain⟨R,J,rfl,h⟩:=L.out.at d;obtain⟨T,K,rfl,t⟩:=N.out.at (j:=k) (by rw[SB.out];exact d);obtain⟨x,B⟩:∃ x,x=l.getD k 0:=⟨_,rfl⟩;obtain⟨y,C⟩:∃ y,y=m.getD k 0:=⟨_,rfl⟩;rw[<-B]at h;rw[<-C]at t;have f:=Lib.hid B;have g:=Lib.hid C;clear B C;rcases Axu x y with A|u|z
  ·go_wp2_with fail
   go_quiet (fail)
   go_wp2_with fail
   have h0:(val l:Int)-val m<0:=by
    have:=Ga SB.out.symm d O.out e.out (by rw[<-f.out,<-g.out];exact A);omega
   go_ret
   refine⟨?_,_,World.drewN_drewN _ _ _⟩;rw[Dc h0];rfl
  ·subst u
   go_wp2_with fail
   go_quiet (fail)
   go_wp2_with fail
   go_quiet (fail)
   go_wp2_with fail
   refine⟨⟨k,oV,by go_num,?_,_,rfl⟩,by simp only[intOf];omega⟩;rw[B6 l k d,B6 m k (by rw[SB.out];exact d),e.out,<-f.out,<-g.out]
  have H:¬ x<y:=oV
  go_wp2_with fail
  go_quiet (fail)
  go_wp2_with fail
  go_quiet (fail)
  go_wp2_with fail
  have h0:0<(val l:Int)-val m:=by
   have:=Ga SB.out (by rw[SB.out];exact d) P.out e.out.symm (by rw[<-f.out,<-g.out];exact z);omega
  go_ret
  refine⟨?_,_,by rw[World.drewN_drewN,World.drewN_drewN]⟩;rw[Cg h0];rfl
set_option maxRecDepth 100000 in
def Add (a b:Option Addr)(f cb m n:Nat)(w:World)(h:m<=10000000000000)(sb:n<=10000000000000)(d:m≠n) :
 Calls prog 184 #[.slice a m f,.slice b n cb] w (Px w (.int .i64 (sgn ((m:Int)-n)))):=by
 have g:((m:Int) != n)=true:=by rw[bne_iff_ne];omega
 clear d
 go_enter func184,ntmps184
 go_wp2_with fail
 refine (Alp _ _).mono ?_;rintro e w' ⟨rfl,rfl⟩
 go_wp2_with fail
 go_ret
 exact⟨rfl,0,rfl⟩
def Aiv {a b c d:Nat}(f:a<b↔c<d)(g:b<a↔d<c):sgn ((a:Int)-b)=sgn ((c:Int)-d):=by
 rcases Axu a b with h|h|h
 ·have:=f.1 h;rw[Dc oV,Dc oV]
 ·have j:¬ c<d:=fun e=>by have:=f.2 e;omega
  have k:¬ d<c:=fun e=>by have:=g.2 e;omega
  rw[show (a:Int)-b=0 by omega,show (c:Int)-d=0 by omega]
 have:=g.1 h;rw[Cg oV,Cg oV]
def Fw (k q:Value)(m n:Nat)(w:World)(t:Ci w k m)(u:Ci w q n)(j:nl m<=10000000000000)(sb:nl n<=10000000000000) :
 Calls prog 184 #[k,q] w (Px w (.int .i64 (sgn ((m:Int)-n)))):=by
 obtain⟨a,g,rfl,_,x⟩:=t;obtain⟨b,cb,rfl,_,rb⟩:=u;by_cases h:(Aa n).length=(Aa m).length
 ·have:=Y3 a b g cb (Aa m) (Aa n) w x rb (Am _) (Am _) j h;rw[Ai,Ai]at this;rw[h];exact this
 have:=Add a b g cb (Aa m).length (Aa n).length w j sb (fun e=>h e.symm);rw[Aiv (a:=(Aa m).length) (b:=(Aa n).length) (c:=m) (d:=n)]at this
 ·exact this
 ·constructor
  ·exact fun f=>I3 f
  intro f;have:=Ct (Az4 f);unfold nl at this;omega
 constructor
 ·exact fun f=>I3 f
 intro f;have:=Ct (Az4 f);unfold nl at this;omega
end
section
variable {e:TypeId}{n:Nat}{o:List Nat}{w wr:World}
def Aqc (w:World)(l m:List Nat)(n:Nat)(i:Value)(wr:World):Prop :=
 ∃ (k:Nat) (o:List Nat),k<=l.length/\i=.int .i64 k/\Fn l m k 0 o 0 /\
  wr.ownsRow w.heap.size 236 1 (.slice (some ⟨w.heap.size,0,none⟩) n n) n (Ay o)/\Ext w wr
def Ana (w:World)(l m:List Nat)(n j:Nat)(c i:Value)(wr:World):Prop :=
 ∃ (k:Nat) (o:List Nat) (cc:Nat),k<=m.length/\i=.int .i64 k/\c=.int .u64 (cc:Int)/\Fn l m j k o cc /\
  wr.ownsRow w.heap.size 236 1 (.slice (some ⟨w.heap.size,0,none⟩) n n) n (Ay o)/\Ext w wr
def N2 {n j:Nat}(h:wr.ownsRow w.heap.size e 1 (.slice (some ⟨w.heap.size,0,none⟩) n n) n (Ay o))(f:j<o.length) :
 wr.cell? ⟨w.heap.size,j,none⟩=some (.int .u64 (o.getD j 0:Nat)):=by
 obtain⟨b,off,a,d⟩:=(Row.of_owns h).at f;simp only[Atd,Addr.mk.injEq,and_true]at a;obtain⟨rfl,rfl⟩:=a;rw[Aud]at d;exact d
def P8 (j d:Nat)(h:wr.ownsRow w.heap.size e 1 (.slice (some ⟨w.heap.size,0,none⟩) n n) n (Ay o))(x:Ext w wr) :
 (wr.setCell ⟨w.heap.size,j,none⟩ (.int .u64 (d:Int))).ownsRow w.heap.size e 1 (.slice (some ⟨w.heap.size,0,none⟩) n n) n (Ay (o.set j d)) /\
  Ext w (wr.setCell ⟨w.heap.size,j,none⟩ (.int .u64 (d:Int))):=by
 refine⟨?_,x.setCell (Atb _) _⟩;have:=(h.stored j (.int .u64 (d:Int))).1;rw[Tk]at this;exact this
def Abi (w:World)(n:Nat)(e:Ending)(w':World):Prop:=∃ k cap,e=.returned (.slice (some ⟨w.heap.size,0,none⟩) k cap)/\Ci w' (.slice (some ⟨w.heap.size,0,none⟩) k cap) n/\Ext w w'
set_option maxRecDepth 100000 in
def Al0 (a b:Option Addr)(ca cb:Nat)(l m:List Nat)(w:World)(ha:Row w a (Ay l))(hb:Row w b (Ay m))(la:Low l)(lb:Low m)
 (sa:l.length<=10000000000000) (sb:m.length<=10000000000000) :
 Calls prog 164 #[.slice a l.length ca,.slice b m.length cb] w (Abi w (val l*val m)):=by
 obtain⟨i0,hi,T,I,U⟩:=info_parts Tryz.info236;have HI:=Lib.hid hi;have a0:=Lib.hid T;have a1:=Lib.hid I;have a2:=Lib.hid U;clear hi T I U;have HA:=Lib.hid ha;have HB:=Lib.hid hb;have LA:=Lib.hid la;have LB:=Lib.hid lb;clear ha hb la lb;obtain⟨n,hn⟩:∃ n,n=l.length+m.length:=⟨_,rfl⟩;have K:=Lib.hid hn;have ac:n<=20000000000001:=oV;have ad:l.length+m.length<=n:=oV;clear hn
 go_enter func164,ntmps164
 go_wp2_with (at_make;refine wpList_make_full _ rfl _ _ 99 rfl w.heap.size 236 i0 (.int .u64 0) 1 Tryz.underlying99 HI.out a0.out a1.out .i64 .i64 _ _ n rfl rfl (by have:=K.out;omega) (by have:=K.out;omega) (by rw[a2.out];omega) (by unfold maxLen;omega) (Atb _) ?_;intro w1 d q)
 rw[Jk]at d;have HO:=Lib.hid d;have X1:Hid (Ext w w1):=(Ext.refl w).grown q (fun k hk=>by cases hk);clear d q
 go_loopw [20] (Aqc w l m n) (fun i _=>l.length-(intOf i).toNat)
 case atStart=>exact⟨0,_,Atu _,rfl,Fn.start _ _,by rw[<-K.out];exact HO.out,X1.out⟩
 case round =>
  obtain⟨j,o,hk,rfl,Q,d,H⟩:=hrel;have L:=Lib.hid Q;have Z:=Lib.hid d;have V:=Lib.hid H;clear Q d H HO X1;by_cases F:j<l.length
  ·obtain⟨x,H⟩:∃ x,x=l.getD j 0:=⟨_,rfl⟩;have ag:x<1000000000:=by rw[H];exact LA.out.getD j
   obtain⟨ba,a8,rfl,O⟩:=(HA.out.ext V.out).at F;rw[<-H]at O;have XX:=Lib.hid H;clear H
   go_wp2_with fail
   obtain⟨wo,a6⟩:∃ wo:World,wo=wr:=⟨_,rfl⟩;subst a6
   go_loopw [8,27] (Ana w l m n j) (fun _ i _=>m.length-(intOf i).toNat)
   case atStart=>exact⟨0,_,0,Atu _,rfl,rfl,L.out,Z.out,V.out⟩
   case round =>
    obtain⟨k,o2,J,ab,rfl,rfl,g,u,R⟩:=hrel;have N:=Lib.hid g;have h:=Lib.hid u;have C:=Lib.hid R;have aa:=g.carry;have a5:=g.len;have E:=Lib.hid g.low;have a7:n<=o2.length:=by have:=K.out;omega
    clear g u R L Z V O a5;by_cases A:k<m.length
    ·obtain⟨y,W⟩:∃ y,y=m.getD k 0:=⟨_,rfl⟩;have ah:y<1000000000:=by rw[W];exact LB.out.getD k
     obtain⟨bb,a9,rfl,a3⟩:=(HB.out.ext C.out).at A;rw[<-W]at a3;obtain⟨z,X⟩:∃ z,z=o2.getD (j+k) 0:=⟨_,rfl⟩;have I:z<1000000000:=by rw[X];exact E.out.getD _
     have D:=N2 h.out (j:=j+k) oV;have a4:=h.out.frozenAt (j+k);rw[<-X]at D;have YY:=Lib.hid W;have ZZ:=Lib.hid X;clear W X;obtain⟨p,hp⟩:∃ p,p=x*y:=⟨_,rfl⟩;have ae:p<=999999999*999999999:=by rw[hp];exact Aut oV oV
     have af:((x:Int)*y)=p:=by rw[hp];exact (Aws _ _).symm
     have PP:=Lib.hid hp;clear hp
     go_wp2_with fail
     rw[show ((z:Int)+p+J)%1000000000=(((z+x*y+J)%1000000000:Nat):Int) by rw[<-PP.out];omega,show ((z:Int)+p+J)/1000000000=(((z+x*y+J)/1000000000:Nat):Int) by rw[<-PP.out];omega];have hs:=N.out.step LA.out LB.out A F XX.out YY.out ZZ.out rfl;have f:=P8 (j+k) ((z+x*y+J)%1000000000) h.out C.out;exact⟨⟨k+1,_,_,oV,by go_num,rfl,hs,f.1,f.2⟩,by simp only[intOf];omega⟩
    obtain rfl:k=m.length:=oV;obtain⟨h0,t⟩:=N.out.next F;have D:=N2 h.out (j:=j+m.length) oV;rw[h0]at D;have a4:=h.out.frozenAt (j+m.length);have Y:=Lib.hid t;clear h0 t
    go_wp2_with fail
    have f:=P8 (j+m.length) J h.out C.out;exact⟨⟨j+1,_,oV,by go_num,Y.out,f.1,f.2⟩,by simp only[intOf];omega⟩
  obtain rfl:j=l.length:=oV;have v:=L.out.len;have B:=Lib.hid (Row.of_owns Z.out);have P:=Lib.hid (Dd (cap:=n) (n:=val l*val m) L.out.low B.out L.out.done oV);have HL:Hid (o.length=n):=by rw[v];exact K.out.symm
  clear v
  go_wp2_with fail
  ((with_reducible refine (F7 _ _ _ o _ HL.out oV oV B.out).mono ?_);rintro e w' ⟨rfl,rfl⟩)
  go_wp2_with fail
  go_ret
  exact⟨_,_,rfl,P.out,V.out⟩
def P6 (d f:Value)(m n:Nat)(w:World)(h:Ci w d m)(j:Ci w f n)(q:nl m<=10000000000000)(sb:nl n<=10000000000000) :
 Calls prog 164 #[d,f] w (Abi w (m*n)):=by
 obtain⟨a,g,rfl,_,k⟩:=h;obtain⟨b,cb,rfl,_,rb⟩:=j;have:=Al0 a b g cb (Aa m) (Aa n) w k rb (Am _) (Am _) q sb;rw[Ai,Ai]at this;exact this
def Aer (a d:Value)(m n:Nat)(w:World)(j:Ci w a m)(q:Ci w d n)(t:nl m<=10000000000000)(sb:nl n<=10000000000000) :
 Calls prog 164 #[a,d] w (Sx w (m*n)) :=
 (P6 a d m n w j q t sb).mono fun _ _ ⟨k,cap,f,g,h⟩=>⟨_,f,g,h⟩
def Amt (w:World)(l:List Nat)(d n:Nat)(r i:Value)(wr:World):Prop :=
 ∃ (k:Nat) (o:List Nat) (rr:Nat),k<=l.length/\i=.int .i64 ((k:Int)-1)/\r=.int .u64 (rr:Int)/\Ho l d k o rr /\
  wr.ownsRow w.heap.size 236 1 (.slice (some ⟨w.heap.size,0,none⟩) n n) n (Ay o)/\Ext w wr
def N0 (w:World)(n r:Nat)(e:Ending)(w':World):Prop:=∃ v,e=.returned (.tuple #[v,.int .u64 (r:Int)])/\Ci w' v n/\Ext w w'
set_option maxRecDepth 100000 in
def Aet (a:Option Addr)(ca d:Nat)(l:List Nat)(w:World)(R:Row w a (Ay l))(la:Low l)
 (sa:l.length<=10000000000000) (N:0<d) (hd:d<1000000000) :
 Calls prog 231 #[.slice a l.length ca,.int .u64 d] w (N0 w (val l/d) (val l%d)):=by
 obtain⟨i0,hi,B,C,D⟩:=info_parts Tryz.info236;have X:=Lib.hid hi;have I:=Lib.hid B;have J:=Lib.hid C;have K:=Lib.hid D;clear hi B C D;have W:=Lib.hid R;have P:=Lib.hid la;clear R la;obtain⟨n,U⟩:∃ n,n=l.length:=⟨_,rfl⟩;have v:=Lib.hid U;have a4:n<=10000000000001:=oV;have a5:l.length<=n:=oV;clear U
 go_enter func231,ntmps231
 go_wp2_with (at_make;refine wpList_make_full _ rfl _ _ 99 rfl w.heap.size 236 i0 (.int .u64 0) 1 Tryz.underlying99 X.out I.out J.out .i64 .i64 _ _ n rfl rfl (by have:=v.out;omega) (by have:=v.out;omega) (by rw[K.out];omega) (by unfold maxLen;omega) (Atb _) ?_;intro w1 f g)
 rw[Jk]at f;have O:=Lib.hid f;have Q:Hid (Ext w w1):=(Ext.refl w).grown g (fun k T=>by cases T);clear f g
 go_loopw [7,8] (Amt w l d n) (fun _ i _=>(intOf i+1).toNat)
 case atStart=>exact⟨l.length,_,0,oV,rfl,rfl,Ho.start _ _ N,by rw[<-v.out];exact O.out,Q.out⟩
 case round =>
  obtain⟨k,o,E,T,rfl,rfl,h,f,u⟩:=hrel;have y:=Lib.hid h;have F:=Lib.hid f;have H:=Lib.hid u;have a6:=h.rest;have a3:n<=o.length:=by have:=v.out;have:=h.len;omega
  clear h f u O Q;rcases k with _|k
  ·have m:=y.out.len;have q:=Lib.hid (Row.of_owns F.out);have A:=Lib.hid (Dd (cap:=n) (n:=val l/d) y.out.low q.out y.out.done.1 oV);have Y:Hid (o.length=n):=by rw[m];exact v.out.symm
   clear m
   go_wp2_with fail
   ((with_reducible refine (F7 _ _ _ o _ Y.out oV oV q.out).mono ?_);rintro e w' ⟨rfl,rfl⟩)
   go_wp2_with fail
   go_ret2
   exact⟨_,by rw[y.out.done.2];rfl,A.out,H.out⟩
  rw[show ((k+1:Nat):Int)-1=k by omega];have z:k<l.length:=oV;obtain⟨x,u⟩:∃ x,x=l.getD k 0:=⟨_,rfl⟩;have a7:x<1000000000:=by rw[u];exact P.out.getD k
  obtain⟨ba,V,rfl,L⟩:=(W.out.ext H.out).at z;rw[<-u]at L;have a0:=N2 F.out (j:=k) oV;have a2:=F.out.frozenAt k;have Z:=Lib.hid u;clear u;have a1:((d:Int)==0)=false:=gV
  go_wp2_with fail
  go_region
  go_wp2_with fail
  rw[show ((E:Int)*1000000000+x)%d=(((E*1000000000+x)%d:Nat):Int) by simp,show ((E:Int)*1000000000+x)/d=(((E*1000000000+x)/d:Nat):Int) by simp];have hs:=y.out.step P.out z Z.out;have t:=P8 k ((E*1000000000+x)/d) F.out H.out;exact⟨⟨k,_,_,oV,rfl,rfl,hs,t.1.drew,t.2.drew⟩,by simp only[intOf];omega⟩
def Pw (g:Value)(m d:Nat)(w:World)(j:Ci w g m)(t:nl m<=10000000000000)(f:0<d)(k:d<1000000000) :
 Calls prog 231 #[g,.int .u64 d] w (N0 w (m/d) (m%d)):=by
 obtain⟨a,h,rfl,_,q⟩:=j;have:=Aet a h d (Aa m) w q (Am _) t f k;rw[Ai]at this;exact this
end
section
variable {U V p top u2 v1 v2:Nat}
structure Wx (v1 v2 u2 top p V U:Nat):Prop where
 v:∃ v',v' < p/\V=(v1*1000000000+v2)*p+v'
 u:∃ u',u' < p/\U=(top*1000000000+u2)*p+u'
 v1pos:500000000<=v1
 v1low:v1<1000000000
 v2low:v2<1000000000
 u2low:u2<1000000000
 top1:top<=v1*1000000000+999999999
 less:U<1000000000*V
def Wx.pos (h:Wx v1 v2 u2 top p V U):0<V:=by
 rcases At5 V with h0|h0
 ·have:=h.less;rw[h0]at this;omega
 exact h0
structure Pg (v1 top V U q r:Nat):Prop where
 eq:q*v1+r=top
 ge:U/V<=q
 low:1000000000<=q->r<1000000000
 qle:q<=2000000000
def Pg.start (h:Wx v1 v2 u2 top p V U):Pg v1 top V U (top/v1) (top%v1):=by
 have z:=h.v1pos;have g:=Avf top v1;have B:=Au3 top (show 0<v1 by omega);have C:=h.v1low;refine⟨by rw[At7];exact g,?_,fun _=>oV,?_⟩
 ·obtain⟨E,n,f⟩:=h.v;obtain⟨D,k,e⟩:=h.u;have a:=h.pos;have m:=h.u2low;rw[Awn oV];have A:U/V*V<=U:=Ay7 U V;generalize U/V=q at *
  have j:0<p:=oV;have t:q*v1*1000000000*p<=q*V:=by
   rw[f,Atz,Atz];refine Aul _ ?_;rw[<-Atz,At2];omega
  have x:U<(top*1000000000+u2+1)*p:=by rw[e,At2 _ 1,Avm];omega
  have d:q*v1*1000000000*p<(top*1000000000+u2+1)*p:=oV;have y:=Ayz d;omega
 rw[<-Nat.lt_succ_iff,Au4 oV];have:=h.top1;omega
def Pg.step {v1 v2 u2 top p V U q r:Nat}(h:Wx v1 v2 u2 top p V U)(t:Pg v1 top V U q r)
 (f:1000000000<=q\/r*1000000000+u2<q*v2):0<q/\Pg v1 top V U (q-1) (r+v1):=by
 have a:=h.pos;have d:U/V<q:=by
  rcases f with f|f
  ·have:U/V<1000000000:=by rw[Au4 a];exact h.less
   omega
  rw[Au4 a];obtain⟨H,n,C⟩:=h.v;obtain⟨F,m,B⟩:=h.u;have x:q*((v1*1000000000+v2)*p)<=q*V:=Aul _ oV;have y:q*((v1*1000000000+v2)*p)=((q*v1)*1000000000+q*v2)*p:=by
   rw[<-Atz,Aui,<-Atz]
  have z:(top*1000000000+u2+1)*p<=((q*v1)*1000000000+q*v2)*p:=by
   refine Ats _ ?_;have:=t.eq;omega
  have A:(top*1000000000+u2+1)*p=(top*1000000000+u2)*p+p:=by rw[At2 _ 1,Avm]
  omega
 have j:0<q:=Aum (Atu _) d;refine⟨j,?_,Nat.le_sub_one_of_lt d,fun g=>?_,by have:=t.qle;omega⟩
 ·obtain⟨k,rfl⟩:∃ k,q=k+1:=⟨q-1,oV⟩;have:=t.eq;rw[At2,Avm]at this;simp only[Avv];omega
 have e:=t.eq;have E:=h.top1;obtain⟨k,rfl⟩:∃ k,q=1000000000+1+k:=⟨q-1000000001,oV⟩;have:(1000000000+1+k)*v1=1000000000*v1+v1+k*v1:=by rw[At2,At2,Avm]
 have D:0<=k*v1:=Atu _;rw[this]at e;omega
def Pg.done {v1 v2 u2 top p V U q r:Nat}(h:Wx v1 v2 u2 top p V U)(t:Pg v1 top V U q r)
 (j:¬ (r<1000000000/\(1000000000<=q\/r*1000000000+u2<q*v2))):q<1000000000/\U/V<=q/\q<=U/V+1:=by
 have n:q<1000000000:=by
  rcases At8 q 1000000000 with a|a
  ·exact a
  exact absurd ⟨t.low a,Or.inl a⟩ j
 have e:q*v2<=r*1000000000+u2:=by
  rcases At8 (r*1000000000+u2) (q*v2) with a|a
  ·rcases At8 r 1000000000 with g|g
   ·exact absurd ⟨g,Or.inr a⟩ j
   have:q*v2<=999999999*999999999:=Aut oV (by have:=h.v2low;omega);omega
  exact a
 refine⟨n,t.ge,?_⟩;rcases At5 q with h0|h0
 ·rw[h0];exact Atu _
 obtain⟨k,rfl⟩:∃ k,q=k+1:=⟨q-1,oV⟩
 suffices k<=U/V by omega
 have d:=h.pos;rw[Awn d];obtain⟨m,y,f⟩:=h.v;obtain⟨F,x,E⟩:=h.u;have z:(k+1)*V=(((k+1)*v1)*1000000000+(k+1)*v2)*p+(k+1)*m:=by
  rw[f,Aui,<-Atz,Aui,<-Atz]
 have A:(((k+1)*v1)*1000000000+(k+1)*v2)*p<=(top*1000000000+u2)*p:=by
  refine Ats _ ?_;have:=t.eq;omega
 have B:(k+1)*m<=1000000000*p:=Aut oV oV;have C:1000000000*p<=V:=by
  rw[f];have:1000000000*p<=(v1*1000000000+v2)*p:=Ats _ (by have:=h.v1pos;omega);omega
 have D:(k+1)*V=k*V+V:=by rw[At2,Avm]
 omega
structure K0 (full v:List Nat)(off q k:Nat)(o:List Nat)(c:Nat):Prop where
 len:o.length=full.length
 low:Low o
 carry:c<=1000000000
 sum:val ((o.drop off).take k)+q*val (v.take k)=val ((full.drop off).take k)+1000000000^k*c
 same:∀ j,j<off\/off+k<=j->o.getD j 0=full.getD j 0
def Ec (l:List Nat)(off k:Nat):(l.drop off).getD k 0=l.getD (off+k) 0:=by
 simp[As7,Axm]
def L9 (l:List Nat)(j k d:Nat)(h:k<=j):(l.set j d).take k=l.take k:=by
 rw[A10 h]
def K0.start (a v:List Nat)(off q:Nat)(h:Low a):K0 a v off q 0 a 0 :=
 ⟨rfl,h,oV,by simp[val],fun _ _=>rfl⟩
def K0.step {a v o:List Nat}{off q k c x y d e:Nat}(h:K0 a v off q k o c)(u:off+k<a.length)
 (z:x=v.getD k 0) (A:y=o.getD (off+k) 0) (n:d<1000000000) (t:e<=1000000000) (f:d+q*x+c=y+1000000000*e) :
 K0 a v off q (k+1) (o.set (off+k) d) e:=by
 refine⟨by simp[h.len],h.low.set _ n,t,?_,fun j D=>?_⟩
 ·rw[Aw,Aw,Aw,Ec,Ec];have g:((o.set (off+k) d).drop off).take k=(o.drop off).take k:=by
   rw[A1x,if_neg oV,L9 _ _ _ _ oV]
  have m:(o.set (off+k) d).getD (off+k) 0=d:=by
   simp[As7,h.len,u]
  rw[g,m,<-z,<-h.same (off+k) (Or.inr (Atb _)),<-A,Auc];have E:=h.sum;generalize 1000000000^k=p at *
  have B:p*d+p*(q*x)+p*c=p*y+p*1000000000*e:=by
   rw[Atz,<-Aui,<-Aui,<-Aui,f]
  have C:q*(val (List.take k v)+p*x)=q*val (List.take k v)+p*(q*x):=by
   rw[Aui];congr 1;rw[<-Atz,At7 q,Atz]
  omega
 rw[Fo _ _ oV];exact h.same j oV
structure Ln (full v:List Nat)(off k:Nat)(o:List Nat)(c:Nat):Prop where
 len:o.length=full.length
 low:Low o
 carry:c<=1
 sum:val ((o.drop off).take k)+1000000000^k*c=val ((full.drop off).take k)+val (v.take k)
 same:∀ j,j<off\/off+k<=j->o.getD j 0=full.getD j 0
def Ln.start (a v:List Nat)(off:Nat)(h:Low a):Ln a v off 0 a 0 :=
 ⟨rfl,h,oV,by simp[val],fun _ _=>rfl⟩
def Ln.step {a v o:List Nat}{off k c x y:Nat}(h:Ln a v off k o c)(t:Low v)(q:off+k<a.length)
 (d:x=v.getD k 0) (e:y=o.getD (off+k) 0) :
 Ln a v off (k+1) (o.set (off+k) ((y+x+c)%1000000000)) ((y+x+c)/1000000000):=by
 have m:=t.getD k;have n:=h.low.getD (off+k);have u:=h.carry;rw[<-d]at m;rw[<-e]at n;refine⟨by simp[h.len],h.low.set _ oV,oV,?_,fun j z=>?_⟩
 ·rw[Aw,Aw,Aw,Ec,Ec];have f:((o.set (off+k) ((y+x+c)%1000000000)).drop off).take k=(o.drop off).take k:=by
   rw[A1x,if_neg oV,L9 _ _ _ _ oV]
  have g:(o.set (off+k) ((y+x+c)%1000000000)).getD (off+k) 0=(y+x+c)%1000000000:=by
   simp[As7,h.len,q]
  rw[f,g,<-d,<-h.same (off+k) (Or.inr (Atb _)),<-e,Auc,Avl,G9,Aui,Aui];have A:=h.sum;omega
 rw[Fo _ _ oV];exact h.same j oV
end
section
variable {A V j m n:Nat}{qs u:List Nat}
def Yu (l:List Nat)(n:Nat):val (l.take (n+2))=val (l.take n)+1000000000^n*(l.getD n 0+1000000000*l.getD (n+1) 0):=by
 rw[Aw,Aw,Auc,Aui,Atz];omega
def Fi {l:List Nat}(h:Low l)(k:Nat):val (l.take k)<1000000000^k :=
 Auf (I9 (h.take k)) (Atq oV (by rw[Atm];omega))
def Adi {a v:List Nat}{off n:Nat}(B:v.length=n+2)(d:Low a)(e:Low v)(f:500000000<=v.getD (n+1) 0)
 (k:val ((a.drop off).take (n+3))<1000000000*val v) :
 Wx (v.getD (n+1) 0) (v.getD n 0) (a.getD (off+n) 0) (a.getD (off+(n+2)) 0*1000000000+a.getD (off+(n+1)) 0) (1000000000^n) (val v) (val ((a.drop off).take (n+3))):=by
 have h:val v=(v.getD (n+1) 0*1000000000+v.getD n 0)*1000000000^n+val (v.take n):=by
  have:=Yu v n;rw[<-B,At9]at this;rw[this,At7 (v.getD (n+1) 0*1000000000+v.getD n 0),At7 (v.getD (n+1) 0),Az5 (v.getD n 0),Az5]
 have g:val ((a.drop off).take (n+3))=((a.getD (off+(n+2)) 0*1000000000+a.getD (off+(n+1)) 0)*1000000000+a.getD (off+n) 0)*1000000000^n+val ((a.drop off).take n):=by
  rw[Aw,Yu,Ec,Ec,Ec,Aww,At7 _ (1000000000^n)];generalize 1000000000^n=p;rw[show (1000000000:Nat)^2=1000000000*1000000000 by rfl,Atz p,Avl (val _),<-Aui,Az5 (val _)]
  congr 2
  omega
 have q:=e.getD (n+1);have t:=e.getD n;have z:=d.getD (off+n);have I:=d.getD (off+(n+1));have J:=d.getD (off+(n+2));have C:=Fi e n;have l2:=Fi (d.drop off) n;refine⟨⟨_,C,h⟩,⟨_,l2,g⟩,f,q,t,z,?_,k⟩;rw[g,h]at k;generalize v.getD (n+1) 0=v1 at *
 generalize v.getD n 0=v2 at *
 generalize a.getD (off+n) 0=u2 at *
 generalize a.getD (off+(n+1)) 0=u1 at *
 generalize a.getD (off+(n+2)) 0=u0 at *
 generalize val ((a.drop off).take n)=x at *
 generalize val (v.take n)=y at *
 generalize 1000000000^n=p at *
 have:(u0*1000000000*1000000000)*p<((v1+1)*1000000000*1000000000)*p:=by
  have D:(u0*1000000000*1000000000)*p<=((u0*1000000000+u1)*1000000000+u2)*p:=Ats _ oV;have E:1000000000*((v1*1000000000+v2)*p+y)<=1000000000*((v1*1000000000+v2+1)*p):=by
   refine Aul _ ?_;rw[At2 _ 1,Avm];omega
  have F:1000000000*((v1*1000000000+v2+1)*p)=(1000000000*(v1*1000000000+v2+1))*p:=by rw[Atz]
  have H:(1000000000*(v1*1000000000+v2+1))*p<=((v1+1)*1000000000*1000000000)*p:=Ats _ oV;omega
 have:=Ayz this;omega
def G2 (l:List Nat)(off n:Nat):val ((l.drop off).take (n+1))=val ((l.drop off).take n)+1000000000^n*l.getD (off+n) 0:=by
 rw[Aw,Ec]
def Abn (o:List Nat)(off n d:Nat)(h:off+n<o.length):val (((o.set (off+n) d).drop off).take (n+1))=val ((o.drop off).take n)+1000000000^n*d:=by
 rw[G2];have a:((o.set (off+n) d).drop off).take n=(o.drop off).take n:=by
  rw[A1x,if_neg oV,L9 _ _ _ _ oV]
 have e:(o.set (off+n) d).getD (off+n) 0=d:=by simp[As7,h]
 rw[a,e]
structure Om (full:List Nat)(off n V:Nat)(o:List Nat):Prop where
 len:o.length=full.length
 low:Low o
 rest:val ((o.drop off).take (n+1))=val ((full.drop off).take (n+1))%V
 same:∀ j,j<off\/off+n<j->o.getD j 0=full.getD j 0
def Aa6 {e v o:List Nat}{off n q c:Nat}(B:v.length=n)(F:off+n<e.length)(h:K0 e v off q n o c)(E:Low e)
 (t:val ((e.drop off).take (n+1))/val v<=q) (f:0<val v) (K:c<=e.getD (off+n) 0) :
 q=val ((e.drop off).take (n+1))/val v/\Om e off n (val v) (o.set (off+n) (e.getD (off+n) 0-c)):=by
 have I:=h.sum;rw[<-B,At9,B]at I;have J:=G2 e off n;have g:=Abn o off n (e.getD (off+n) 0-c) (by rw[h.len];exact F);have z:=E.getD (off+n);generalize N:e.getD (off+n) 0=u at *
 generalize k:val ((e.drop off).take (n+1))=U at *
 generalize val v=V at *
 generalize val ((e.drop off).take n)=x at *
 generalize val ((o.drop off).take n)=y at *
 have H:1000000000^n*u=1000000000^n*c+1000000000^n*(u-c):=by rw[<-Aui];congr 1;omega
 have D:U=q*V+(y+1000000000^n*(u-c)):=by
  generalize 1000000000^n*(u-c)=a at *
  generalize 1000000000^n*c=b at *
  generalize 1000000000^n*u=d at *
  omega
 have C:q=U/V:=by
  refine Az3 ?_ t;rw[Awn f];omega
 refine⟨C,by simp[h.len],h.low.set _ oV,?_,fun j L=>?_⟩
 ·rw[g,k];have:=Avf U V;rw[<-C,At7]at this;generalize 1000000000^n*(u-c)=a at *
  omega
 rw[Fo _ _ oV];exact h.same j oV
def Aiy {e v o C:List Nat}{off n q c cb:Nat}(K:v.length=n)(W:off+n<e.length)(h:K0 e v off q n o c)
 (H:q<=val ((e.drop off).take (n+1))/val v+1) (g:0<val v) (hv:val v<1000000000^n) (hc:e.getD (off+n) 0<c) (t:Ln o v off n C cb) :
 q=val ((e.drop off).take (n+1))/val v+1/\e.getD (off+n) 0+cb=c/\Om e off n (val v) (C.set (off+n) 0):=by
 have N:=h.sum;have J:=t.sum;rw[<-K,At9,K]at N J;have hU:=G2 e off n;have B:=Abn C off n 0 (by rw[t.len,h.len];exact W);have hy:=Fi (h.low.drop off) n;have hz:=Fi (t.low.drop off) n;have Q:=Avf (val ((e.drop off).take (n+1))) (val v);have Y:=Au3 (val ((e.drop off).take (n+1))) g;generalize e.getD (off+n) 0=u at *
 generalize E:val ((e.drop off).take (n+1))=U at *
 generalize val v=V at *
 generalize val ((e.drop off).take n)=x at *
 generalize val ((o.drop off).take n)=y at *
 generalize val ((C.drop off).take n)=z at *
 have O:=t.carry;obtain⟨k,rfl⟩:∃ k,c=u+1+k:=⟨c-u-1,oV⟩;have X:1000000000^n*(u+1+k)=1000000000^n*u+1000000000^n+1000000000^n*k:=by rw[Aui,Aui,Ayl]
 have T:1000000000^n*0<=1000000000^n*k:=Aul _ (Atu _);rw[X]at N;generalize hP:1000000000^n=P at *
 have I:U<q*V:=by
  generalize P*u=a at *
  generalize P*k=b at *
  omega
 have L:q=U/V+1:=by
  refine Az3 H ?_;exact (Au4 g).2 I
 have Z:q*V=V*(U/V)+V:=by rw[L,At2,Avm,At7]
 have D:z+P*cb=U%V+P+P*k:=by
  generalize P*u=a at *
  generalize P*k=b at *
  generalize P*cb=d at *
  generalize V*(U/V)=f at *
  omega
 have F:cb=1:=by
  rcases At5 cb with h0|h0
  ·subst h0;rw[Avw]at D;generalize P*k=b at *
   omega
  omega
 subst F;rw[Ayl]at D;have R:k=0:=by
  rcases At5 k with h0|h0
  ·exact h0
  have:P*1<=P*k:=Aul _ h0;generalize P*k=b at *
  omega
 subst R;refine⟨L,oV,by simp[t.len,h.len],t.low.set _ oV,?_,fun j hj=>?_⟩
 ·rw[B,E,Avw,Avb];rw[Avw]at D;omega
 rw[Fo _ _ oV,t.same j oV];exact h.same j oV
structure L7 (A V n m:Nat)(j:Nat)(u qs:List Nat):Prop where
 ulen:u.length=m+n
 qlen:qs.length=m
 ulow:Low u
 qlow:Low qs
 less:val (u.drop j)<V
 sum:val u+1000000000^j*(val (qs.drop j)*V)=A
 zero:∀ k,j+n<=k->u.getD k 0=0
def G0 {j k:Nat}(h:∀ i,j+k<=i->u.getD i 0=0):val ((u.drop j).take k)=val (u.drop j):=by
 have g:val ((u.drop j).drop k)=0:=by
  have:∀ (l:List Nat),(∀ i,l.getD i 0=0)->val l=0:=by
   intro l;induction l with
   |nil=>intro _;rfl
   |cons d l ih =>
    intro a;have h0:d=0:=by simpa using a 0
    have e:=ih (fun i=>by simpa using a (i+1));simp[val,h0,e]
  refine this _ (fun i=>?_);rw[Ec,Ec];exact h _ oV
 by_cases f:k<=(u.drop j).length
 ·have:=Fj (u.drop j) k f;rw[g]at this;omega
 rw[Atp oV]
def Aaq (a:j<u.length):val (u.drop j)=u.getD j 0+1000000000*val (u.drop (j+1)):=by
 rw[B6 u j a];rfl
def L7.before (h:L7 A V n m (j+1) u qs)(a:j<m) :
 val ((u.drop j).take (n+1))<1000000000*V:=by
 rw[G0 (fun i hi=>h.zero i oV),Aaq (by have:=h.ulen;omega)];have:=h.less;have:=h.ulow.getD j;omega
def L7.step {A V n m j:Nat}{u f qs:List Nat}(h:L7 A V n m (j+1) u qs)(D:j<m)(K:0<V)(L:V<1000000000^n)
 (t:Om u j n V f) (N:val ((u.drop j).take (n+1))/V<1000000000) :
 L7 A V n m j f (qs.set j (val ((u.drop j).take (n+1))/V)):=by
 have g:=t.rest;have C:=Au3 (val ((u.drop j).take (n+1))) K;have z:f.getD (j+n) 0=0:=by
  have:=G2 f j n;rcases At5 (f.getD (j+n) 0) with h0|h0
  ·exact h0
  have:1000000000^n*1<=1000000000^n*f.getD (j+n) 0:=Aul _ h0;omega
 have d:∀ k,j+n<=k->f.getD k 0=0:=by
  intro k P;by_cases e:k=j+n
  ·rw[e];exact z
  rw[t.same k oV];exact h.zero k oV
 have v:val (f.drop j)=val ((u.drop j).take (n+1))%V:=by
  rw[<-g,G0 (fun i hi=>d i oV)]
 refine⟨by rw[t.len];exact h.ulen,by simp[h.qlen],t.low,h.qlow.set _ N,by rw[v];exact C,?_,d⟩;have a:=h.sum;have E:=Fj u j (by have:=h.ulen;omega);have F:=Fj f j (by have:=h.ulen;have:=t.len;omega);have H:f.take j=u.take j:=by
  apply Awe;intro i;rw[Avu,Avu];split
  ·rename_i hi;have:=t.same i (Or.inl hi);have O:i<f.length:=by have:=h.ulen;have:=t.len;omega
   have l2:i<u.length:=by have:=h.ulen;omega
   simp[As7,O,l2]at this⊢;exact this
  rfl
 have I:val ((u.drop j).take (n+1))=val (u.drop j):=G0 (fun i hi=>h.zero i oV);have J:val ((qs.set j (val ((u.drop j).take (n+1))/V)).drop j)=val ((u.drop j).take (n+1))/V+1000000000*val (qs.drop (j+1)):=by
  rw[B6 _ j (by simp[h.qlen,D]),Ay5 oV];have:(qs.set j (val ((u.drop j).take (n+1))/V)).getD j 0=val ((u.drop j).take (n+1))/V:=by
   simp[As7,h.qlen,D]
  rw[this];rfl
 rw[J,F,H,v,I];rw[E,Auc]at a;have B:=Avf (val (u.drop j)) V;generalize val (u.drop j)/V=q at *
 generalize val (u.drop j)%V=r at *
 generalize val (u.take j)=x at *
 generalize val (qs.drop (j+1))=y at *
 generalize 1000000000^j=p at *
 rw[<-B]at a;rw[<-a,At2,Aui,Aui,At7 V q];rw[show p*1000000000*(y*V)=p*(1000000000*y*V) by rw[Atz,Atz]];omega
def L7.done (h:L7 A V n m 0 u qs)(e:0<V):val qs=A/V/\val u=A%V:=by
 have d:=h.sum;have a:=h.less;simp only[Aw4,A0z,Avm]at d a;rw[<-d];constructor
 ·rw[Nat.add_mul_div_right _ _ e,Aw1 a,Aud]
 rw[Nat.add_mul_mod_self_right,Axg a]
end
section
variable {a b w wr:World}{base g n:Nat}{e:TypeId}{o:List Nat}{r:Option Nat}
def U9 (w:World)(r:Option Nat):w.grownBy w r:=⟨rfl,rfl,rfl,Atb _,fun _ _ _=>rfl⟩
def Re {a b c:World}(h:a.grownBy b r)(k:b.grownBy c r):a.grownBy c r :=
 ⟨k.os.trans h.os,k.tape.trans h.tape,k.output.trans h.output,As9 h.size k.size,fun i hi d=>(k.block i (Auf hi h.size) d).trans (h.block i hi d)⟩
def Aax (h:a.grownBy b r)(n:Nat):a.grownBy (b.drewN n) r:=by
 obtain⟨d,f,j,k,m⟩:=h;exact⟨d,f,j,k,m⟩
def Fe (w:World)(g:Nat)(a:Option Addr)(cs:List Value):Prop:=Row w a cs/\∀ b off,a=some ⟨b,off,none⟩->b≠g
def Fe.grown {w w':World}{a:Option Addr}{cs:List Value}(h:Fe w g a cs)(k:w.grownBy w' (some g)):Fe w' g a cs:=by
 refine⟨fun j m=>?_,h.2⟩;obtain⟨b,off,d,f⟩:=h.1 j m;exact⟨b,off,d,k.cell f (by simp;exact h.2 b off d)⟩
def An7 (w:World)(base g N:Nat)(full:List Nat)(off n V:Nat)(e:Ending)(w':World):Prop :=
 ∃ o,e=.returned (.int .u64 ((val ((full.drop off).take (n+1))/V:Nat):Int))/\Om full off n V o /\
  w'.ownsRow base 236 1 (.slice (some ⟨g,0,none⟩) N N) N (Ay o)/\w.grownBy w' (some g)
def Ajv (w:World)(v1 top V U:Nat)(q r:Value)(wr:World):Prop :=
 ∃ qq rr:Nat,q=.int .u64 (qq:Int)/\r=.int .u64 (rr:Int)/\Pg v1 top V U qq rr/\rr<2000000000/\∃ d,wr=w.drewN d
def Anf (w:World)(base g N:Nat)(full m:List Nat)(off q n:Nat)(c i:Value)(wr:World):Prop :=
 ∃ (k:Nat) (o:List Nat) (cc:Nat),k<=n/\i=.int .i64 k/\c=.int .u64 (cc:Int)/\K0 full m off q k o cc /\
  wr.ownsRow base 236 1 (.slice (some ⟨g,0,none⟩) N N) N (Ay o)/\w.grownBy wr (some g)
def An6 (w:World)(base g N:Nat)(full m:List Nat)(off n:Nat)(c i:Value)(wr:World):Prop :=
 ∃ (k:Nat) (o:List Nat) (cc:Nat),k<=n/\i=.int .i64 k/\c=.int .u64 (cc:Int)/\Ln full m off k o cc /\
  wr.ownsRow base 236 1 (.slice (some ⟨g,0,none⟩) N N) N (Ay o)/\w.grownBy wr (some g)
def Fy {n j:Nat}(h:wr.ownsRow base e 1 (.slice (some ⟨g,0,none⟩) n n) n (Ay o))(k:j<o.length) :
 wr.cell? ⟨g,j,none⟩=some (.int .u64 (o.getD j 0:Nat)):=by
 obtain⟨b,off,f,d⟩:=(Row.of_owns h).at k;obtain⟨rfl,rfl⟩:=f;rw[Aud]at d;exact d
def Ki (j d:Nat)(h:wr.ownsRow base e 1 (.slice (some ⟨g,0,none⟩) n n) n (Ay o))(x:w.grownBy wr (some g)) :
 (wr.setCell ⟨g,j,none⟩ (.int .u64 (d:Int))).ownsRow base e 1 (.slice (some ⟨g,0,none⟩) n n) n (Ay (o.set j d)) /\
  w.grownBy (wr.setCell ⟨g,j,none⟩ (.int .u64 (d:Int))) (some g):=by
 have:=h.stored j (.int .u64 (d:Int));rw[Tk]at this;exact⟨this.1,Re x this.2⟩
def Ain {u c b:Nat}(h:u+c=b):IntKind.u64.wrap ((u:Int)+IntKind.u64.wrap ((c:Int)-b))=((0:Nat):Int):=by
 have e:∀ n:Int,IntKind.u64.wrap n=n%18446744073709551616:=fun n=>by simp[IntKind.wrap,IntKind.signed,IntKind.bits]
 rw[e,e];omega
set_option maxRecDepth 100000 in
def Aio (base g N off n cu:Nat)(b:Option Addr)(cb:Nat)(f m:List Nat)(w:World)
 (q:w.ownsRow base 236 1 (.slice (some ⟨g,0,none⟩) N N) N (Ay f)) (hv:Fe w g b (Ay m)) (ag:f.length=N)
 (lf:Low f) (lm:Low m) (hm:m.length=n+2) (hN:off+(n+2)<N) (aw:N<=30000000000000) (b0:n+3<=cu)
 (aj:500000000<=m.getD (n+1) 0) (hU:val ((f.drop off).take (n+3))<1000000000*val m) :
 Calls prog 232 #[.slice (some ⟨g,off,none⟩) (n+3) cu,.slice b (n+2) cb] w (An7 w base g N f off (n+2) (val m)):=by
 have hp:=Adi hm lf lm aj hU;obtain⟨bv,ov,rfl,a5⟩:=hv.1.at (j:=n+1) oV;have a6:w.cell? ⟨bv,ov+n,none⟩=some (.int .u64 (m.getD n 0:Nat)):=by
  obtain⟨b',aa,h1,h2⟩:=hv.1.at (j:=n) oV;simp only[Atd,Addr.mk.injEq,and_true]at h1;obtain⟨rfl,rfl⟩:=h1;exact h2
 have a2:=Fy q (j:=off+(n+2)) oV;have a3:=Fy q (j:=off+(n+1)) oV;have a4:=Fy q (j:=off+n) oV;obtain⟨v1,R⟩:∃ x,x=m.getD (n+1) 0:=⟨_,rfl⟩;obtain⟨v2,T⟩:∃ x,x=m.getD n 0:=⟨_,rfl⟩;obtain⟨U,B⟩:∃ x,x=f.getD (off+(n+2)) 0:=⟨_,rfl⟩;obtain⟨u1,F⟩:∃ x,x=f.getD (off+(n+1)) 0:=⟨_,rfl⟩;obtain⟨u2,Q⟩:∃ x,x=f.getD (off+n) 0:=⟨_,rfl⟩;rw[<-R,<-T,<-B,<-F,<-Q]at hp;rw[<-R]at a5 aj;rw[<-T]at a6;rw[<-B]at a2;rw[<-F]at a3;rw[<-Q]at a4;have b1:=hp.v1low;have b2:=hp.v2low;have b3:=hp.u2low;have b4:U<1000000000:=by rw[B];exact lf.getD _
 have b5:u1<1000000000:=by rw[F];exact lf.getD _
 have b6:((v1:Int)==0)=false:=gV;have HP:=Lib.hid hp;have HO:=Lib.hid q;have HV:=Lib.hid hv;have LF:=Lib.hid lf;have LM:=Lib.hid lm;have HM:=Lib.hid hm;have I:=Lib.hid ag;have E0:=Lib.hid B;clear hp q hv lf lm hm ag R T B F Q hU
 go_enter func232,ntmps232
 go_wp2_with fail
 go_quiet (fail)
 go_wp2_with fail
 go_quiet (fail)
 go_wp2_with fail
 rw[show ((U:Int)*1000000000+u1)/v1=(((U*1000000000+u1)/v1:Nat):Int) by simp,show ((U:Int)*1000000000+u1)%v1=(((U*1000000000+u1)%v1:Nat):Int) by simp]
 go_loopw [7,8] (Ajv w v1 (U*1000000000+u1) (val m) (val ((f.drop off).take (n+3)))) (fun _ r _=>(1000000000-intOf r).toNat)
 case atStart =>
  have Z:=Au3 (U*1000000000+u1) (show 0<v1 by omega);exact⟨_,_,rfl,rfl,Pg.start HP.out,oV,_,World.drewN_drewN _ _ _⟩
 case round =>
  obtain⟨H,rr,rfl,rfl,ht,bc,d,rfl⟩:=hrel;have HT:=Lib.hid ht;have ba:=ht.qle;clear ht;obtain⟨p,hp⟩:∃ p,p=H*v2:=⟨_,rfl⟩;have am:p<=2000000000*999999999:=by rw[hp];exact Aut oV oV
  have K:((H:Int)*v2)=p:=by rw[hp];exact (Aws _ _).symm
  have PP:=Lib.hid hp;clear hp;by_cases v:rr<1000000000/\(1000000000<=H\/rr*1000000000+u2<p)
  ·have D:=HT.out.step HP.out (by rw[<-PP.out];exact v.2);have ac:=Lib.hid D;have b8:=D.1;clear D;obtain⟨ax,af⟩:=v;have d1:decide ((rr:Int)<1000000000)=true:=gV;by_cases ay:1000000000<=H
   ·have d2:decide ((1000000000:Int)<=H)=true:=gV;clear af
    go_wp2_with fail
    go_quiet (fail)
    go_wp2_with fail
    exact⟨⟨H-1,rr+v1,by go_num,by go_num,ac.out.2,oV,_,rfl⟩,by simp only[intOf];omega⟩
   have d2:decide ((1000000000:Int)<=H)=false:=gV;have d3:decide ((rr:Int)*1000000000+u2<p)=true:=gV;clear af
   go_wp2_with fail
   go_quiet (fail)
   go_wp2_with fail
   exact⟨⟨H-1,rr+v1,by go_num,by go_num,ac.out.2,oV,_,rfl⟩,by simp only[intOf];omega⟩
  have O:=HT.out.done HP.out (by rw[<-PP.out];exact v);have HF:=Lib.hid O;have bb:=O.1;clear O;have a0:(decide ((rr:Int)<1000000000)=false)\/(decide ((rr:Int)<1000000000)=true/\decide ((1000000000:Int)<=H)=false/\decide ((rr:Int)*1000000000+u2<p)=false):=by
   simp only[decide_eq_false_iff_not,decide_eq_true_eq];omega
  clear v;rcases a0 with d1|⟨d1,d2,d3⟩;all_goals
   go_wp2_with fail
   go_quiet (fail)
   go_wp2_with fail
   go_loopw [9,80] (Anf w base g N f m off H (n+2)) (fun _ i _=>(n+2)-(intOf i).toNat)
   case atStart=>exact⟨0,f,0,oV,rfl,rfl,K0.start _ _ _ _ LF.out,Nk HO.out _,Aax (U9 _ _) _⟩
   case round =>
    obtain⟨k,o,A,hk,rfl,rfl,a1,q,ah⟩:=hrel;have V:=Lib.hid a1;have X:=Lib.hid q;have HG:=Lib.hid ah;have az:=a1.carry;have b7:N<=o.length:=by have:=a1.len;have:=I.out;omega
    clear a1 q ah d1 a5 a6 a2 a3 a4 K am;by_cases Z:k<n+2
    ·obtain⟨x,hx⟩:∃ x,x=m.getD k 0:=⟨_,rfl⟩;obtain⟨y,hy⟩:∃ y,y=o.getD (off+k) 0:=⟨_,rfl⟩;have ao:x<1000000000:=by rw[hx];exact LM.out.getD k
     have ap:y<1000000000:=by rw[hy];exact V.out.low.getD _
     have ak:wr.cell? ⟨bv,ov+k,none⟩=some (.int .u64 (x:Int)):=by
      obtain⟨b',aa,h1,h2⟩:=(HV.out.grown HG.out).1.at (j:=k) (by rw[HM.out];exact Z);simp only[Atd,Addr.mk.injEq,and_true]at h1;obtain⟨rfl,rfl⟩:=h1;rw[hx];exact h2
     have t:=Fy X.out (j:=off+k) oV;have Y:=X.out.frozenAt (off+k);rw[<-hy]at t;have XX:=Lib.hid hx;have YY:=Lib.hid hy;clear hx hy;obtain⟨C,K⟩:∃ C,C=H*x:=⟨_,rfl⟩;have au:C<=999999999*999999999:=by rw[K];exact Aut oV oV
     have av:((H:Int)*x)=C:=by rw[K];exact (Aws _ _).symm
     have ae:=Lib.hid K;clear K;by_cases be:y<(C+A)%1000000000
     ·have d4:decide ((y:Int)<((C:Int)+A)%1000000000)=true:=gV
      go_wp2_with fail
      rw[show (y:Int)+1000000000=((y+1000000000:Nat):Int) by omega,show ((y+1000000000:Nat):Int)-((C:Int)+A)%1000000000=((y+1000000000-(C+A)%1000000000:Nat):Int) by omega,show ((C:Int)+A)/1000000000+1=(((C+A)/1000000000+1:Nat):Int) by omega];have ai:=Ki (off+k) (y+1000000000) X.out HG.out;have h:=Ki (off+k) (y+1000000000-(C+A)%1000000000) ai.1 ai.2;rw[A00]at h;refine⟨⟨k+1,_,_,oV,by go_num,rfl,?_,h.1,h.2⟩,by simp only[intOf];omega⟩;exact V.out.step (by have:=I.out;omega) XX.out YY.out oV oV (by rw[<-ae.out];omega)
     have d4:decide ((y:Int)<((C:Int)+A)%1000000000)=false:=gV
     go_wp2_with fail
     rw[show (y:Int)-((C:Int)+A)%1000000000=((y-(C+A)%1000000000:Nat):Int) by omega,show ((C:Int)+A)/1000000000=(((C+A)/1000000000:Nat):Int) by omega];have h:=Ki (off+k) (y-(C+A)%1000000000) X.out HG.out;refine⟨⟨k+1,_,_,oV,by go_num,rfl,?_,h.1,h.2⟩,by simp only[intOf];omega⟩;exact V.out.step (by have:=I.out;omega) XX.out YY.out oV oV (by rw[<-ae.out];omega)
    obtain rfl:k=n+2:=oV;have t:=Fy X.out (j:=off+(n+2)) oV;have Y:=X.out.frozenAt (off+(n+2));rw[V.out.same _ (Or.inr (Atb _)),<-E0.out]at t;have u:=HP.out.pos;by_cases al:A<=U
    ·have hd:=Aa6 HM.out (by rw[I.out];exact hN) V.out LF.out HF.out.2.1 u (by rw[<-E0.out];exact al);rw[<-E0.out]at hd;have HD:=Lib.hid hd;clear hd u
     go_wp2_with fail
     go_ret
     rw[show (U:Int)-A=((U-A:Nat):Int) by omega];have h:=Ki (off+(n+2)) (U-A) X.out HG.out;exact⟨_,by rw[<-HD.out.1];rfl,HD.out.2,h.1,h.2⟩
    have a8:=V.out.low;have LO:=Lib.hid a8;have VP:=Lib.hid u;clear a8 u t Y;obtain⟨wo,an⟩:∃ wo:World,wo=wr:=⟨_,rfl⟩;subst an;have t:=Fy X.out (j:=off+(n+2)) oV;rw[V.out.same _ (Or.inr (Atb _)),<-E0.out]at t
    go_wp2_with fail
    go_loopw [14,132] (An6 w base g N o m off (n+2)) (fun _ i _=>(n+2)-(intOf i).toNat)
    case atStart=>exact⟨0,o,0,oV,rfl,rfl,Ln.start _ _ _ LO.out,X.out,HG.out⟩
    case round =>
     obtain⟨k,o2,L,hk,rfl,rfl,E,P,a7⟩:=hrel;have W:=Lib.hid E;have J:=Lib.hid P;have ab:=Lib.hid a7;have aq:=E.carry;have ar:N<=o2.length:=by have:=E.len;omega
     clear E P a7 t;by_cases Z:k<n+2
     ·obtain⟨x,hx⟩:∃ x,x=m.getD k 0:=⟨_,rfl⟩;obtain⟨y,hy⟩:∃ y,y=o2.getD (off+k) 0:=⟨_,rfl⟩;have ao:x<1000000000:=by rw[hx];exact LM.out.getD k
      have ap:y<1000000000:=by rw[hy];exact W.out.low.getD _
      have ak:wr.cell? ⟨bv,ov+k,none⟩=some (.int .u64 (x:Int)):=by
       obtain⟨b',aa,h1,h2⟩:=(HV.out.grown ab.out).1.at (j:=k) (by rw[HM.out];exact Z);simp only[Atd,Addr.mk.injEq,and_true]at h1;obtain⟨rfl,rfl⟩:=h1;rw[hx];exact h2
      have t:=Fy J.out (j:=off+k) oV;have Y:=J.out.frozenAt (off+k);rw[<-hy]at t;have XX:=Lib.hid hx;have YY:=Lib.hid hy;clear hx hy
      go_wp2_with fail
      rw[show ((y:Int)+x+L)%1000000000=(((y+x+L)%1000000000:Nat):Int) by omega,show ((y:Int)+x+L)/1000000000=(((y+x+L)/1000000000:Nat):Int) by omega];have h:=Ki (off+k) ((y+x+L)%1000000000) J.out ab.out;refine⟨⟨k+1,_,_,oV,by go_num,rfl,?_,h.1,h.2⟩,by simp only[intOf];omega⟩;exact W.out.step LM.out (by have:=I.out;have:=V.out.len;omega) XX.out YY.out
     obtain rfl:k=n+2:=oV;have hb:=Aiy HM.out (by rw[I.out];exact hN) V.out HF.out.2.2 VP.out (by have:=I9 LM.out;rw[HM.out]at this;exact this) (by rw[<-E0.out];omega) W.out;rw[<-E0.out]at hb;have a9:=hb.2.1;have t:=Fy J.out (j:=off+(n+2)) oV;have Y:=J.out.frozenAt (off+(n+2));rw[W.out.same _ (Or.inr (Atb _)),V.out.same _ (Or.inr (Atb _)),<-E0.out]at t;have b9:1<=H:=by rw[hb.1];exact Nat.le_add_left 1 _
     have HB:=Lib.hid hb;have ad:=Lib.hid a9;clear hb a9
     go_wp2_with fail
     go_ret
     rw[Ain ad.out];have h:=Ki (off+(n+2)) 0 J.out ab.out;refine⟨_,?_,HB.out.2.2,h.1,h.2⟩;refine congrArg (fun z:Int=>Ending.returned (.int .u64 z)) (a₁:=(H:Int)-1) ?_;have:=HB.out.1;omega
end
section
variable {f k m n:Nat}
structure Aox (n k f:Nat):Prop where
 len:nl n=k+2
 pos:1<=f
 low:f<1000000000
 vlen:nl (n*f)=k+2
 vtop:500000000<=(Aa (n*f)).getD (k+1) 0
 fle:f*1000000000^(k+1)<=n*f
def Ae6 (n k:Nat)(h:nl n=k+2):n=val ((Aa n).take (k+1))+1000000000^(k+1)*(Aa n).getD (k+1) 0:=by
 have:=Aw (Aa n) (k+1);rw[Atp (show (Aa n).length<=k+1+1 from Nat.le_of_eq h),Ai]at this;exact this
def Apc (n k:Nat)(h:nl n=k+2):1<=(Aa n).getD (k+1) 0:=by
 have a:n≠0:=by intro e;rw[e,Rv]at h;omega
 have:=Nb a;have d:(Aa n).length=k+2:=h;rw[d]at this;simp only[Avv,show k+2-1=k+1 from rfl]at this;omega
def Aox.make (h:nl n=k+2):Aox n k (1000000000/((Aa n).getD (k+1) 0+1)):=by
 have F:=Apc n k h;have O:=(Am n).getD (k+1);have T:=Ae6 n k h;have K:=Fi (Am n) (k+1);generalize (Aa n).getD (k+1) 0=b at *
 have a:=Avf 1000000000 (b+1);have L:=Au3 1000000000 (show 0<b+1 by omega);generalize R:1000000000/(b+1)=f at *
 generalize 1000000000%(b+1)=r at *
 have d:1<=f:=by
  rcases At5 f with h0|h0
  ·rw[h0,Avw]at a;omega
  exact h0
 have q:f<1000000000:=by
  have:(1+1)*f<=(b+1)*f:=Ats _ oV;omega
 have I:b*f+f+r=1000000000:=by rw[At2,Avm]at a;exact a
 have C:b+f<=b*f+1:=by
  obtain⟨x,rfl⟩:∃ x,b=x+1:=⟨b-1,oV⟩;obtain⟨y,rfl⟩:∃ y,f=y+1:=⟨f-1,oV⟩;rw[At2,Aui,Avm,Ayl];have:0<=x*y:=Atu _;omega
 have D:500000000<=b*f:=oV;generalize U:val ((Aa n).take (k+1))=x at *
 generalize g:1000000000^(k+1)=P at *
 have j:P<=n:=by
  have:P*1<=P*b:=Aul _ F;omega
 have u:n*f<P*1000000000:=by
  have z:n<P*(b+1):=by rw[Aui,Ayl];omega
  have E:n*f<P*(b+1)*f:=A0o z oV;have A:P*(b+1)*f<=P*1000000000:=by rw[Atz];exact Aul _ oV
  omega
 have J:P<=n*f:=by
  have:n*1<=n*f:=Aul _ d;omega
 have e:nl (n*f)=k+2:=by
  refine Az3 (A0 (by rw[show k+2=k+1+1 from rfl,Auc,g];exact u)) ?_;rcases At8 (nl (n*f)) (k+2) with B|B
  ·have Q:=Ck (n*f);have H:1000000000^nl (n*f)<=1000000000^(k+1):=Atq oV oV;rw[g]at H;omega
  exact B
 refine⟨h,d,q,e,?_,?_⟩
 ·have N:=Ae6 (n*f) k e;have v:=Fi (Am (n*f)) (k+1);rw[g]at N v;generalize (Aa (n*f)).getD (k+1) 0=t at *
  have z:P*(b*f)<=n*f:=by
   rw[<-Atz];exact Ats _ oV
  have E:n*f<P*(t+1):=by rw[Aui,Ayl];omega
  have A:P*(b*f)<P*(t+1):=oV;have:=A0w A;omega
 rw[At7 n];exact Aul _ (by rw[g];exact j)
def L7.start {m n k f M:Nat}(h:Aox n k f)(u:nl m+1=M+(k+2)) :
 L7 (m*f) (n*f) (k+2) M M (Aa (m*f)++List.replicate (M+(k+2)-nl (m*f)) 0) (List.replicate M 0):=by
 have C:nl (m*f)<=M+(k+2):=by
  rw[<-u];refine As9 (Fz m f) (Nat.add_le_add_left ?_ _);exact A0 (by simpa using h.low)
 have d:(Aa (m*f)++List.replicate (M+(k+2)-nl (m*f)) 0).length=M+(k+2):=by
  rw[Atg,Aur];unfold nl at *;omega
 have a:val (Aa (m*f)++List.replicate (M+(k+2)-nl (m*f)) 0)=m*f:=by
  rw[Oc,W8,Ai];omega
 refine⟨d,mV,(Am _).append (Low.zeros _),Low.zeros _,?_,?_,?_⟩
 ·have v:=Fj (Aa (m*f)++List.replicate (M+(k+2)-nl (m*f)) 0) M oV;rw[a]at v;generalize val ((Aa (m*f)++List.replicate (M+(k+2)-nl (m*f)) 0).drop M)=y at *
  generalize val ((Aa (m*f)++List.replicate (M+(k+2)-nl (m*f)) 0).take M)=x at *
  have g:=Ck m;rw[show nl m=M+(k+1) by omega,Aww]at g;have e:=h.fle;have q:=h.pos;generalize 1000000000^(k+1)=P at *
  generalize 1000000000^M=Q at *
  have z:m*f<Q*P*f:=A0o g oV;have A:Q*P*f=Q*(f*P):=by rw[Atz,At7 P]
  have t:Q*y<Q*(f*P):=oV;have:=A0w t;omega
 ·rw[a,Aue mV];simp[val]
 intro j B;have:(Aa (m*f)++List.replicate (M+(k+2)-nl (m*f)) 0)[j]?=none:=Att oV;rw[As7,this];rfl
def Z1 (a:0<f):m*f/(n*f)=m/n/\m*f%(n*f)=(m%n)*f :=
 ⟨Nat.mul_div_mul_right m n a,Nat.mul_mod_mul_right f m n⟩
end
section
variable {N base g k n:Nat}{e:TypeId}{w w':World}{xs:List Value}
def Rr (w:World)(m n:Nat)(e:Ending)(w':World):Prop:=∃ u v,e=.returned (.tuple #[u,v])/\Ci w' u m/\Ci w' v n/\Ext w w'
def Acr {m n:Nat}(h:n<=m):0<=sgn ((m:Int)-n):=by
 rcases At8 n m with a|a
 ·rw[Cg oV];omega
 rw[show (m:Int)-n=0 by omega,Ol];omega
set_option maxRecDepth 100000 in
def Aao (a d:Value)(m n:Nat)(w:World)(f:Ci w a m)(u:Ci w d n)(x:nl m<=10000000000000)(sb:nl n<=10000000000000)(v:m<n) :
 Calls prog 209 #[a,d] w (Rr w 0 m):=by
 have j:=Lib.hid f;have h:=Fw a d m n w f u x sb;rw[Dc oV]at h;have t:=Lib.hid h
 go_enter func209,ntmps209
 go_wp2_with fail
 refine t.out.mono ?_;rintro e w' ⟨rfl,q,rfl⟩
 go_wp2_with fail
 go_ret2
 exact⟨_,_,rfl,Ci.zero _ _ _,j.out.ext ((Ext.refl w).drewN q),(Ext.refl w).drewN q⟩
def D9 {d:Nat}(h0:d≠0)(h:d<1000000000):Aa d = [d]:=by
 rw[Fk h0,show d/1000000000=0 by omega,Bc,show d%1000000000=d by omega]
def Ae7 (a:World)(r:Nat):Row (a.alloc (Obj.cells #[Value.int IntKind.u64 (r:Int)] 236)) (some ⟨a.heap.size,0,none⟩) (Ay [r]):=by
 intro j d;obtain rfl:j=0:=by simp_all
 exact⟨_,_,rfl,by simp[Ay]⟩
set_option maxRecDepth 100000 in
def X7 (x D:Value)(m n:Nat)(w:World)(F:Ci w x m)(H:Ci w D n)(K:nl m<=10000000000000)(f:0<n)(J:n<1000000000)(A:n<=m) :
 Calls prog 209 #[x,D] w (Rr w (m/n) (m%n)):=by
 have I:=D9 oV J;have L:=Lib.hid F;have R:=Fw x D m n w F H K (by unfold nl;rw[I];simp);obtain⟨s,T⟩:∃ s,s=sgn ((m:Int)-n):=⟨_,rfl⟩;have U:0<=s:=by rw[T];exact Acr A
 have E:=Lib.hid R;obtain⟨b,cb,rfl,_,a⟩:=H;rw[I]at a E⊢;obtain⟨X,Y,rfl,z⟩:=a.at (j:=0) mV;simp only[Avb]at z
 go_enter func209,ntmps209
 go_wp2_with fail
 refine E.out.mono ?_;rintro e w' ⟨rfl,q,rfl⟩
 go_wp2_with fail
 have t:=Pw x m n _ (L.out.ext ((Ext.refl w).drewN q)) K f J;obtain⟨r,u⟩:∃ r,r=m%n:=⟨_,rfl⟩;rw[<-u]at t;have B:r<1000000000:=by rw[u];have:=Au3 m f;omega
 have O:=Lib.hid u;clear u;refine t.mono ?_;rintro e y ⟨v,rfl,V,W⟩;have P:=Lib.hid V;have Q:=Lib.hid W
 go_wp2_with fail
 have a:Row (y.alloc (Obj.cells #[Value.int IntKind.u64 (r:Int)] 236)) (some ⟨y.heap.size,0,none⟩) (Ay [r]):=Ae7 y r;refine (F7 _ _ _ [r] _ rfl mV mV a).mono ?_;rintro e w' ⟨rfl,rfl⟩;have h:=Dd (cap:=1) (Low.cons B Low.nil) a (n:=r) (by simp[val]) mV;have d:=Lib.hid h
 go_wp2_with fail
 go_ret2
 have C:=(((Ext.refl w).drewN q).trans Q.out).alloc (Obj.cells #[Value.int IntKind.u64 (r:Int)] 236);exact⟨_,_,rfl,P.out.ext ((Ext.refl y).alloc _),by rw[<-O.out];exact d.out,C⟩
def Zj (n:Nat):Array Value:=(Ay (List.replicate n 0)).toArray
def Up (W:World)(N:Int)(n:Nat)(h:N=n)(m:n<=30000000000000) :
 (Instr.makeSlice 99 (.int .i64 N) (.int .i64 N)).run prog W=.ok (.slice (some ⟨W.heap.size,0,none⟩) n n) (W.alloc (.cells (Zj n) 236)):=by
 subst h;obtain⟨j,hi,a,d,f⟩:=info_parts Tryz.info236;have:=run_make (P:=prog) W 99 236 j (.int .u64 0) Tryz.underlying99 hi a .i64 .i64 n n oV oV (by rw[f];omega) oV;rw[this,Avo,d];have e:madeCells (Value.int .u64 0).cells (n*1)=Zj n:=by
  apply Ayr;rw[Jk];rfl
 rw[e]
def Sm (W:World)(base n:Nat)(a:base<=W.heap.size)(d:n<=30000000000000) :
 (W.alloc (.cells (Zj n) 236)).ownsRow base 236 1 (.slice (some ⟨W.heap.size,0,none⟩) n n) n (Ay (List.replicate n 0)):=by
 have:=World.ownsRow_lit (e:=236) (size:=1) (base:=base) W (Zj n) n a (by unfold maxLen;omega) (by simp[Zj]);exact this
def Y7 (w:World)(B N V:Nat)(u v:Value)(wx:World):Prop :=
 ∃ g av nv cv,u=.slice (some ⟨g,0,none⟩) N N/\v=.slice av nv cv/\nv=nl V/\wx.ownsRow B 236 1 (.slice (some ⟨g,0,none⟩) N N) N (Ay (List.replicate N 0)) /\
  Fe wx g av (Ay (Aa V))/\Ext w wx/\w.heap.size<=g
def Ext.grownBy (h:Ext w w')(r:Option Nat):w.grownBy w' r:=⟨h.os,h.tape,h.output,h.size,fun k a _=>Below.block h k a⟩
def Uq {size g n cap k:Nat}(h:w.ownsRow base e size (.slice (some ⟨g,0,none⟩) n cap) k xs)(x:Ext w w') :
 w'.ownsRow base e size (.slice (some ⟨g,0,none⟩) n cap) k xs:=h.kept (x.grownBy none) (Or.inr (by simp[Value.ownBlock]))
def Aqs {a d:World}{N V m cap:Nat}(t:N<=30000000000000)(h:Ci d (.slice (some ⟨(a.alloc (.cells (Zj N) 236)).drew.heap.size,0,none⟩) m cap) V)
 (j:Ext (a.alloc (.cells (Zj N) 236)).drew d) :
 Y7 a a.heap.size N V (.slice (some ⟨a.heap.size,0,none⟩) N N) (.slice (some ⟨a.heap.size+1,0,none⟩) m cap) d:=by
 have x:(a.alloc (.cells (Zj N) 236)).drew.heap.size=a.heap.size+1:=mV
 rw[x]at h;obtain⟨y,c',f,_,v⟩:=h;simp only[Value.slice.injEq]at f;obtain⟨rfl,q,rfl⟩:=f;refine⟨a.heap.size,_,_,_,rfl,rfl,q,Uq (World.ownsRow.drew (Sm a _ N (Atb _) t)) j,⟨v,?_⟩,(((Ext.refl a).alloc _).drew).trans j,Atb _⟩;intro b off u;simp only[Atd,Addr.mk.injEq]at u;omega
def Arf {a d:World}{N V q cap:Nat}(x:N<=30000000000000)(D:0<V)(A:Ci d (.slice (some ⟨a.drew.heap.size,0,none⟩) q cap) V)(B:Ext a.drew d) :
 Y7 a a.heap.size N V (.slice (some ⟨d.heap.size,0,none⟩) N N) (.slice (some ⟨a.heap.size,0,none⟩) q cap) (d.alloc (.cells (Zj N) 236)):=by
 have E:a.drew.heap.size=a.heap.size:=rfl;obtain⟨C,c',h,_,m⟩:=A;simp only[Value.slice.injEq]at h;obtain⟨rfl,t,rfl⟩:=h;have z:a.heap.size<d.heap.size:=by
  obtain⟨b,off,u,v⟩:=m.at (j:=0) (by
   have:Aa V≠[]:=fun e=>by have:=Fu.1 e;omega
   exact Avq.2 this)
  simp only[Atd,Addr.mk.injEq]at u;have:=block_lt_of_cell v;simp only at this;omega
 have f:Ext a d:=((Ext.refl a).drew).trans B;refine⟨d.heap.size,_,_,_,rfl,rfl,t,Sm d _ N f.size x,⟨m.ext ((Ext.refl d).alloc _),?_⟩,f.alloc _,f.size⟩;intro b off y;simp only[Atd,Addr.mk.injEq]at y;omega
theorem Ns (h:w.ownsRow base e 1 (.slice (some ⟨g,0,none⟩) n n) n xs) :
 w.heap[g]?=some (.cells xs.toArray e (0,0))/\base<=g:=by
 rcases h.2 with ⟨f,_⟩|⟨u,d,j,f,m,q,_,_,t,a⟩
 ·grind
 obtain⟨rfl,rfl⟩:=f;rw[Atp gV]at a;rw[<-a];exact⟨by simpa using q,m⟩
def Aco (h:w.heap[g]?=some (.cells xs.toArray e (0,0)))(a:base<=g)(f:xs.length=n)(d:n<=30000000000000) :
 w.ownsRow base e 1 (.slice (some ⟨g,0,none⟩) n n) n xs:=by
 refine⟨oV,Or.inr ⟨g,n,xs.toArray,rfl,a,h,Atb _,by unfold maxLen;omega,gV,?_⟩⟩;rw[Atp gV]
def Zi (w:World)(g:Nat)(cs:Array Value):w.grownBy (w.setRow g cs) (some g) :=
 ⟨rfl,rfl,rfl,mV,fun k _ a=>setRow_other w g k _ (fun e=>a (by simp[e]))⟩
def Aqj {l:List Nat}(h:w.ownsRow base 236 1 (.slice (some ⟨g,0,none⟩) N N) N (Ay (List.replicate N 0)))(j:l.length<=N)(f:N<=30000000000000) :
 (w.setRow g ((Ay (List.replicate N 0)).toArray.toList.take 0++(Ay l++(Ay (List.replicate N 0)).toArray.toList.drop (0+(Ay l).length))).toArray).ownsRow base 236 1 (.slice (some ⟨g,0,none⟩) N N) N
  (Ay (l++List.replicate (N-l.length) 0)):=by
 obtain⟨a,d⟩:=Ns h;have e:(Ay (List.replicate N 0)).toArray.toList.take 0++(Ay l++(Ay (List.replicate N 0)).toArray.toList.drop (0+(Ay l).length))=Ay (l++List.replicate (N-l.length) 0):=by
  simp[Ay]
 rw[e];exact Aco (setRow_heap w g _ _ _ _ a) d gV f
theorem O5 {w:World}{y:Array Oper}{rest:List Oper}{o:Oper}{a:Act}{Q:Exit->Act->World->Prop}(A:o.guard=none)(d s:Operand)
 (L:o.op=.call { callee:=.builtin .copy,args:=#[d,s],argTypes:=#[99,99] })
 (base g N f t:Nat) (z:Addr) (l:List Nat) (J:a.eval d=.slice (some ⟨g,0,none⟩) N N) (O:a.eval s=.slice (some z) f t)
 (m:w.ownsRow base 236 1 (.slice (some ⟨g,0,none⟩) N N) N (Ay (List.replicate N 0))) (K:l.length=f) (I:N<=30000000000000) (D:l.length<=N)
 (u:Row w (some z) (Ay l))
 (h:∀ w',w'.ownsRow base 236 1 (.slice (some ⟨g,0,none⟩) N N) N (Ay (l++List.replicate (N-l.length) 0))->w.grownBy w' (some g)->wpList prog y Q rest (a.put o.dst (goInt (Ay l).length)) w') :
 wpList prog y Q (o::rest) a w:=by
 obtain⟨U,hi,R,E,T⟩:=info_parts Tryz.info236;refine wpList_copy_own A d s _ _ L 236 Tryz.underlying99 (by rw[hi];simp[E]) g 0 N N z f t J O (Ay (List.replicate N 0)).toArray 236 (Ns m).1 (Ay l)
  (by rw[Q8,K];exact (Av6 oV).symm) (fun j v B=>?_) gV (fun v P=>?_) (h _ (Aqj m D I) (Zi _ _ _))
 ·have C:j<l.length:=by
   rcases At8 j l.length with h|h
   ·exact h
   rw[Att (by simpa using h)]at B;cases B
  obtain⟨b',q,F,H⟩:=u j (by simpa using C);simp only[Atd]at F;subst F;have:(⟨b',q,none⟩:Addr).add j=⟨b',q+j,none⟩:=by
   unfold Addr.add;split
   ·grind
   rfl
  rw[this,H,As7,B];rfl
 obtain⟨x,_,rfl⟩:=Ate.1 P;rfl
def Ari (w:World)(A V n M N g gq:Nat)(av:Option Addr)(i:Value)(wr:World):Prop :=
 ∃ (j:Nat) (u qs:List Nat),j<=M/\i=.int .i64 ((j:Int)-1)/\L7 A V n M j u qs /\
  wr.ownsRow w.heap.size 236 1 (.slice (some ⟨g,0,none⟩) N N) N (Ay u)/\wr.ownsRow w.heap.size 236 1 (.slice (some ⟨gq,0,none⟩) M M) M (Ay qs) /\
  Fe wr g av (Ay (Aa V))/\Fe wr gq av (Ay (Aa V))/\Ext w wr
def Fe.ext {w w':World}{g:Nat}{a:Option Addr}{cs:List Value}(h:Fe w g a cs)(x:Ext w w'):Fe w' g a cs:=⟨h.1.ext x,h.2⟩
def Fe.new {a:Option Addr}{cs:List Value}(h:Fe w g a cs)(q:0<cs.length)(x:Ext w w'):Fe w' w.heap.size a cs:=by
 refine⟨h.1.ext x,fun b off m=>?_⟩;obtain⟨b',f,d,j⟩:=h.1 0 q;have:=block_lt_of_cell j;rw[m]at d;simp only[Atd,Addr.mk.injEq]at d;simp only at this;omega
def Ans (h:w.ownsRow base e 1 (.slice (some ⟨g,0,none⟩) n n) k xs):g<w.heap.size:=(h.lt g rfl).2
def Ua {base e g d n k:Nat}(h:w.ownsRow base e 1 (.slice (some ⟨g,0,none⟩) n n) k xs)(f:w.grownBy w' (some d))(a:g≠d) :
 w'.ownsRow base e 1 (.slice (some ⟨g,0,none⟩) n n) k xs:=h.kept f (Or.inr (by simp[Value.ownBlock,a]))
set_option maxRecDepth 100000 in
def Zt (va vb:Value)(m n k:Nat)(w:World)(ha:Ci w va m)(hb:Ci w vb n)(sa:nl m<=5000000000000)(hn:nl n=k+2)(ax:n<=m) :
 Calls prog 209 #[va,vb] w (Rr w (m/n) (m%n)):=by
 obtain⟨i0,hi,bo,bp,bq⟩:=info_parts Tryz.info236;have HI:=Lib.hid hi;have c5:=Lib.hid bo;have c6:=Lib.hid bp;have c7:=Lib.hid bq;clear hi bo bp bq;have cg:k+2<=nl m:=by rw[<-hn];exact Ct ax
 have hc:=Fw va vb m n w ha hb oV oV;obtain⟨s,hs⟩:∃ s,s=sgn ((m:Int)-n):=⟨_,rfl⟩;have cw:0<=s:=by rw[hs];exact Acr ax
 rw[<-hs]at hc;have HC:=Lib.hid hc;have P:Hid (0<n):=by
  rcases At5 n with h0|h0
  ·rw[h0,Rv]at hn;omega
  exact h0
 have HA:=Lib.hid ha;have HB:=Lib.hid hb;have d:=Aox.make hn;obtain⟨a,ca,rfl,_,ab⟩:=ha;obtain⟨b,cb,rfl,_,Z⟩:=hb;have U:(Aa n).length=k+2:=hn;have F:(Aa m).length=nl m:=rfl;obtain⟨bb,ob,rfl,cc⟩:=Z.at (j:=k+1) oV;obtain⟨b1,a7⟩:∃ b1,b1=(Aa n).getD (k+1) 0:=⟨_,rfl⟩;have cj:b1<1000000000:=by rw[a7];exact (Am n).getD _
 rw[<-a7]at cc d;rw[U]at HC HB⊢;rw[F]at HC HA⊢;obtain⟨f,hf⟩:∃ f,f=1000000000/(b1+1):=⟨_,rfl⟩;rw[<-hf]at d;obtain⟨L,hL⟩:∃ L,L=nl m:=⟨_,rfl⟩;rw[<-hL]at HC HA sa cg⊢;have cq:(1000000000:Int)/((b1:Int)+1)=(f:Int):=by rw[hf];simp
 have cp:=d.pos;have v:=d.low;have z:=Lib.hid d;have HL:=Lib.hid hL;have HF:=Lib.hid hf;have cn:decide (s<0)=false:=gV;have co:(((k:Int)+2)==1)=false:=gV;clear hc Z ab hs U F d a7 hL hf hn
 go_enter func209,ntmps209
 go_wp2_with fail
 refine HC.out.mono ?_;rintro e w' ⟨rfl,q,rfl⟩
 go_upto_region 7 with fail
 have x2:Ext w ((w.drewN q).alloc (Obj.cells #[Value.int IntKind.u64 (f:Int)] 236)):=((Ext.refl w).drewN q).alloc _;have aq:Ci ((w.drewN q).alloc (Obj.cells #[Value.int IntKind.u64 (f:Int)] 236)) (.slice (some ⟨w.heap.size,0,none⟩) 1 1) f:=by
  refine⟨_,1,by rw[D9 oV v];rfl,by rw[D9 oV v];simp,?_⟩;rw[D9 oV v];exact Ae7 (w.drewN q) f
 have a8:((w.drewN q).alloc (Obj.cells #[Value.int IntKind.u64 (f:Int)] 236)).cell? ⟨w.heap.size,0,none⟩=some (.int .u64 (f:Int)):=World.cell?_alloc_new (w:=w.drewN q) _ _ _;generalize (w.drewN q).alloc (Obj.cells #[Value.int IntKind.u64 (f:Int)] 236)=W2 at *
 have X2:=Lib.hid x2;have ad:=Lib.hid aq;have bt:=Lib.hid a8;clear x2 aq a8 HC
 go_cut [9,10] (Y7 W2 W2.heap.size (L+1) (n*f))
 case first =>
  have ct:=fun W:World=>Up W ((L:Int)+1) (L+1) oV oV;have V:=fun (W:World) (x:Ext W2 W)=>P6 _ _ n f W (HB.out.ext (X2.out.trans x)) (ad.out.ext x) (by rw[z.out.len];omega) (by unfold nl;rw[D9 oV v];simp);have HM:=Lib.hid V;clear V;have cx:IntKind.i64.wrap ((L:Int)+1)=(L:Int)+1:=IntWalk.i64_in _ oV
  go_region_with (first|(go_at_call 164;refine (HM.out _ ?_).mono ?_;(first|exact (Ext.refl _).drew|exact ((Ext.refl _).alloc _).drew|exact ((Ext.refl _).drew).alloc _);rintro e w3 ⟨kk,cap,rfl,hv,D⟩))
  all_goals (try go_wp2_with fail)
  all_goals go_meet
  ·exact Aqs oV hv D
  exact Arf oV (Axa P.out oV) hv D
 case rest =>
  obtain⟨g,av,nv,cv,rfl,rfl,b2,Y,bl,D,hg⟩:=hcut;rw[z.out.vlen]at b2;subst b2;have HO:=Lib.hid Y;have HV:=Lib.hid bl;have HX:=Lib.hid D;clear Y bl D
  go_wp2_with fail
  refine (P6 _ _ m f _ (HA.out.ext (X2.out.trans HX.out)) (ad.out.ext HX.out) (by rw[<-HL.out];omega) (by unfold nl;rw[D9 oV v];simp)).mono ?_;rintro e w3 ⟨kk,cap,rfl,hv,D⟩;obtain⟨au,cu,e1,_,ba⟩:=hv;simp only[Value.slice.injEq]at e1;obtain⟨rfl,e2,rfl⟩:=e1;have az:(Aa (m*f)).length<=L+1:=by
   have h1:=Fz m f;have h2:nl f<=1:=by unfold nl;rw[D9 oV v];simp
   rw[<-HL.out]at h1;unfold nl at h1 h2;omega
  have b3:=Uq HO.out D;have af:=Lib.hid b3;have a4:=Lib.hid D;have bu:=Lib.hid az;have bs:=Lib.hid e2;have Q:=Lib.hid ba;clear b3 D az e2 ba;obtain⟨M,hM⟩:∃ M,M=L+1-(k+2):=⟨_,rfl⟩;have ao:L+1=M+(k+2):=oV;have ae:=Lib.hid hM;have h:=Lib.hid ao;have ck:M<=L:=oV;clear hM ao
  go_wp2_with (first
   |(with_reducible refine O5 rfl (.tmp 49) (.tmp 52) rfl W2.heap.size g (L+1) kk _ ⟨wc.heap.size,0,none⟩ (Aa (m*f)) rfl rfl af.out bs.out.symm oV bu.out Q.out ?_;intro w4 b4 ar;have a2:=Lib.hid b4;have a0:=Lib.hid ar;clear b4 ar;have X4:=Lib.hid ((HX.out.trans a4.out).grown a0.out (fun k' A=>by cases A;exact hg));have a3:=Lib.hid ((HV.out.ext a4.out).grown a0.out))
   |(at_make;refine wpList_make_full _ rfl _ _ 99 rfl W2.heap.size 236 i0 (.int .u64 0) 1 Tryz.underlying99 HI.out c5.out c6.out .i64 .i64 _ _ M rfl rfl (by have:=ae.out;omega) (by have:=ae.out;omega) (by rw[c7.out];omega) (by unfold maxLen;omega) X4.out.size ?_;intro w5 aa aw;rw[Jk]at aa;have ag:=Lib.hid aa;have X5:Hid (Ext w4 w5):=(Ext.refl w4).grown aw (fun k' A=>by cases A);clear aa aw))
  have ay:g≠w4.heap.size:=by have:=Ans a2.out;omega
  have O:0<(Ay (Aa (n*f))).length:=by rw[Q8];have:=z.out.vlen;unfold nl at this;omega
  have al:=Lib.hid (a3.out.ext X5.out);have ah:=Lib.hid (a3.out.new O X5.out);have ak:=Lib.hid (Uq a2.out X5.out);have an:=Lib.hid (X4.out.trans X5.out);generalize w4.heap.size=gq at *
  clear HO HV af a4 Q a3 a2 a0 X4 X5 O
  go_loopw [12] (Ari W2 (m*f) (n*f) (k+2) M (L+1) g gq av) (fun i _=>(intOf i+1).toNat)
  case atStart =>
   have bh:=ak.out;rw[show L+1-(Aa (m*f)).length=M+(k+2)-nl (m*f) by unfold nl;have:=h.out;omega]at bh;exact⟨M,_,_,Atb _,rfl,L7.start z.out (by rw[<-HL.out];exact h.out),bh,ag.out,al.out,ah.out,an.out⟩
  case round =>
   obtain⟨j,u,qs,hj,rfl,bf,b6,b5,bm,bk,D⟩:=hrel;have C:=Lib.hid bf;have HU:=Lib.hid b6;have HQ:=Lib.hid b5;have R:=Lib.hid bm;have am:=Lib.hid bk;have a6:=Lib.hid D;clear bf b6 b5 bm bk D al ah ak an ag;rcases j with _|j
   ·have t:=C.out.done (Axa P.out oV);rw[(Z1 (m:=m) (n:=n) (show 0<f by omega)).1,(Z1 (m:=m) (n:=n) (show 0<f by omega)).2]at t;have K:u.length=L+1:=by rw[C.out.ulen];exact h.out.symm
    have J:=Row.of_owns HU.out;have I:=Row.of_owns HQ.out;have a8:=a6.out.cell bt.out;have bi:val (u.take (k+2))=(m%n)*f:=by
     rw[<-t.2];have:=G0 (u:=u) (j:=0) (k:=k+2) (fun i hi=>C.out.zero i hi);simpa using this
    have c3:=Lib.hid bi;have br:=Lib.hid t;have Q:=Lib.hid J;have aj:=Lib.hid I;have c2:=Lib.hid K;clear t K J I bi;have ac:Row wr (some ⟨g,0,none⟩) (Ay (u.take (k+2))):=by rw[<-Xb];exact Q.out.take _
    have H:(u.take (k+2)).length=k+2:=by rw[Atm,c2.out];have:=h.out;omega
    obtain⟨X,hX⟩:∃ X,X=Value.slice (some ⟨g,0,none⟩) (Bl (u.take (k+2)) (u.take (k+2)).length) (L+1):=⟨_,rfl⟩;have ap:Ci wr X ((m%n)*f):=by
     rw[hX];exact Dd (C.out.ulow.take _) ac c3.out (by rw[H];have:=h.out;omega)
    have bg:∀ W,Ext wr W->Calls prog 172 #[.slice (some ⟨g,0,none⟩) (k+2) (L+1)] W fun e w'=>e=.returned X/\W=w':=fun W x=>by
     rw[hX];exact F7 _ _ _ _ W H oV (by have:=h.out;omega) (ac.ext x)
    have b0:nl ((m%n)*f)<=10000000000000:=by
     have h1:=Fz (m%n) f;have h2:nl f<=1:=by unfold nl;rw[D9 oV v];simp
     have h3:nl (m%n)<=nl m:=Ct (Nat.mod_le _ _);rw[<-HL.out]at h3;omega
    have be:∀ W,Ext wr W->Calls prog 231 #[X,.int .u64 f] W (N0 W (m%n) 0):=fun W x=>by
     have:=Pw X ((m%n)*f) f W (ap.ext x) b0 oV v;rw[Nat.mul_div_cancel _ oV,Nat.mul_mod_left]at this;exact this
    have c0:=Lib.hid bg;have bx:=Lib.hid be;clear bg be hX ac H ap b0;have c8:M<=9223372036854775807:=oV;have ci:HQ=HQ:=rfl;clear ci
    go_wp2_with fail
    go_region_with (first
     |(go_at_call 172;refine (c0.out _ ?_).mono ?_;(exact (Ext.refl _).drew);rintro e w7 ⟨rfl,rfl⟩)
     |(go_at_call 231;refine (bx.out _ ?_).mono ?_;(exact (Ext.refl _).drew);rintro e w7 ⟨v7,rfl,bj,bn⟩))
    all_goals
     have c4:=Lib.hid bj;have a5:Hid (Ext wr w7):=((Ext.refl wr).drew).trans bn;clear bj bn
     go_wp2_with fail
     refine (F7 _ _ _ qs _ C.out.qlen c8 (Atb _) (aj.out.ext a5.out)).mono ?_;rintro e w8 ⟨rfl,rfl⟩
     go_wp2_with fail
     go_ret2
     have ch:=Dd (cap:=M) C.out.qlow (aj.out.ext a5.out) (n:=m/n) br.out.1 (by rw[C.out.qlen];exact Atb _);exact⟨_,_,rfl,ch,c4.out,(X2.out.trans a6.out).trans a5.out⟩
   rw[show ((j+1:Nat):Int)-1=j by omega];have K:u.length=L+1:=by rw[C.out.ulen];exact h.out.symm
   have E:=C.out.before (show j<M by omega);have b9:val ((u.drop j).take (k+2+1))/(n*f)<1000000000:=by
    rw[Au4 (Axa P.out oV)];exact E
   have B:=Aio W2.heap.size g (L+1) j k (L+1-j) av cv u (Aa (n*f)) wr HU.out R.out K C.out.ulow (Am _) z.out.vlen (by have:=h.out;omega) oV (by have:=h.out;omega) z.out.vtop (by rw[Ai];exact E);rw[Ai]at B;obtain⟨qd,b8⟩:∃ qd,qd=val ((u.drop j).take (k+2+1))/(n*f):=⟨_,rfl⟩;have ai:=Lib.hid b8;have bz:=Lib.hid B;have ce:=h.out;have cs:j+(k+2)+1<=L+1:=oV;have cd:j<M:=oV;have cm:L+1≠j:=oV;clear b8 B E K ce
   go_wp2_with fail
   rw[show j+(k+2)+1-j=k+3 by omega];refine bz.out.mono ?_;rintro e w6 ⟨o,rfl,bc,b7,a9⟩;rw[<-ai.out];have T:=Ua HQ.out a9 ay.symm;have cl:=Fy T (j:=j) (by rw[C.out.qlen];omega);have cr:=T.frozenAt j;have bv:=Lib.hid T;have c1:=Lib.hid b7;have a1:=Lib.hid a9;have bw:=Lib.hid bc;clear T b7 a9 bc
   go_wp2_with fail
   have y:=Ki j qd bv.out (U9 w6 (some gq));refine⟨⟨j,o,qs.set j qd,oV,rfl,?_,Ua c1.out y.2 ay,y.1,?_,?_,?_⟩,by simp only[intOf];omega⟩
   ·rw[ai.out];exact C.out.step cd (Axa P.out oV) (by have:=Ck (n*f);rw[z.out.vlen]at this;exact this) bw.out b9
   ·refine⟨?_,R.out.2⟩;exact (Fe.grown ⟨(R.out.grown a1.out).1,am.out.2⟩ y.2).1
   ·exact Fe.grown ⟨(R.out.grown a1.out).1,am.out.2⟩ y.2
   have x6:=a6.out.grown a1.out (fun k' A=>by cases A;exact hg);exact x6.grown y.2 (fun k' A=>by cases A;exact (Ns HQ.out).2)
def Vl (a d:Value)(m n:Nat)(w:World)(f:Ci w a m)(j:Ci w d n)(x:nl m<=5000000000000)(sb:nl n<=5000000000000)(v:0<n) :
 Calls prog 209 #[a,d] w (Rr w (m/n) (m%n)):=by
 rcases At8 m n with h|h
 ·rw[Aw1 h,Axg h];exact Aao a d m n w f j oV oV h
 rcases At8 n 1000000000 with q|q
 ·exact X7 a d m n w f j oV v q h
 have y:2<=nl n:=by
  rcases At8 (nl n) 2 with t|t
  ·have z:=Ck n;have u:1000000000^nl n<=1000000000^1:=Atq oV oV;rw[Nat.pow_one]at u;omega
  exact t
 exact Zt a d m n (nl n-2) w f j x oV h
end
section
variable {n:Nat}
def Ah4 (h:nl n<=2):n=(Aa n).getD 1 0*1000000000+(Aa n).getD 0 0:=by
 have a:=Yu (Aa n) 0;rw[Atp (show (Aa n).length<=0+2 from h),Ai]at a;simp only[Ayo,val,A0z,Avm,Aud]at a;omega
set_option maxRecDepth 100000 in
def Yi (q:Value)(n:Nat)(w:World)(B:Ci w q n)(h:nl n<=2) :
 Calls prog 219 #[q] w fun e w'=>e=.returned (.int .u64 (n:Int))/\w=w':=by
 have d:=Ah4 h;obtain⟨a,c,rfl,_,j⟩:=B;have f:=S2 a c (Aa n) 1 w (by unfold nl at h;omega) oV j;have g:=S2 a c (Aa n) 0 w (by unfold nl at h;omega) oV j;rw[show (1:Int).toNat=1 by rfl]at f;rw[show (0:Int).toNat=0 by rfl]at g;have A:=(Am n).getD 1;have z:=(Am n).getD 0;obtain⟨x,k⟩:∃ x,x=(Aa n).getD 1 0:=⟨_,rfl⟩;obtain⟨y,m⟩:∃ y,y=(Aa n).getD 0 0:=⟨_,rfl⟩;rw[<-k]at f A d;rw[<-m]at g z d;have u:=Lib.hid f;have v:=Lib.hid g;have t:=Lib.hid d;clear f g d k m j
 go_enter func219,ntmps219
 go_wp2_with fail
 refine u.out.mono ?_;rintro e w' ⟨rfl,rfl⟩
 go_wp2_with fail
 refine v.out.mono ?_;rintro e w' ⟨rfl,rfl⟩
 go_wp2_with fail
 go_ret
 exact⟨Ao0 (by have:=t.out;omega),rfl⟩
def Wn (h:nl n<=2):n<1000000000000000000:=by
 have d:=Ck n;have a:1000000000^nl n<=1000000000^2:=Atq oV h;rw[show (1000000000:Nat)^2=1000000000000000000 by rfl]at a;omega
def Sl (m n:Nat):Nat.gcd n (m%n)=Nat.gcd m n:=by rw[A01 m n,Nat.gcd_rec n m,A01]
end
section
variable {b:Bool}{g n:Nat}{s:Value}{t:TypeId}{w:World}
def Oi (w:World)(v:Value)(z:Int):Prop:=∃ a n c,v=.agg #[.bool (decide (z<0)),.slice a n c]/\Ci w (.slice a n c) z.natAbs
def Oi.ext {w w':World}{v:Value}{z:Int}(h:Oi w v z)(x:Ext w w'):Oi w' v z:=by
 obtain⟨a,n,c,d,e⟩:=h;exact⟨a,n,c,d,e.ext x⟩
def Yp (w:World)(z:Int)(e:Ending)(w':World):Prop:=∃ v,e=.returned v/\Oi w' v z/\Ext w w'
def Bt (neg:Bool)(n:Nat):Int:=if neg then -(n:Int) else n
def I2 (neg:Bool)(n:Nat):(Bt neg n).natAbs=n:=by unfold Bt;split<;>omega
def Sh (neg:Bool)(n:Nat):decide (Bt neg n<0)=(neg&&decide (0<n)):=by
 unfold Bt;cases neg<;>simp<;>omega
def Qz (z:Int):Bt (decide (z<0)) z.natAbs=z:=by
 unfold Bt;by_cases h:z<0<;>simp[h]<;>omega
def X0 {b neg:Bool}(e:b=(neg&&decide (0<n)))(d:Ci w s n):Oi w (.agg #[.bool b,s]) (Bt neg n):=by
 obtain⟨a,c,rfl,f⟩:=id d;exact⟨a,_,c,by rw[Sh,e],by rw[I2];exact d⟩
def Apg {z:Int}(e:b=decide (z<0))(d:Ci w s z.natAbs):Oi w (.agg #[.bool b,s]) z:=by
 obtain⟨a,c,rfl,f⟩:=id d;exact⟨a,_,c,by rw[e],d⟩
def Cl :0<(Aa n).length↔0<n:=by
 constructor
 ·intro h;rcases At5 n with h0|h0
  ·rw[h0,Bc]at h;simp at h
  exact h0
 intro h;exact Avq.2 (fun e=>by have:=Fu.1 e;omega)
def Ni (w:World)(a:Addr)(v:Value):w.grownBy (w.setCell a v) (some a.block) :=
 ⟨rfl,rfl,rfl,by simp[World.setCell],fun k _ d=>Below.heap_setCell _ _ _ _ (fun e=>d (by rw[e]))⟩
def Ajf (w:World)(g:Nat):Prop:=∃ (cs:Array Value) (t:TypeId) (fr:Nat×Nat),w.heap[g]?=some (.cells cs t fr)/\∀ (j:Nat) (k:IntKind) (z:Int),cs[j]?≠some (Value.int k z)
def Ci.grown {w w':World}(h:Ci w s n)(z:Ajf w g)(A:w.grownBy w' (some g)):Ci w' s n:=by
 obtain⟨a,c,v,x,y⟩:=h;refine⟨a,c,v,x,fun j q=>?_⟩;obtain⟨b,off,u,d⟩:=y j q;refine⟨b,off,u,A.cell d ?_⟩;simp only[ne_eq,Atd];intro e;obtain⟨cs,t,fr,m,k⟩:=z;rw[<-e]at m;rw[cell_of_row _ _ _ _ _ _ m]at d;have f:j<(Aa n).length:=by simpa using q
 refine k _ .u64 ((Aa n).getD j 0:Nat) (d.trans ?_);simp[Ay,f]
def Amc {e f a d:Value}(h:w.heap[g]?=some (.cells #[e,f] t (0,0))) :
 ((w.setCell ⟨g,0,none⟩ a).setCell ⟨g,1,none⟩ d).heap[g]?=some (.cells #[a,d] t (0,0)):=by
 rw[heap_setCell_same _ _ _ _ _ _ (heap_setCell_same _ _ _ _ _ _ h)];rfl
def Aqp (w:World)(g:Nat)(a d:Value):w.grownBy ((w.setCell ⟨g,0,none⟩ a).setCell ⟨g,1,none⟩ d) (some g) :=
 Re (Ni _ _ _) (Ni _ _ _)
def As0 {a w:World}(h:Ext a w)(d:a.heap.size<=g)(e f:Value):Ext a ((w.setCell ⟨g,0,none⟩ e).setCell ⟨g,1,none⟩ f) :=
 (h.setCell (p:=⟨g,0,none⟩) d e).setCell (p:=⟨g,1,none⟩) d f
def Aoc {a:Option Addr}{n c:Nat}(h:w.heap[g]?=some (.cells #[.bool b,.slice a n c] t (0,0))):Ajf w g:=by
 refine⟨_,_,_,h,fun j k z e=>?_⟩
 match j with
 |0=>simp at e
 |1=>simp at e
 |j+2=>simp at e
def Tryz.size101:(prog.info? 101).map (·.size)=some 2:=kV
def Y8 {fn:Func}{p:Tmp}{R:Ending->World->Prop}{a:Act}{w:World}{g:Nat}{d e:Value}(h:fn.results = #[.cell p 101])
 (hp:a.tmps.getD p undef=.pointer (some ⟨g,0,none⟩)) (k:w.heap[g]?=some (.cells #[d,e] 101 (0,0))) (j:a.defers = []) (f:R (.returned (.agg #[d,e])) w) :
 bodyPost prog fn R .ret a w :=
 ⟨j,_,results_cell_row h a.tmps w g _ _ _ _ hp k Tryz.underlying101 rfl Tryz.size101,f⟩
set_option maxRecDepth 100000 in
def Aeu (neg:Bool)(s:Value)(n:Nat)(w:World)(h:Ci w s n)(f:nl n<=100000000000000) :
 Calls prog 163 #[.bool neg,s] w (Yp w (Bt neg n)):=by
 have H:=Lib.hid h;obtain⟨a,c,rfl,_,_⟩:=h;have j:(Aa n).length<=100000000000000:=f;by_cases hp:0<(Aa n).length
 ·have e:decide (0<((Aa n).length:Int))=true:=gV;have d:=Cl.1 hp;cases neg
  ·go_enter func163,ntmps163
   go_wp2_with fail
   refine bodyPost_ret (v:=.agg #[.bool false,.slice a (Aa n).length c]) (by simp[results,Tryz.results163,go_sem]) rfl ⟨_,rfl,X0 rfl (H.out.ext ((Ext.refl w).alloc _)),(Ext.refl w).alloc _⟩
  go_enter func163,ntmps163
  go_wp2_with fail
  refine bodyPost_ret (v:=.agg #[.bool true,.slice a (Aa n).length c]) (by simp[results,Tryz.results163,go_sem]) rfl ⟨_,rfl,X0 (by simp[d]) (H.out.ext ((Ext.refl w).alloc _)),(Ext.refl w).alloc _⟩
 have e:decide (0<((Aa n).length:Int))=false:=by simp only[decide_eq_false_iff_not];omega
 have d:¬ 0<n:=fun h=>hp (Cl.2 h);cases neg
 ·go_enter func163,ntmps163
  go_wp2_with fail
  refine bodyPost_ret (v:=.agg #[.bool false,.slice a (Aa n).length c]) (by simp[results,Tryz.results163,go_sem]) rfl ⟨_,rfl,X0 rfl (H.out.ext ((Ext.refl w).alloc _)),(Ext.refl w).alloc _⟩
 go_enter func163,ntmps163
 go_wp2_with fail
 refine bodyPost_ret (v:=.agg #[.bool false,.slice a (Aa n).length c]) (by simp[results,Tryz.results163,go_sem]) rfl ⟨_,rfl,X0 (by simp[d]) (H.out.ext ((Ext.refl w).alloc _)),(Ext.refl w).alloc _⟩
end
section
variable {g:Nat}{t:TypeId}{w:World}{y z:Int}
def Ape {x y:Value}(h:w.heap[g]?=some (.cells #[x,y] t (0,0))):w.cell? ⟨g,0,none⟩=some x:=by rw[cell_of_row _ _ _ _ _ _ h];rfl
def Am6 {x y:Value}(h:w.heap[g]?=some (.cells #[x,y] t (0,0))):w.cell? ⟨g,1,none⟩=some y:=by rw[cell_of_row _ _ _ _ _ _ h];rfl
def Aba (y z:Int):Bt (!(decide (y<0)==decide (z<0))) (y.natAbs*z.natAbs)=y*z:=by
 unfold Bt;have e:((y.natAbs*z.natAbs:Nat):Int)=(y.natAbs:Int)*z.natAbs:=Aws _ _;rw[e];by_cases a:y<0<;>by_cases d:z<0<;>simp[a,d]
 ·rw[show (y.natAbs:Int) = -y by omega,show (z.natAbs:Int) = -z by omega,Int.neg_mul_neg]
 ·rw[show (y.natAbs:Int) = -y by omega,show (z.natAbs:Int)=z by omega,A0k,A0l]
 ·rw[show (y.natAbs:Int)=y by omega,show (z.natAbs:Int) = -z by omega,A1h,A0l]
 rw[show (y.natAbs:Int)=y by omega,show (z.natAbs:Int)=z by omega]
def Z9 (a:decide (y<0)=decide (z<0)):Bt (decide (y<0)) (y.natAbs+z.natAbs)=y+z:=by
 unfold Bt;by_cases d:y<0<;>by_cases e:z<0<;>simp[d,e]at a⊢<;>omega
def V3 (a:decide (y<0)≠decide (z<0))(h:z.natAbs<=y.natAbs):Bt (decide (y<0)) (y.natAbs-z.natAbs)=y+z:=by
 unfold Bt;by_cases d:y<0<;>by_cases e:z<0<;>simp[d,e]at a⊢<;>omega
def Wp (a:decide (y<0)≠decide (z<0))(h:y.natAbs<z.natAbs):Bt (decide (z<0)) (z.natAbs-y.natAbs)=y+z:=by
 unfold Bt;by_cases d:y<0<;>by_cases e:z<0<;>simp[d,e]at a⊢<;>omega
end
section
variable {y z:Int}
def Yx {y z q r:Int}(h:y=z*q+r)(h0:0<=r)(g:r<z.natAbs):y/z=q/\y%z=r:=by
 have d:z≠0:=by intro e;subst e;simp at g;omega
 have a:y%z=r:=by
  rw[h,Int.add_comm,Int.add_mul_emod_self_left];rcases A16 d with j|j
  ·rw[<-Int.emod_neg];exact Int.emod_eq_of_lt h0 oV
  exact Int.emod_eq_of_lt h0 oV
 refine⟨?_,a⟩;have:=A1m y z;rw[a,h]at this;have f:z*((z*q+r)/z)=z*q:=oV;rw[h];exact Int.eq_of_mul_eq_mul_left d f
def Vu (d:¬ y<0)(g:z≠0):Bt (!(decide (y<0)==decide (z<0))) (y.natAbs/z.natAbs)=y/z/\Bt false (y.natAbs%z.natAbs)=y%z:=by
 have e:=Avf y.natAbs z.natAbs;have f:=Au3 y.natAbs (show 0<z.natAbs by omega);generalize y.natAbs/z.natAbs=q at *
 generalize y.natAbs%z.natAbs=r at *
 have a:(z.natAbs:Int)*q+r=y.natAbs:=by rw[<-e];simp
 have:=Yx (y:=y) (z:=z) (q:=Bt (!(decide (y<0)==decide (z<0))) q) (r:=(r:Int)) (by
  unfold Bt;by_cases h:z<0
  ·rw[show (!(decide (y<0)==decide (z<0)))=true by simp[d,h],if_pos rfl,A1h];rw[show (z.natAbs:Int) = -z by omega,A0k]at a;omega
  rw[show (!(decide (y<0)==decide (z<0)))=false by simp[d,h],if_neg mV];rw[show (z.natAbs:Int)=z by omega]at a;omega) oV oV
 exact⟨this.1.symm,by rw[this.2];rfl⟩
def Vn (e:y<0)(g:z≠0)(f:y.natAbs%z.natAbs=0):Bt (!(decide (y<0)==decide (z<0))) (y.natAbs/z.natAbs)=y/z/\Bt false (y.natAbs%z.natAbs)=y%z:=by
 have d:=Avf y.natAbs z.natAbs;rw[f]at d⊢;generalize y.natAbs/z.natAbs=q at *
 have a:(z.natAbs:Int)*q=y.natAbs:=by rw[<-d];simp
 have:=Yx (y:=y) (z:=z) (q:=Bt (!(decide (y<0)==decide (z<0))) q) (r:=0) (by
  unfold Bt;by_cases h:z<0
  ·rw[show (!(decide (y<0)==decide (z<0)))=false by simp[e,h],if_neg mV];rw[show (z.natAbs:Int) = -z by omega,A0k]at a;omega
  rw[show (!(decide (y<0)==decide (z<0)))=true by simp[e,h],if_pos rfl,A1h];rw[show (z.natAbs:Int)=z by omega]at a;omega) oV oV
 exact⟨this.1.symm,by rw[this.2];rfl⟩
def Yw (d:y<0)(j:z≠0)(g:0<y.natAbs%z.natAbs):Bt (!(decide (y<0)==decide (z<0))) (y.natAbs/z.natAbs+1)=y/z/\Bt false (z.natAbs-y.natAbs%z.natAbs)=y%z:=by
 have e:=Avf y.natAbs z.natAbs;have f:=Au3 y.natAbs (show 0<z.natAbs by omega);generalize y.natAbs/z.natAbs=q at *
 generalize y.natAbs%z.natAbs=r at *
 have a:(z.natAbs:Int)*q+r=y.natAbs:=by rw[<-e];simp
 have:=Yx (y:=y) (z:=z) (q:=Bt (!(decide (y<0)==decide (z<0))) (q+1)) (r:=((z.natAbs-r:Nat):Int)) (by
  unfold Bt;by_cases h:z<0
  ·rw[show (!(decide (y<0)==decide (z<0)))=false by simp[d,h],if_neg mV];rw[show (z.natAbs:Int) = -z by omega,A0k]at a;rw[Int.natCast_add,Int.mul_add];omega
  rw[show (!(decide (y<0)==decide (z<0)))=true by simp[d,h],if_pos rfl];rw[show (z.natAbs:Int)=z by omega]at a;rw[A1h,Int.natCast_add,Int.mul_add];omega) oV oV
 exact⟨this.1.symm,by rw[this.2];rfl⟩
end
section
variable {n:Int}
def Aes (h:n<0)(a:-9223372036854775808<=n):IntKind.u64.wrap (-(IntKind.u64.wrap n))=((n.natAbs:Nat):Int):=by
 have e:∀ n:Int,IntKind.u64.wrap n=n%18446744073709551616:=fun n=>by simp[IntKind.wrap,IntKind.signed,IntKind.bits]
 rw[e,e];omega
def Adk (h:0<=n)(a:n<=9223372036854775807):IntKind.u64.wrap n=((n.natAbs:Nat):Int):=by
 have e:∀ n:Int,IntKind.u64.wrap n=n%18446744073709551616:=fun n=>by simp[IntKind.wrap,IntKind.signed,IntKind.bits]
 rw[e];omega
end
def Tj (w:World)(v:Value)(q:Rat):Prop :=
 ∃ a n c a' n' c',v=.agg #[.bool (decide (q.num<0)),.slice a n c,.bool false,.slice a' n' c']/\Ci w (.slice a n c) q.num.natAbs/\Ci w (.slice a' n' c') q.den
def Tj.num {w:World}{b b':Bool}{a e:Option Addr}{n g c c':Nat}{q:Rat}(h:Tj w (.agg #[.bool b,.slice a n c,.bool b',.slice e g c']) q):Oi w (.agg #[.bool b,.slice a n c]) q.num:=by
 obtain⟨_,_,_,_,_,_,d,f,j⟩:=h;simp only[Value.agg.injEq,Axh,Ave,Value.bool.injEq,Value.slice.injEq,and_true]at d;obtain⟨rfl,⟨rfl,rfl,rfl⟩,rfl,rfl,rfl,rfl⟩:=d;exact⟨_,_,_,rfl,f⟩
def Tj.den {w:World}{b b':Bool}{a d:Option Addr}{n f c c':Nat}{q:Rat}(h:Tj w (.agg #[.bool b,.slice a n c,.bool b',.slice d f c']) q):Oi w (.agg #[.bool b',.slice d f c']) q.den:=by
 obtain⟨_,_,_,_,_,_,e,j,g⟩:=h;simp only[Value.agg.injEq,Axh,Ave,Value.bool.injEq,Value.slice.injEq,and_true]at e;obtain⟨rfl,⟨rfl,rfl,rfl⟩,rfl,rfl,rfl,rfl⟩:=e;refine⟨_,_,_,?_,by rw[Atv];exact g⟩;rw[show decide (((q.den:Nat):Int)<0)=false by simp only[decide_eq_false_iff_not];omega]
def Qi:nl 1<=1:=by unfold nl;rw[D9 oV oV];simp
def Rf {d:Nat}:(sgn ((d:Int)-1)==0)=decide (d=1):=by
 rcases Awd ((d:Int)-1) 0 with h|h|h
 ·rw[Dc h,decide_eq_false oV];rfl
 ·rw[h,Ol,decide_eq_true oV];rfl
 rw[Cg h,decide_eq_false oV];rfl
set_option maxRecDepth 100000 in
def Ab5 (v:Value)(q:Rat)(w:World)(e:Tj w v q) :
 Calls prog 177 #[v] w (Yp w q.num):=by
 have d:=Lib.hid e;obtain⟨a,n,c,f,g,c',rfl,_,_⟩:=e;obtain⟨p,hp⟩:∃ p,p=decide (q.num<0):=⟨_,rfl⟩;rw[<-hp]at d⊢;clear hp
 go_enter func177,ntmps177
 go_wp2_with fail
 refine Y8 rfl rfl (heap_alloc2_new _ _ _) rfl ⟨_,rfl,d.out.num.ext (((Ext.refl w).alloc _).alloc _),((Ext.refl w).alloc _).alloc _⟩
set_option maxRecDepth 100000 in
def Aaw (v:Value)(q:Rat)(w:World)(e:Tj w v q) :
 Calls prog 176 #[v] w (Yp w q.den):=by
 have d:=Lib.hid e;obtain⟨a,n,c,f,g,c',rfl,_,_⟩:=e;obtain⟨p,hp⟩:∃ p,p=decide (q.num<0):=⟨_,rfl⟩;rw[<-hp]at d⊢;clear hp
 go_enter func176,ntmps176
 go_wp2_with fail
 refine Y8 rfl rfl (heap_alloc2_new _ _ _) rfl ⟨_,rfl,d.out.den.ext (((Ext.refl w).alloc _).alloc _),((Ext.refl w).alloc _).alloc _⟩
section
variable {y z:Int}
theorem Lz (y z:Int):Rat.divInt (-y) (-z)=Rat.divInt y z:=by
 rw[Awf,Awf,Ayf,Ayf];by_cases h:(z:Rat)=0
 ·rw[h];simp[Azs]
 have:-(z:Rat)≠0:=by grind
 grind
def S1 (d:0<z)(a:Nat.gcd y.natAbs z.natAbs=1):(Rat.divInt y z).num=y/\(Rat.divInt y z).den=z.natAbs:=by
 have e:(z:Int)=((z.natAbs:Nat):Int):=oV
 rw[e,Azx,Rat.mkRat_def,dif_neg oV,Rat.normalize_eq];simp only[Atv,a];simp
def U2 {G:Nat}(d:0<z)(a:G=Nat.gcd y.natAbs z.natAbs):(Rat.divInt y z).num=y/G/\(Rat.divInt y z).den=z.natAbs/G:=by
 have e:(z:Int)=((z.natAbs:Nat):Int):=oV
 rw[e,Azx,Rat.mkRat_def,dif_neg oV,Rat.normalize_eq];subst a;constructor<;>simp
end
def Sz (q:Rat)(k:Nat):Prop:=nl q.num.natAbs<=k/\nl q.den<=k
def Ah9 {q r:Rat}(a:q.den=1)(d:r.den=1):((q.num*r.num:Int):Rat)=q*r:=by
 rw[Rat.mul_def',a,d,Avm,Rat.mkRat_one]
def Yq (q r:Rat):Rat.divInt (q.num*r.num) ((q.den:Int)*(r.den:Int))=q*r:=by
 rw[Rat.mul_def',<-Azx,Aws]
theorem Afu (q r:Rat):Rat.divInt (q.num*(r.den:Int)) ((q.den:Int)*r.num)=q/r:=by
 rw[Awf,Av9,Av9];have f:q=(q.num:Rat)/((q.den:Int):Rat):=by rw[<-Awf,Aza]
 have e:r=(r.num:Rat)/((r.den:Int):Rat):=by rw[<-Awf,Aza]
 have g:((q.den:Int):Rat)≠0:=by have:=q.den_nz;simp;exact this
 have j:((r.den:Int):Rat)≠0:=by have:=r.den_nz;simp;exact this
 by_cases h:(r.num:Rat)=0
 ·have:r=0:=by rw[e,h];simp[Azs]
  rw[h,this];simp[Azs]
 generalize (q.num:Rat)=a at *
 generalize (r.num:Rat)=b at *
 generalize ((q.den:Int):Rat)=c at *
 generalize ((r.den:Int):Rat)=d at *
 rw[f,e];grind
def Dl {y z:Int}{k:Nat}(a:nl y.natAbs<=k)(d:nl z.natAbs<=k):nl (y*z).natAbs<=2*k:=by
 rw[Au7];have:=Fz y.natAbs z.natAbs;omega
end Go.Proofs.YtnafchoihfnkeaaGreatDoor
