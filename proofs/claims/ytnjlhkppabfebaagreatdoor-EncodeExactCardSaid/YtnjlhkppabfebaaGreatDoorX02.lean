/- Parts of one proof, joined by a program. -/
import Derived.Test.YtnjlhkppabfebaaGreatDoorX01
import Derived.Deep.LoopGhost
import Derived.WalkKit
import Derived.Lib.Hide
import Derived.Test.YtnjlhkppabfebaaGreatDoorProg
import Derived.KernelRfl
import Derived.Deep.QuietTactic
import Derived.BigQuiet
import Derived.RegionTactic
import Derived.ChangeAlike
import Derived.Outline
import Derived.Deep.RegionWith
import Derived.Deep.DeepCutAuto
import Derived.Laws.CopyOwn
import Derived.Deep.RegionHeld3
set_option linter.defProp false
set_option linter.unusedVariables false
set_option linter.unusedSimpArgs false
set_option linter.unusedSectionVars false
set_option maxHeartbeats 16000000
namespace Go.Proofs.YtnjlhkppabfebaaGreatDoor
open Go.Proofs.Tryz
open Go.RowKit
def A4x:=@List.cons_append
def A2d:=@Nat.pow_succ
def A2o:=@Nat.mul_add
def A17:=@Nat.mul_assoc
def A19:=@Nat.mul_comm
def A3p:=@Nat.add_assoc
def A7g:=@List.eq_of_mem_replicate
def A02:=@List.getD_eq_getElem?_getD
def A01:=@List.getElem?_eq_getElem
def A09:=@List.getElem_mem
def A1v:=@List.getElem?_eq_none
def A2h:=@Nat.mul_le_mul_left
def A68:=@List.replicate_succ
def A1j:=@List.take_of_length_le
def A5p:=@Nat.add_sub_cancel
def A4f:=@List.length_pos_iff
def A15:=@List.take_length
def A3b:=@Nat.div_lt_iff_lt_mul
def A22:=@Nat.lt_of_le_of_lt
def A10:=@Nat.pow_le_pow_right
def A4k:=@Nat.pow_add
def A2w:=@Nat.zero_add
def A2g:=@List.map_set
def A5g:=@List.map_take
def A6d:=@Int.eq_ofNat_of_zero_le
def A23:=@Int.toNat_natCast
def A4q:=@Int.lt_trichotomy
def A2a:=@Nat.eq_zero_or_pos
def A3z:=@Nat.mul_zero
def A8h:=@Nat.le_antisymm
def A50:=@Nat.mul_one
def A4h:=@List.take_append_drop
def A5z:=@List.drop_eq_getElem_cons
def A2j:=@List.set_cons_succ
def A6b:=@List.getD_cons_succ
def A7c:=@List.mem_or_eq_of_mem_set
def A6e:=@List.getElem?_replicate
def A25:=@Nat.mul_le_mul
def A29:=@Nat.mod_lt
def A16:=@Nat.add_mul
def A53:=@List.take_zero
def A1t:=@Nat.zero_le
def A13:=@Nat.mul_le_mul_right
def A3h:=@Nat.div_add_mod
def A5a:=@List.drop_zero
def Bbi:=@Nat.mul_add_div
def A49:=@Nat.div_eq_of_lt
def A5i:=@Nat.mod_eq_of_lt
def A4t:=@List.set_append_right
def A4i:=@Nat.sub_self
def A2p:=@List.set_cons_zero
def A42:=@List.replicate_zero
def A1x:=@List.append_nil
def A2b:=@List.drop_of_length_le
def A5u:=@Nat.lt_trichotomy
def A8i:=@Nat.le_of_lt
def A4d:=@Int.natCast_mul
def A4u:=@Nat.le_div_iff_mul_le
def A69:=@Nat.div_mul_le_self
def A3i:=@Nat.one_mul
def A60:=@Nat.lt_of_mul_lt_mul_right
def A93:=@List.drop_set
def A89:=@Nat.add_comm
def A4g:=@List.ext_getElem?
def A8j:=@Nat.pow_zero
def A6r:=@List.set_set
def A6w:=@Nat.mul_lt_mul_of_pos_right
def A84:=@Nat.lt_of_mul_lt_mul_left
def A1d:=@List.length_append
def A3k:=@List.length_replicate
def A51:=@Nat.mul_pos
def A9a:=@Nat.gcd_comm
def A8u:=@Int.neg_mul
def Ba1:=@Int.neg_neg
def A9n:=@Int.mul_neg
def Bac:=@Int.lt_or_gt_of_ne
def A9q:=@Int.mul_ediv_add_emod
def A37:=@Rat.divInt_eq_div
def A75:=@Rat.divInt_ofNat
def A1s:=@Int.natAbs_natCast
def A26:=@Int.natAbs_mul
section
variable {B:List (Nat×Blk)}{T:List (Nat×SV)}
variable [Cl] [Co] [Pu]
def Alc (d:Nat):List (Nat×SV)->SV
 |[]=>.junk
 |(e,x)::l=>cond (Nat.beq d e) x (Alc d l)
def Y0 (d:Nat):List (Nat×Blk)->Option Blk
 |[]=>none
 |(e,x)::l=>cond (Nat.beq d e) (some x) (Y0 d l)
def S.of (n:Nat)(T:List (Nat×SV))(B:List (Nat×Blk)):S:={ n:=n,tm:=fun d=>Alc d T,hp:=fun k=>Y0 k B }
def Aqg (B:List (Nat×Blk)):SV->Bool
 |.p k _=>B.any fun q=>Nat.beq q.1 k
 |_=>true
def Up (T:List (Nat×SV))(B:List (Nat×Blk)):Bool:=T.all (fun p=>Aqg B p.2)&&B.all (fun q=>q.2.cells.all (Aqg B))
structure Cov (N:Nat)(s:S)(T:List (Nat×SV))(B:List (Nat×Blk)):Prop where
 n:s.n=N
 t:T.map (fun p=>s.tm p.1)=T.map (·.2)
 b:B.map (fun p=>s.hp p.1)=B.map (fun p=>some p.2)
def T7 {d:Nat}{x:SV}:∀ {T:List (Nat×SV)},Alc d T=x->x≠.junk->(d,x)∈T
 |[],h,hx=>absurd h.symm hx
 |(e,y)::l,h,hx=>by
  unfold Alc at h;cases hb:Nat.beq d e with
  |true=>simp[hb]at h;have:=A1y hb;subst this;subst h;simp
  |false=>simp[hb]at h;exact A2f _ (T7 h hx)
def O5 {d:Nat}{x:Blk}:∀ {B:List (Nat×Blk)},Y0 d B=some x->(d,x)∈B
 |[],h=>by cases h
 |(e,y)::l,h=>by
  unfold Y0 at h;cases hb:Nat.beq d e with
  |true=>simp[hb]at h;have:=A1y hb;subst this;subst h;simp
  |false=>simp[hb]at h;exact A2f _ (O5 h)
def Nc {k:Nat}:∀ {B:List (Nat×Blk)},B.any (fun q=>Nat.beq q.1 k)=true->Y0 k B≠none
 |[],h=>by simp at h
 |(e,y)::l,h=>by
  unfold Y0;cases hb:Nat.beq k e with
  |true=>simp
  |false =>
   simp only[cond_false];refine Nc ?_;simp only[List.any_cons,A4b]at h;rcases h with h|h
   ·have:=A1y h;subst this;simp at hb
   exact h
def Au0 {n:Nat}(h:Up T B=true):On (S.of n T B):=by
 unfold Up at h;simp only[A1m,A1o]at h;refine⟨fun d k off a=>?_,fun j b k off e f=>?_⟩
 ·have:=h.1 _ (T7 a mV);exact Nc this
 have:=h.2 _ (O5 e) _ f;exact Nc this
def Rel.cov {c:Cx}{s:S}{u m:PH}{ρ:Nat->Nat}{a:Act}{w:World}(h:Rel c s u m ρ a w){N:Nat}(f:Cov N s T B)(C:Up T B=true):Rel c (S.of N T B) u m ρ a w:=by
 have D:∀ d x,(d,x)∈T->s.tm d=x:=by
  intro d x g;have:=f.t;rw[List.map_inj_left]at this;exact this _ g
 have y:∀ d x,(d,x)∈B->s.hp d=some x:=by
  intro d x g;have:=f.b;rw[List.map_inj_left]at this;exact this _ g
 refine⟨h.sz.trans f.n,fun d z=>?_,h.df,fun k b e=>h.box k b (y k b (O5 e)),fun k j e A=>?_,Au0 C,h.gd,h.gr⟩
 ·have:=D d _ (T7 rfl z);have v:=h.tm d (by rw[this];exact z);rw[this]at v;exact v
 have q:∀ k,(S.of N T B).hp k≠none->s.hp k≠none:=by
  intro k e;cases hq:Y0 k B with
  |none=>exact absurd hq e
  |some b=>rw[y k b (O5 hq)];simp
 exact h.inj k j (q k e) (q j A)
def Ap0 (st:List KI×S):Bool:=match st.1 with|.code (.loop _)::_=>true|_=>false
def Aqa (st:List KI×S)(J:S->PH->PH->Prop)(T:List (Nat×SV))(B:List (Nat×Blk)):List KI×S:=match st.1 with
 |.code (.loop c)::k=>(.code c::.lp J::k,S.of st.2.n T B)
 |_=>st
def Ayk:List KI->Option (S->PH->PH->Prop)
 |.lp J::_=>some J
 |_=>none
section rules
variable {P:Program} [A6 P] {fn:Func} {Post:Ce} {st:List KI×S} {u m:PH}
def G.back {J:S->PH->PH->Prop}(h:Ayk (adv P st).1=some J)(d:J (adv P st).2 u m):G P fn Post st u m:=by
 refine G.stp ?_;generalize adv P st=st' at h d;obtain⟨g,s⟩:=st'
 match g,h with
 |.lp J'::k,h =>
  simp only[Ayk,A1f]at h;subst h;exact⟨fun c ρ a w e f=>⟨s,u,m,ρ,f,d⟩⟩
def G.loop {ι:Type}(T:ι->List (Nat×SV))(B:ι->List (Nat×Blk))(j:ι->PH->PH->Prop)(μ:ι->Nat)(q:ι)(h:Ap0 (adv P st)=true)(F:∀ i,Up (T i) (B i)=true)(h0:Cov (adv P st).2.n (adv P st).2 (T q) (B q))(N:j q u m)
 (E:∀ (J:S->PH->PH->Prop) (i:ι),(∀ f t d g,Cov (adv P st).2.n t (T f) (B f)->PH.le u d->j f d g->μ f < μ i->J t d g)->∀ d g,PH.le u d->j i d g->G P fn Post (Aqa (adv P st) J (T i) (B i)) d g):G P fn Post st u m:=by
 refine G.stp ?_;generalize adv P st=st' at h h0 E;obtain⟨Q,s⟩:=st'
 match Q,h with
 |.code (.loop x)::k,_ =>
  refine⟨?_⟩;intro c ρ a w v O;show (Code.loop x).wp P (It P fn Post c k) a w;refine wp_loop_ghost (fun n a w=>∃ i d g D,Rel c (S.of s.n (T i) (B i)) d g D a w/\PH.le u d/\j i d g/\μ i=n) (μ q) ⟨q,u,m,ρ,O.cov h0 (F q),PH.le_refl _,N,rfl⟩ ?_;rintro n a w ⟨i,d,g,D,I,K,L,rfl⟩;have:=(E (fun t d g=>∃ f,Cov s.n t (T f) (B f)/\PH.le u d/\j f d g/\μ f < μ i) i (fun f t d g y z A C=>⟨f,y,z,A,C⟩) d g K L).out c D a w v I;refine wp_mono this fun e a w H=>?_;cases e with
  |normal =>
   obtain⟨t,V,R,W,U,f,y,z,A,C⟩:=H;exact⟨_,C,f,V,R,W,U.cov y (F f),z,A,rfl⟩
  |_=>exact H
end rules
end
section
variable [Cl] [Pu] [Co]
variable {P:Program} [A6 P] {fn:Func} {Post:Ce} {st:List KI×S} {u m:PH}
def cV {N:Nat}{s:S}{T:List (Nat×SV)}{B:List (Nat×Blk)}(a:s.n=N:=by kernel_rfl)(b:T.map (fun p=>s.tm p.1)=T.map (·.2):=by kernel_rfl)(c:B.map (fun p=>s.hp p.1)=B.map (fun p=>some p.2):=by kernel_rfl):Cov N s T B:=⟨a,b,c⟩
def G.c {f:Nat}{args:List Value}{R:Value->PH->Prop}(hc:∀ args w,(callFunc f args).run P w=.ok (.enter f args) w)(c:Fn0 P f args u R)(k:∀ v u',PH.le u u'->R v u'->G P fn Post (nx (adv P st) v) u' m)(h:Aj P (adv P st)=.call f args:=by kernel_rfl):G P fn Post st u m:=G.call0 f args h hc c k
def G.eT (x y:Int)(k:G P fn Post (nx (adv P st) (.bool true)) u m)(h:Aj P (adv P st)=.bin .eql (.int .i64 x) (.int .i64 y):=by kernel_rfl)(hb:x=y:=by omega):G P fn Post st u m:=G.eqlT x y h hb k
def G.eF (x y:Int)(k:G P fn Post (nx (adv P st) (.bool false)) u m)(h:Aj P (adv P st)=.bin .eql (.int .i64 x) (.int .i64 y):=by kernel_rfl)(hb:¬ (x=y):=by omega):G P fn Post st u m:=G.eqlF x y h hb k
def G.nT (x y:Int)(k:G P fn Post (nx (adv P st) (.bool true)) u m)(h:Aj P (adv P st)=.bin .neq (.int .i64 x) (.int .i64 y):=by kernel_rfl)(hb:x≠y:=by omega):G P fn Post st u m:=G.neqT x y h hb k
def G.nF (x y:Int)(k:G P fn Post (nx (adv P st) (.bool false)) u m)(h:Aj P (adv P st)=.bin .neq (.int .i64 x) (.int .i64 y):=by kernel_rfl)(hb:¬ (x≠y):=by omega):G P fn Post st u m:=G.neqF x y h hb k
def G.lT (x y:Int)(k:G P fn Post (nx (adv P st) (.bool true)) u m)(h:Aj P (adv P st)=.bin .lss (.int .i64 x) (.int .i64 y):=by kernel_rfl)(hb:x<y:=by omega):G P fn Post st u m:=G.lssT x y h hb k
def G.lF (x y:Int)(k:G P fn Post (nx (adv P st) (.bool false)) u m)(h:Aj P (adv P st)=.bin .lss (.int .i64 x) (.int .i64 y):=by kernel_rfl)(hb:¬ (x<y):=by omega):G P fn Post st u m:=G.lssF x y h hb k
def G.kT (x y:Int)(k:G P fn Post (nx (adv P st) (.bool true)) u m)(h:Aj P (adv P st)=.bin .leq (.int .i64 x) (.int .i64 y):=by kernel_rfl)(hb:x<=y:=by omega):G P fn Post st u m:=G.leqT x y h hb k
def G.kF (x y:Int)(k:G P fn Post (nx (adv P st) (.bool false)) u m)(h:Aj P (adv P st)=.bin .leq (.int .i64 x) (.int .i64 y):=by kernel_rfl)(hb:¬ (x<=y):=by omega):G P fn Post st u m:=G.leqF x y h hb k
def G.gT (x y:Int)(k:G P fn Post (nx (adv P st) (.bool true)) u m)(h:Aj P (adv P st)=.bin .gtr (.int .i64 x) (.int .i64 y):=by kernel_rfl)(hb:x>y:=by omega):G P fn Post st u m:=G.gtrT x y h hb k
def G.gF (x y:Int)(k:G P fn Post (nx (adv P st) (.bool false)) u m)(h:Aj P (adv P st)=.bin .gtr (.int .i64 x) (.int .i64 y):=by kernel_rfl)(hb:¬ (x>y):=by omega):G P fn Post st u m:=G.gtrF x y h hb k
def G.hT (x y:Int)(k:G P fn Post (nx (adv P st) (.bool true)) u m)(h:Aj P (adv P st)=.bin .geq (.int .i64 x) (.int .i64 y):=by kernel_rfl)(hb:x≥y:=by omega):G P fn Post st u m:=G.geqT x y h hb k
def G.hF (x y:Int)(k:G P fn Post (nx (adv P st) (.bool false)) u m)(h:Aj P (adv P st)=.bin .geq (.int .i64 x) (.int .i64 y):=by kernel_rfl)(hb:¬ (x≥y):=by omega):G P fn Post st u m:=G.geqF x y h hb k
def G.eT' (x y:Int)(hb:x=y)(k:G P fn Post (nx (adv P st) (.bool true)) u m)(h:Aj P (adv P st)=.bin .eql (.int .i64 x) (.int .i64 y):=by kernel_rfl):G P fn Post st u m:=G.eqlT x y h hb k
def G.eF' (x y:Int)(hb:¬ (x=y))(k:G P fn Post (nx (adv P st) (.bool false)) u m)(h:Aj P (adv P st)=.bin .eql (.int .i64 x) (.int .i64 y):=by kernel_rfl):G P fn Post st u m:=G.eqlF x y h hb k
def G.nT' (x y:Int)(hb:x≠y)(k:G P fn Post (nx (adv P st) (.bool true)) u m)(h:Aj P (adv P st)=.bin .neq (.int .i64 x) (.int .i64 y):=by kernel_rfl):G P fn Post st u m:=G.neqT x y h hb k
def G.nF' (x y:Int)(hb:¬ (x≠y))(k:G P fn Post (nx (adv P st) (.bool false)) u m)(h:Aj P (adv P st)=.bin .neq (.int .i64 x) (.int .i64 y):=by kernel_rfl):G P fn Post st u m:=G.neqF x y h hb k
def G.lT' (x y:Int)(hb:x<y)(k:G P fn Post (nx (adv P st) (.bool true)) u m)(h:Aj P (adv P st)=.bin .lss (.int .i64 x) (.int .i64 y):=by kernel_rfl):G P fn Post st u m:=G.lssT x y h hb k
def G.lF' (x y:Int)(hb:¬ (x<y))(k:G P fn Post (nx (adv P st) (.bool false)) u m)(h:Aj P (adv P st)=.bin .lss (.int .i64 x) (.int .i64 y):=by kernel_rfl):G P fn Post st u m:=G.lssF x y h hb k
def G.kT' (x y:Int)(hb:x<=y)(k:G P fn Post (nx (adv P st) (.bool true)) u m)(h:Aj P (adv P st)=.bin .leq (.int .i64 x) (.int .i64 y):=by kernel_rfl):G P fn Post st u m:=G.leqT x y h hb k
def G.kF' (x y:Int)(hb:¬ (x<=y))(k:G P fn Post (nx (adv P st) (.bool false)) u m)(h:Aj P (adv P st)=.bin .leq (.int .i64 x) (.int .i64 y):=by kernel_rfl):G P fn Post st u m:=G.leqF x y h hb k
def G.gT' (x y:Int)(hb:x>y)(k:G P fn Post (nx (adv P st) (.bool true)) u m)(h:Aj P (adv P st)=.bin .gtr (.int .i64 x) (.int .i64 y):=by kernel_rfl):G P fn Post st u m:=G.gtrT x y h hb k
def G.gF' (x y:Int)(hb:¬ (x>y))(k:G P fn Post (nx (adv P st) (.bool false)) u m)(h:Aj P (adv P st)=.bin .gtr (.int .i64 x) (.int .i64 y):=by kernel_rfl):G P fn Post st u m:=G.gtrF x y h hb k
def G.hT' (x y:Int)(hb:x≥y)(k:G P fn Post (nx (adv P st) (.bool true)) u m)(h:Aj P (adv P st)=.bin .geq (.int .i64 x) (.int .i64 y):=by kernel_rfl):G P fn Post st u m:=G.geqT x y h hb k
def G.hF' (x y:Int)(hb:¬ (x≥y))(k:G P fn Post (nx (adv P st) (.bool false)) u m)(h:Aj P (adv P st)=.bin .geq (.int .i64 x) (.int .i64 y):=by kernel_rfl):G P fn Post st u m:=G.geqF x y h hb k
def G.i (i:Nat)(k:G P fn Post (nx (adv P st) (.int .i64 ((i+1:Nat):Int))) u m)(h:Aj P (adv P st)=.bin .add (.int .i64 (i:Int)) (.int .i64 1):=by kernel_rfl)(h2:((i+1:Nat):Int)<=9223372036854775807:=by omega):G P fn Post st u m:=G.add (i:Int) 1 ((i+1:Nat):Int) h (by omega) (by omega) h2 k
def G.p (x y z:Int)(k:G P fn Post (nx (adv P st) (.int .i64 z)) u m)(h:Aj P (adv P st)=.bin .add (.int .i64 x) (.int .i64 y):=by kernel_rfl)(hz:x+y=z:=by omega)(h1:-9223372036854775808<=z:=by omega)(h2:z<=9223372036854775807:=by omega):G P fn Post st u m:=G.add x y z h hz h1 h2 k
def G.s (x y z:Int)(k:G P fn Post (nx (adv P st) (.int .i64 z)) u m)(h:Aj P (adv P st)=.bin .sub (.int .i64 x) (.int .i64 y):=by kernel_rfl)(hz:x-y=z:=by omega)(h1:-9223372036854775808<=z:=by omega)(h2:z<=9223372036854775807:=by omega):G P fn Post st u m:=G.sub x y z h hz h1 h2 k
def G.b {J:S->PH->PH->Prop}(hj:J (adv P st).2 u m)(h:Ayk (adv P st).1=some J:=by kernel_rfl):G P fn Post st u m:=G.back h hj
def G.l {ι:Type}(T:ι->List (Nat×SV))(B:ι->List (Nat×Blk))(Inv:ι->PH->PH->Prop)(μ:ι->Nat)(i0:ι)(hI:Inv i0 u m)
    (hR:∀ (J:S->PH->PH->Prop) (i:ι),(∀ i' s' u' m',Cov (adv P st).2.n s' (T i') (B i')->PH.le u u'->Inv i' u' m'->μ i' < μ i->J s' u' m')->∀ u' m',PH.le u u'->Inv i u' m'->G P fn Post (Aqa (adv P st) J (T i) (B i)) u' m') (h:Ap0 (adv P st)=true:=by kernel_rfl) (hl:∀ i,Up (T i) (B i)=true:=by exact fun _=>by kernel_rfl) (h0:Cov (adv P st).2.n (adv P st).2 (T i0) (B i0):=by exact cV):G P fn Post st u m:=G.loop T B Inv μ i0 h hl h0 hI hR
end
section
variable [Cl] [Pu]
variable {P:Program} [A6 P] {fn:Func} {Post:Ce} {st:List KI×S} {u m:PH}
def G.r (v:Value)(hp:Post.post v u m)(h:Ay3 P fn (adv P st)=some v:=by kernel_rfl):G P fn Post st u m:=G.ret v h hp
def Fn0.o {R:Value->PH->Prop}{f:FuncId}{args:List Value}(hf:P.funcs[f]?=some fn)(h:G P fn ⟨fun v u' m'=>m'=PH.mt/\R v u',PH.mt⟩ (st0 fn args) u PH.mt)(hb:fn.body.isSome=true:=by kernel_rfl)(hn:Nat.ble args.length fn.ntmps=true:=by kernel_rfl):Fn0 P f args u R:=Fn0.of hf hb hn h
def Ag.o {PostV:Value->PH->PH->Prop}{f:FuncId}{args:List Value}(hf:P.funcs[f]?=some fn)(h:G P fn ⟨PostV,m⟩ (st0 fn args) u m)(hb:fn.body.isSome=true:=by kernel_rfl)(hn:Nat.ble args.length fn.ntmps=true:=by kernel_rfl):Ag P f args u m PostV:=Ag.of hf hb hn h
end
section
variable {l:List Nat}{n:Nat}
def val:List Nat->Nat
 |[]=>0
 |d::l=>d+1000000000*val l
def Low (l:List Nat):Prop:=∀ d,d∈l->d<1000000000
def Aa (n:Nat):List Nat:=if h:n=0 then [] else n%1000000000::Aa (n/1000000000)
termination_by n
decreasing_by omega
def nl (n:Nat):Nat:=(Aa n).length
def A7:Aa 0 = []:=by unfold Aa;simp
def Dz (h:n≠0):Aa n=n%1000000000::Aa (n/1000000000):=by
 rw[Aa];simp[h]
def Am (n:Nat):val (Aa n)=n:=by
 induction n using Nat.strongRecOn with
 |_ n ih =>
  by_cases h:n=0
  ·subst h;simp[A7,val]
  rw[Dz h];simp only[val];rw[ih _ oV];omega
def Ao (n:Nat):Low (Aa n):=by
 induction n using Nat.strongRecOn with
 |_ n ih =>
  by_cases h:n=0
  ·subst h;simp[A7,Low]
  rw[Dz h];intro d a;rcases A1g.1 a with rfl|a
  ·omega
  exact ih _ oV d a
theorem Hj :Aa n = []↔n=0:=by
 constructor
 ·intro h;have:=Am n;rw[h]at this;simp[val]at this;omega
 ·rintro rfl;exact A7
def Qm (l m:List Nat):val (l++m)=val l+1000000000^l.length*val m:=by
 induction l with
 |nil=>simp[val]
 |cons d l ih =>
  simp only[A4x,val,ih,A3f,A2d];rw[A2o,<-A17,A19 1000000000 (1000000000^l.length),A3p]
def Ki (l:List Nat)(d:Nat):val (l++[d])=val l+1000000000^l.length*d:=by
 rw[Qm];simp[val]
def Low.nil:Low []:=by simp[Low]
def Low.cons {d:Nat}(h:d<1000000000)(e:Low l):Low (d::l):=by
 intro x a;rcases A1g.1 a with rfl|a
 ·exact h
 exact e x a
def Low.append {l m:List Nat}(h:Low l)(k:Low m):Low (l++m):=by
 intro x a;rcases A1h.1 a with a|a
 ·exact h x a
 exact k x a
def Low.take (h:Low l)(k:Nat):Low (l.take k):=fun x a=>h x (A27 a)
def Low.drop (h:Low l)(k:Nat):Low (l.drop k):=fun x a=>h x (A3x a)
def Low.zeros (k:Nat):Low (List.replicate k 0):=by intro x a;have:=A7g a;omega
def Low.getD (h:Low l)(k:Nat):l.getD k 0<1000000000:=by
 by_cases a:k<l.length
 ·rw[A02,A01 a];exact h _ (A09 a)
 rw[A02,A1v oV];simp
def K8 (h:Low l):val l<1000000000^l.length:=by
 induction l with
 |nil=>simp[val]
 |cons d l ih =>
  have f:=h d mV;have a:=ih (fun x e=>h x (by simp[e]));simp only[val,A3f,A2d];have:val l+1<=1000000000^l.length:=a;have:=A2h 1000000000 this;rw[A19 (1000000000^l.length)];omega
def Aa1 (k:Nat):val (List.replicate k 0)=0:=by
 induction k with
 |zero=>rfl
 |succ k ih=>simp[A68,val,ih]
def A5 (l:List Nat)(k:Nat):val (l.take (k+1))=val (l.take k)+1000000000^k*l.getD k 0:=by
 by_cases a:k<l.length
 ·rw[List.take_succ_eq_append_getElem a,Ki,A1e,A4a oV];simp[a]
 rw[A1j oV,A1j oV];have:l[k]?=none:=A1v oV;simp[this]
def Bz (l:List Nat):Nat->Nat
 |0=>0
 |n+1=>if l.getD n 0=0 then Bz l n else n+1
def Mi (l:List Nat)(n:Nat):Bz l n<=n:=by
 induction n with
 |zero=>simp[Bz]
 |succ n ih=>simp only[Bz];split<;>omega
def Pn (h:n≠0):(Aa n).getD ((Aa n).length-1) 0≠0:=by
 induction n using Nat.strongRecOn with
 |_ n ih =>
  rw[Dz h];by_cases a:n/1000000000=0
  ·rw[a,A7];simp;omega
  have d:=ih _ oV a;have f:(Aa (n/1000000000)).length≠0:=by
   intro e;exact a (Hj.1 (A2l e))
  simp only[A3f,A5p];obtain⟨m,g⟩:∃ m,(Aa (n/1000000000)).length=m+1:=⟨_,(Nat.succ_pred_eq_of_ne_zero f).symm⟩;rw[g]at d⊢;simpa using d
def Amt (h:Low l)(q:l≠[]->l.getD (l.length-1) 0≠0):Aa (val l)=l:=by
 induction l with
 |nil=>simp[val,A7]
 |cons d l ih =>
  have v:=h d mV;have k:Low l:=fun x u=>h x (by simp[u]);have g:l≠[]->l.getD (l.length-1) 0≠0:=by
   intro f;have:=q mV;obtain⟨m,t⟩:∃ m,l.length=m+1:=⟨l.length-1,by have:=A4f.2 f;omega⟩;simp only[A3f,A5p,t]at this⊢;simpa using this
  have f:val (d::l)≠0:=by
   by_cases a:l = []
   ·subst a;have:=q mV;simp at this;simp[val];omega
   intro e;have j:=ih k g;simp only[val]at e;have:val l=0:=oV;rw[this,A7]at j;exact a j.symm
  rw[Dz f];simp only[val];rw[show (d+1000000000*val l)%1000000000=d by omega,show (d+1000000000*val l)/1000000000=val l by omega,ih k g]
def Vh (l:List Nat)(n:Nat):val (l.take (Bz l n))=val (l.take n):=by
 induction n with
 |zero=>simp[Bz]
 |succ n ih =>
  simp only[Bz];split
  ·rename_i h;rw[ih,A5,h];simp
  rfl
def Uz (l:List Nat)(n:Nat)(h:Bz l n≠0):l.getD (Bz l n-1) 0≠0:=by
 induction n with
 |zero=>simp[Bz]at h
 |succ n ih =>
  simp only[Bz]at h⊢;split
  ·rename_i h0;rw[if_pos h0]at h;exact ih h
  rename_i h0;simpa using h0
def Ke (h:Low l):Aa (val l)=l.take (Bz l l.length):=by
 have e:val l=val (l.take (Bz l l.length)):=by rw[Vh,A15]
 rw[e];refine Amt (h.take _) (fun a=>?_);have d:=Mi l l.length;have h0:Bz l l.length≠0:=by intro f;rw[f]at a;simp at a
 have:=Uz l l.length h0;rw[A1e,A4a d];rw[A02,A3y,if_pos oV,<-A02];exact this
def Vr:nl 0=0:=by simp[nl,A7]
def Dd (n:Nat):n<1000000000^nl n:=by
 have:=K8 (Ao n);rwa[Am]at this
def A4 {n k:Nat}(h:n<1000000000^k):nl n<=k:=by
 induction k generalizing n with
 |zero =>
  have:n=0:=by simp at h;omega
  subst this;simp[Vr]
 |succ k ih =>
  by_cases h0:n=0
  ·subst h0;simp[Vr]
  have:n/1000000000<1000000000^k:=by
   rw[A3b oV];rwa[A2d]at h
  have:=ih this;simp only[nl]at this⊢;rw[Dz h0];simp;omega
def C4 {m n:Nat}(h:m<=n):nl m<=nl n:=A4 (A22 h (Dd n))
def Rw (h:n≠0):1000000000^(nl n-1)<=n:=by
 rcases A2e n (1000000000^(nl n-1)) with a|a
 ·have:=A4 a;have d:nl n≠0:=by
   intro e;exact h (Hj.1 (A2l e))
  omega
 exact a
def Asl (m n:Nat):nl (m+n)<=max (nl m) (nl n)+1:=by
 refine A4 ?_;have a:=Dd m;have d:=Dd n;have e:1000000000^nl m<=1000000000^max (nl m) (nl n):=A10 oV oV;have f:1000000000^nl n<=1000000000^max (nl m) (nl n):=A10 oV oV;rw[A2d];omega
def G7 (m n:Nat):nl (m*n)<=nl m+nl n:=by
 refine A4 ?_;rw[A4k];exact Nat.mul_lt_mul'' (Dd m) (Dd n)
end
section
variable {a:Option Addr}{cs:List Value}{w:World}
def Ext (w w':World):Prop:=Below w.heap.size w w'
def Ext.refl (w:World):Ext w w:=Below.refl _ _
def Ext.trans {a b c:World}(h:Ext a b)(k:Ext b c):Ext a c:=Below.trans h (Below.mono k h.size)
def Ext.alloc {a w:World}(h:Ext a w)(o:Obj):Ext a (w.alloc o):=Below.alloc h h.size o
def Ext.drew {a w:World}(h:Ext a w):Ext a w.drew:=Below.drew h
def Ext.cell {w w':World}(h:Ext w w'){p:Addr}{v:Value}(hp:w.cell? p=some v):w'.cell? p=some v:=by
 rw[Below.cell h (block_lt_of_cell hp)];exact hp
def Ext.size {w w':World}(h:Ext w w'):w.heap.size<=w'.heap.size:=Below.size h
def Ext.setCell {a w:World}(h:Ext a w){p:Addr}(hp:a.heap.size<=p.block)(u:Value):Ext a (w.setCell p u):=Below.setCell h hp u
def Ext.grown {a w w':World}{d:Option Nat}(h:Ext a w)(e:w.grownBy w' d)(f:∀ k,d=some k->a.heap.size<=k):Ext a w' :=
 Below.grown h e h.size f
def Row (w:World)(a:Option Addr)(cs:List Value):Prop :=
 ∀ j,j<cs.length->∃ b off,a=some ⟨b,off,none⟩/\w.cell? ⟨b,off+j,none⟩=some (cs.getD j (.bool false))
def Row.ext {w w':World}(h:Row w a cs)(x:Ext w w'):Row w' a cs:=by
 intro j f;obtain⟨b,off,d,e⟩:=h j f;exact⟨b,off,d,x.cell e⟩
def Row.nil (w:World)(a:Option Addr):Row w a []:=fun j d=>absurd d mV
def Row.take (h:Row w a cs)(k:Nat):Row w a (cs.take k):=by
 intro j f;rw[A1e]at f;obtain⟨b,off,d,e⟩:=h j oV;refine⟨b,off,d,?_⟩;rw[e,A02,A02,A3y,if_pos oV]
def Row.of_owns {w:World}{base:Nat}{e:TypeId}{size:Nat}{g n cap:Nat}{xs:List Value}
 (h:w.ownsRow base e size (.slice (some ⟨g,0,none⟩) n cap) n xs):Row w (some ⟨g,0,none⟩) xs:=by
 intro j d;refine⟨g,0,rfl,?_⟩;rw[h.1]at d;have:=h.cellAt j d;rw[A2w,this,A02];have f:j<xs.length:=by rw[h.1];exact d
 rw[A01 f];rfl
def A8 (l:List Nat):List Value:=l.map fun (n:Nat)=>Value.int .u64 (n:Int)
@[simp] theorem Us (l:List Nat):(A8 l).length=l.length:=by simp[A8]
def Row.at {l:List Nat}(h:Row w a (A8 l)){j:Nat}(d:j<l.length) :
 ∃ b off,a=some ⟨b,off,none⟩/\w.cell? ⟨b,off+j,none⟩=some (.int .u64 (l.getD j 0:Nat)):=by
 obtain⟨b,off,e,f⟩:=h j (by simpa[A8] using d);exact⟨b,off,e,by rw[f];simp[A8,d]⟩
def Xa (l:List Nat)(j n:Nat):(A8 l).set j (.int .u64 (n:Int))=A8 (l.set j n):=by simp[A8,A2g]
def Aba (l:List Nat)(k:Nat):(A8 l).take k=A8 (l.take k):=by simp[A8,A5g]
def Ahe (n:Nat):List.replicate n (Value.int .u64 0)=A8 (List.replicate n 0):=by simp[A8]
def Y7 (w:World)(v:Value)(l:List Nat):Prop:=∃ a cap,v=.slice a l.length cap/\l.length<=cap/\Row w a (A8 l)
def C8 (w:World)(v:Value)(n:Nat):Prop:=Y7 w v (Aa n)
def Y7.ext {w w':World}{v:Value}{l:List Nat}(h:Y7 w v l)(x:Ext w w'):Y7 w' v l:=by
 obtain⟨a,cap,d,e,f⟩:=h;exact⟨a,cap,d,e,f.ext x⟩
def C8.ext {w w':World}{v:Value}{n:Nat}(h:C8 w v n)(x:Ext w w'):C8 w' v n:=Y7.ext h x
def C8.zero (w:World)(a:Option Addr)(cap:Nat):C8 w (.slice a 0 cap) 0:=by
 refine⟨a,cap,by rw[A7];rfl,by rw[A7];simp,?_⟩;rw[A7];simp[A8];exact Row.nil _ _
end
def Aax {a:Option Addr}{m n c:Nat}(h:m=n):Ending.returned (.slice a m c)=.returned (.slice a n c):=by rw[h]
def Atm {k:IntKind}{a b:Int}(h:a=b):Ending.returned (.int k a)=.returned (.int k b):=by rw[h]
def Arc (a:Option Addr)(cap:Nat)(l:List Nat)(w:World)(q:l.length<=9223372036854775807)(m:l.length<=cap)
 (h:Row w a (A8 l)) :
 Calls prog 189 #[.slice a l.length cap] w fun e w'=>e=.returned (.slice a (Bz l l.length) cap)/\w=w':=by
 have u:=Lib.hid h;clear h
 go_enter func189,ntmps189
 go_wp2
 go_loop [3] (fun n=>∃ k:Nat,k<=l.length/\n=.int .i64 k/\Bz l l.length=Bz l k) (fun n=>(intOf n).toNat)
 case atStart=>exact⟨l.length,oV,rfl,rfl⟩
 case round =>
  obtain⟨k,z,rfl,t⟩:=hrel;have d:=Lib.hid t;clear t;rcases k with _|k
  ·go_wp2
   go_ret
   exact⟨Aax (by rw[d.out];rfl),rfl⟩
  obtain⟨b,off,rfl,v⟩:=u.out.at (j:=k) oV;obtain⟨x,f⟩:∃ x,x=l.getD k 0:=⟨_,rfl⟩;rw[<-f]at v;have g:=Lib.hid f;clear f;by_cases h0:x=0
  ·subst h0
   go_wp2
   go_round
   case rel=>exact⟨k,oV,rfl,by rw[d.out];simp only[Bz,<-g.out,if_true]⟩
   case measure=>simp[intOf]
  have y:((x:Int)==0)=false:=gV
  go_wp2
  go_ret
  exact⟨Aax (by rw[d.out];simp only[Bz,<-g.out,if_neg h0]),rfl⟩
def Wn (a:Option Addr)(cap:Nat)(l:List Nat)(i:Int)(w:World)(h:l.length<=9223372036854775807)(hi:0<=i)
 (g:Row w a (A8 l)) :
 Calls prog 209 #[.slice a l.length cap,.int .i64 i] w fun e w'=>e=.returned (.int .u64 (l.getD i.toNat 0:Nat))/\w=w':=by
 obtain⟨k,rfl⟩:=A6d hi;rw[A23];have f:=Lib.hid g;clear g;by_cases n:k<l.length
 ·obtain⟨b,off,rfl,d⟩:=f.out.at (j:=k) n;obtain⟨x,m⟩:∃ x,x=l.getD k 0:=⟨_,rfl⟩;rw[<-m]at d⊢;clear f m
  go_enter func209,ntmps209
  go_wp2
  go_ret
  exact⟨rfl,rfl⟩
 have d:l.getD k 0=0:=by
  have:l[k]?=none:=A1v oV;simp[this]
 rw[d];clear f d
 go_enter func209,ntmps209
 go_wp2
 go_ret
 exact⟨rfl,rfl⟩
def sgn (n:Int):Int:=if n<0 then -1 else if 0<n then 1 else 0
def Asn (n:Int)(w:World) :
 Calls prog 220 #[.int .i64 n] w fun e w'=>e=.returned (.int .i64 (sgn n))/\w=w':=by
 rcases A4q n 0 with h|h|h
 ·have a:sgn n = -1:=by simp[sgn,h]
  rw[a];clear a
  go_enter func220,ntmps220
  go_wp2
  go_ret
  exact⟨rfl,rfl⟩
 ·subst h
  go_enter func220,ntmps220
  go_wp2
  go_ret
  exact⟨rfl,rfl⟩
 have a:sgn n=1:=by simp[sgn,h];omega
 rw[a];clear a;have d:¬ n<0:=oV
 go_enter func220,ntmps220
 go_wp2
 go_ret
 exact⟨rfl,rfl⟩
def G5 (a:Option Addr)(cap n:Nat)(l:List Nat)(w:World)(h:l.length=n)(f:n<=9223372036854775807)(d:n<=cap)
 (g:Row w a (A8 l)) :
 Calls prog 189 #[.slice a n cap] w fun e w'=>e=.returned (.slice a (Bz l l.length) cap)/\w=w':=by
 subst h;exact Arc a cap l w f d g
section
variable {a b o ys:List Nat}{c d i k r x y:Nat}
def Is (p t:Nat):p*(t%1000000000)+p*1000000000*(t/1000000000)=p*t:=by
 rw[A17,<-A2o,Nat.mod_add_div]
structure L8 (a b:List Nat)(k:Nat)(ys:List Nat)(c:Nat):Prop where
 len:ys.length=k
 low:Low ys
 carry:c<=1
 sum:val ys+1000000000^k*c=val (a.take k)+val (b.take k)
def L8.start (a b:List Nat):L8 a b 0 [] 0:=⟨rfl,Low.nil,oV,by simp[val]⟩
def L8.step (h:L8 a b k ys c)(m:Low a)(n:Low b)(e:x=a.getD k 0)(f:y=b.getD k 0) :
 L8 a b (k+1) (ys++[(x+y+c)%1000000000]) ((x+y+c)/1000000000):=by
 have g:=m.getD k;have j:=n.getD k;have q:=h.carry;rw[<-e]at g;rw[<-f]at j;refine⟨by simp[h.len],h.low.append (Low.cons oV Low.nil),oV,?_⟩;rw[Ki,A5,A5,h.len,<-e,<-f,A2d,A3p,Is];have:=h.sum;rw[A2o,A2o];omega
def L8.done (h:L8 a b (max a.length b.length+1) ys c)(n:Low a)(q:Low b):val ys=val a+val b:=by
 have e:=h.sum;rw[A1j oV,A1j oV]at e;have f:=K8 n;have g:=K8 q;have j:1000000000^a.length<=1000000000^max a.length b.length:=A10 oV oV;have m:1000000000^b.length<=1000000000^max a.length b.length:=A10 oV oV;rw[A2d]at e;have u:=A2s f j;have v:=A2s g m;have t:=h.carry;clear f g j m h;generalize 1000000000^max a.length b.length=p at *
 rcases A2a c with h0|h0
 ·subst h0;rw[A3z,A3s]at e;exact e
 have f:c=1:=A8h t h0;subst f;rw[A50]at e;omega
structure Lv (a b:List Nat)(k:Nat)(ys:List Nat)(c:Nat):Prop where
 len:ys.length=k
 low:Low ys
 carry:c<=1
 sum:val ys+val (b.take k)=val (a.take k)+1000000000^k*c
def Lv.start (a b:List Nat):Lv a b 0 [] 0:=⟨rfl,Low.nil,oV,by simp[val]⟩
def Lv.step (h:Lv a b k ys c)(n:Low a)(q:Low b)(e:x=a.getD k 0)(f:y=b.getD k 0) :
 Lv a b (k+1) (ys++[(x+1000000000-y-c)%1000000000]) (1-(x+1000000000-y-c)/1000000000):=by
 have j:=n.getD k;have m:=q.getD k;have z:=h.carry;rw[<-e]at j;rw[<-f]at m;refine⟨by simp[h.len],h.low.append (Low.cons oV Low.nil),oV,?_⟩;rw[Ki,A5,A5,h.len,<-e,<-f,A2d];have A:=h.sum;generalize 1000000000^k=p at *
 obtain⟨t,u⟩:∃ t,t=x+1000000000-y-c:=⟨_,rfl⟩;rw[<-u];have g:t%1000000000+y+c=x+1000000000*(1-t/1000000000):=oV
 have v:p*(t%1000000000)+p*y+p*c=p*x+p*1000000000*(1-t/1000000000):=by
  rw[A17,<-A2o,<-A2o,<-A2o,g]
 omega
def Lv.done (h:Lv a b a.length ys c)(g:b.length<=a.length)(j:val b<=val a):val ys=val a-val b:=by
 have e:=h.sum;rw[A1j (A08 _),A1j g]at e;have f:=K8 h.low;rw[h.len]at f;rcases A2a c with h0|h0
 ·subst h0;simp at e;omega
 have:1000000000^a.length*1<=1000000000^a.length*c:=A2h _ h0;omega
def Gz (l:List Nat)(k:Nat)(e:k<=l.length):val l=val (l.take k)+1000000000^k*val (l.drop k):=by
 have:=Qm (l.take k) (l.drop k);rw[A4h,A1e,A4a e]at this;exact this
def Cs (l:List Nat)(k:Nat)(e:k<l.length):l.drop k=l.getD k 0::l.drop (k+1):=by
 rw[A5z e];simp[e]
def G9 {a b:List Nat}{k:Nat}(n:a.length=b.length)(m:k<a.length)(g:Low a)(j:a.drop (k+1)=b.drop (k+1))
 (h:a.getD k 0<b.getD k 0):val a<val b:=by
 rw[Gz a k oV,Gz b k oV,Cs a k m,Cs b k oV,j];simp only[val];have f:=K8 (g.take k);rw[A1e,A4a oV]at f;generalize 1000000000^k=p at *
 generalize val (List.drop (k+1) b)=q;have:p*(a.getD k 0+1+1000000000*q)<=p*(b.getD k 0+1000000000*q):=A2h _ oV;have e:p*(a.getD k 0+1+1000000000*q)=p*(a.getD k 0+1000000000*q)+p:=by
  rw[show a.getD k 0+1+1000000000*q=(a.getD k 0+1000000000*q)+1 by omega,A2o,A50]
 omega
def Ku {m n:Nat}(h:nl m<nl n):m<n:=by
 rcases A2e m n with e|e
 ·exact e
 have:=C4 e;omega
structure Gt (a b:List Nat)(i k:Nat)(o:List Nat)(c:Nat):Prop where
 len:o.length=a.length+b.length
 low:Low o
 carry:c<1000000000
 sum:val o+1000000000^(i+k)*c=val (a.take i)*val b+1000000000^i*(a.getD i 0*val (b.take k))
 high:∀ j,i+b.length<=j->o.getD j 0=0
def Ama (l:List Nat)(j d:Nat)(e:j<l.length):val (l.set j d)+1000000000^j*l.getD j 0=val l+1000000000^j*d:=by
 induction l generalizing j with
 |nil=>simp at e
 |cons x l ih =>
  cases j with
  |zero=>simp[val];omega
  |succ j =>
   have:=ih j (by simpa using e);simp only[A2j,val,A6b,A2d];have f:1000000000^j*1000000000*l.getD j 0=1000000000*(1000000000^j*l.getD j 0):=by rw[A19 (1000000000^j),A17]
   have g:1000000000^j*1000000000*d=1000000000*(1000000000^j*d):=by rw[A19 (1000000000^j),A17]
   rw[f,g];omega
def Low.set {l:List Nat}(h:Low l)(j:Nat)(f:d<1000000000):Low (l.set j d):=by
 intro x e;rcases A7c e with e|rfl
 ·exact h x e
 exact f
def Gy (l:List Nat){i j:Nat}(d:Nat)(h:i≠j):(l.set i d).getD j 0=l.getD j 0:=by
 simp[A02,h]
def Gt.start (a b:List Nat):Gt a b 0 0 (List.replicate (a.length+b.length) 0) 0:=by
 refine⟨mV,Low.zeros _,oV,by simp[Aa1,val],fun j _=>?_⟩;rw[A02,A6e];split<;>rfl
def Gt.step {a b o:List Nat}{i k c x y z t:Nat}(h:Gt a b i k o c)(A:Low a)(B:Low b)(L:k<b.length)(hi:i<a.length)
 (f:x=a.getD i 0) (m:y=b.getD k 0) (n:z=o.getD (i+k) 0) (E:t=z+x*y+c) :
 Gt a b i (k+1) (o.set (i+k) (t%1000000000)) (t/1000000000):=by
 have q:=A.getD i;have u:=B.getD k;have v:=h.low.getD (i+k);have J:=h.carry;rw[<-f]at q;rw[<-m]at u;rw[<-n]at v;have H:x*y<=999999999*999999999:=A25 oV oV;refine⟨by simp[h.len],h.low.set _ (A29 _ oV),oV,?_,fun j C=>?_⟩
 ·have F:=Ama o (i+k) (t%1000000000) (by have:=h.len;omega);rw[<-n]at F;have g:=h.sum;rw[<-f]at g;have D:val (a.take i)*val b+1000000000^i*(x*val (b.take (k+1)))=val o+1000000000^(i+k)*c+1000000000^i*(x*(1000000000^k*y)):=by
   rw[g,A5,<-m,A2o x,A2o (1000000000^i),A3p]
  rw[<-f,D];rw[show i+(k+1)=i+k+1 by omega,A2d];have K:=Is (1000000000^(i+k)) t;have e:1000000000^i*(x*(1000000000^k*y))=1000000000^(i+k)*(x*y):=by
   rw[A4k,A17];congr 1;rw[<-A17,A19 x,A17]
  rw[e];generalize 1000000000^(i+k)=p at *
  have I:p*t=p*z+p*(x*y)+p*c:=by rw[E,A2o,A2o]
  omega
 rw[Gy _ _ oV];exact h.high j C
def Gt.next (h:Gt a b i b.length o c)(hi:i<a.length) :
 o.getD (i+b.length) 0=0/\Gt a b (i+1) 0 (o.set (i+b.length) c) 0:=by
 have h0:=h.high (i+b.length) (A08 _);refine⟨h0,by simp[h.len],h.low.set _ h.carry,oV,?_,fun j m=>?_⟩
 ·have f:=Ama o (i+b.length) c (by have:=h.len;omega);rw[h0]at f;have g:=h.sum;rw[A1j (A08 _)]at g;rw[A5,A16];have e:1000000000^i*a.getD i 0*val b=1000000000^i*(a.getD i 0*val b):=A17 _ _ _;rw[e,<-g];rw[A3z,A3s]at f;rw[A53,val,A3z,A3z,A3z,A3s,A3s];exact f
 rw[Gy _ _ oV];exact h.high j oV
def Gt.done (h:Gt a b a.length 0 o 0):val o=val a*val b:=by
 have e:=h.sum;rw[A1j (A08 _)]at e;simpa[val] using e
structure I9 (a:List Nat)(d k:Nat)(o:List Nat)(r:Nat):Prop where
 len:o.length=a.length
 low:Low o
 rest:r<d
 sum:val (a.drop k)=d*val (o.drop k)+r
def I9.start (a:List Nat)(d:Nat)(e:0<d):I9 a d a.length (List.replicate a.length 0) 0 :=
 ⟨mV,Low.zeros _,e,by simp[val]⟩
def I9.step (h:I9 a d (k+1) o r)(u:Low a)(e:k<a.length)(g:x=a.getD k 0) :
 I9 a d k (o.set k ((r*1000000000+x)/d)) ((r*1000000000+x)%d):=by
 have f:0<d:=A22 (A1t _) h.rest;have t:=u.getD k;rw[<-g]at t;have z:(r*1000000000+x)/d<1000000000:=by
  rw[A3b f];have:(r+1)*1000000000<=d*1000000000:=A13 _ h.rest;rw[A19 1000000000 d];omega
 refine⟨by simp[h.len],h.low.set _ z,A29 _ f,?_⟩;have j:=Cs a k e;have m:=Cs (o.set k ((r*1000000000+x)/d)) k (by simp[h.len,e]);rw[j,m,A67 oV];simp only[val,<-g];have n:(o.set k ((r*1000000000+x)/d)).getD k 0=(r*1000000000+x)/d:=by
  simp[A02,h.len,e]
 rw[n];have A:=h.sum;have v:=A3h (r*1000000000+x) d;generalize (r*1000000000+x)/d=q at *
 generalize (r*1000000000+x)%d=s at *
 rw[A,A2o,A2o,show d*(1000000000*val (List.drop (k+1) o))=1000000000*(d*val (List.drop (k+1) o)) by rw[<-A17,A19 d,A17]];omega
def I9.done (h:I9 a d 0 o r):val o=val a/d/\r=val a%d:=by
 have e:=h.sum;simp only[A5a]at e;have f:0<d:=A22 (A1t _) h.rest;rw[e];constructor
 ·rw[Bbi f,A49 h.rest];rfl
 rw[Nat.mul_add_mod,A5i h.rest]
end
def Ye (w:World)(n:Nat)(e:Ending)(w':World):Prop:=∃ v,e=.returned v/\C8 w' v n/\Ext w w'
def Tryz.info219:(prog.info? 219).map (fun i=>(i.zero,i.size,i.bytes))=some (some (.int .u64 0),1,8):=kV
def Lp (n:Nat):(madeCells (Value.int .u64 0).cells (n*1)).toList=A8 (List.replicate n 0):=by
 rw[A50];exact (toList_madeCells_one _ _).trans (Ahe n)
def D3 {w:World}{a:Option Addr}{l:List Nat}{cap n:Nat}(f:Low l)(j:Row w a (A8 l))(g:val l=n)(k:l.length<=cap) :
 C8 w (.slice a (Bz l l.length) cap) n:=by
 have h:=Ke f;rw[g]at h;have e:=Mi l l.length;have d:(Aa n).length=Bz l l.length:=by rw[h,A1e,A4a e]
 refine⟨a,cap,by rw[d],oV,?_⟩;rw[h,<-Aba];exact j.take _
def Ayy (w:World)(l m:List Nat)(n:Nat)(c i:Value)(wr:World):Prop :=
 ∃ (k:Nat) (ys:List Nat) (cc:Nat),k<=n/\i=.int .i64 k/\c=.int .u64 (cc:Int)/\L8 l m k ys cc /\
  wr.ownsRow w.heap.size 219 1 (.slice (some ⟨w.heap.size,0,none⟩) n n) n (A8 (ys++List.replicate (n-k) 0))/\Ext w wr
def Z4 {w a:World}{e:TypeId}{n k:Nat}{ys:List Nat}{d:Nat}(q:k<n)(g:ys.length=k)
 (h:a.ownsRow w.heap.size e 1 (.slice (some ⟨w.heap.size,0,none⟩) n n) n (A8 (ys++List.replicate (n-k) 0))) (x:Ext w a) :
 (a.setCell ⟨w.heap.size,k,none⟩ (.int .u64 (d:Int))).ownsRow w.heap.size e 1 (.slice (some ⟨w.heap.size,0,none⟩) n n) n (A8 ((ys++[d])++List.replicate (n-(k+1)) 0)) /\
  Ext w (a.setCell ⟨w.heap.size,k,none⟩ (.int .u64 (d:Int))):=by
 obtain⟨f,m⟩:=h.stored k (.int .u64 (d:Int));refine⟨?_,x.setCell (A08 _) _⟩;rw[Xa]at f;have e:(ys++List.replicate (n-k) 0).set k d=(ys++[d])++List.replicate (n-(k+1)) 0:=by
  rw[A4t _ _ oV,g,A4i];obtain⟨r,j⟩:∃ r,n-k=r+1:=⟨n-k-1,oV⟩;rw[j,show n-(k+1)=r by omega,A68,A2p,A2k];rfl
 rw[e]at f;exact f
set_option maxRecDepth 100000 in
def Asj (a b:Option Addr)(ca cb:Nat)(l m:List Nat)(w:World)(ha:Row w a (A8 l))(hb:Row w b (A8 m))(la:Low l)(lb:Low m)
 (sa:l.length<=10000000000000) (sb:m.length<=10000000000000) :
 Calls prog 201 #[.slice a l.length ca,.slice b m.length cb] w (Ye w (val l+val m)):=by
 obtain⟨i0,hi,E,F,H⟩:=info_parts Tryz.info219;have HI:=Lib.hid hi;have L:=Lib.hid E;have N:=Lib.hid F;have O:=Lib.hid H;clear hi E F H;have HA:=Lib.hid ha;have HB:=Lib.hid hb;have P:=Lib.hid la;have Q:=Lib.hid lb;clear ha hb la lb;obtain⟨n,hn⟩:∃ n,n=max l.length m.length+1:=⟨_,rfl⟩;have K:=Lib.hid hn;have a1:n<=10000000000001:=oV;clear hn;rcases A2e l.length m.length with R|R;all_goals
  go_enter func201,ntmps201
  go_wp2_with (at_make;refine wpList_make_full _ rfl _ _ 116 rfl w.heap.size 219 i0 (.int .u64 0) 1 Tryz.underlying116 HI.out L.out N.out .i64 .i64 _ _ n rfl rfl (by have:=K.out;omega) (by have:=K.out;omega) (by rw[O.out];omega) (by unfold maxLen;omega) (A08 _) ?_;intro w1 f j)
  rw[Lp]at f;have V:=Lib.hid f;have W:Hid (Ext w w1):=(Ext.refl w).grown j (fun k hk=>by cases hk);clear f j
  go_loopw [6,18] (Ayy w l m n) (fun _ i _=>n-(intOf i).toNat)
  case atStart=>exact⟨0,[],0,A1t _,rfl,rfl,L8.start _ _,by simpa using V.out,W.out⟩
  case round =>
   obtain⟨k,ys,B,hk,rfl,rfl,v,f,A⟩:=hrel;have z:=Lib.hid v;have I:=Lib.hid f;have J:=Lib.hid A;have a0:=v.carry;clear v f A V W;by_cases T:k<n
   ·obtain⟨x,A⟩:∃ x,x=l.getD k 0:=⟨_,rfl⟩;obtain⟨y,U⟩:∃ y,y=m.getD k 0:=⟨_,rfl⟩;have a2:x<1000000000:=by rw[A];exact P.out.getD k
    have a3:y<1000000000:=by rw[U];exact Q.out.getD k
    have X:=Lib.hid A;have Y:=Lib.hid U;clear A U;have hf:=I.out.frozenAt k;have C:∃ u,wr.cell? ⟨w.heap.size,k,none⟩=some u:=by
     obtain⟨b,off,Z,h2⟩:=Row.of_owns I.out k (by simp[z.out.len];omega);simp only[A1f,Addr.mk.injEq,and_true]at Z;obtain⟨rfl,rfl⟩:=Z;rw[A2w]at h2;exact⟨_,h2⟩
    obtain⟨u,C⟩:=C
    go_wp2_with fail
    refine (Wn _ _ _ _ _ oV oV (HA.out.ext J.out)).mono ?_;rw[A23,<-X.out];rintro e w' ⟨rfl,rfl⟩
    go_wp2_with fail
    refine (Wn _ _ _ _ _ oV oV (HB.out.ext J.out)).mono ?_;rw[A23,<-Y.out];rintro e w' ⟨rfl,rfl⟩
    go_wp2
    rw[show ((x:Int)+y+B)%1000000000=(((x+y+B)%1000000000:Nat):Int) by omega,show ((x:Int)+y+B)/1000000000=(((x+y+B)/1000000000:Nat):Int) by omega];have hs:=z.out.step P.out Q.out X.out Y.out;have g:=Z4 (d:=(x+y+B)%1000000000) T z.out.len I.out J.out;exact⟨⟨k+1,_,_,oV,by go_num,rfl,hs,g.1,g.2⟩,by simp only[intOf];omega⟩
   obtain rfl:k=n:=oV;have q:=z.out.len;have f:=I.out;rw[A4i,A42,A1x]at f;have t:=Lib.hid (Row.of_owns f);have D:=Lib.hid (D3 (cap:=k) (n:=val l+val m) z.out.low t.out (by have h:=z.out;rw[K.out]at h;exact h.done P.out Q.out) oV);have HL:=Lib.hid q;clear f q
   go_wp2_with fail
   ((with_reducible refine (G5 _ _ _ ys _ HL.out oV oV t.out).mono ?_);rintro e w' ⟨rfl,rfl⟩)
   go_wp2
   go_ret
   exact⟨_,rfl,D.out,J.out⟩
def Ai9 (d e:Value)(m n:Nat)(w:World)(h:C8 w d m)(j:C8 w e n)(t:nl m<=10000000000000)(sb:nl n<=10000000000000) :
 Calls prog 201 #[d,e] w (Ye w (m+n)):=by
 obtain⟨a,f,rfl,_,k⟩:=h;obtain⟨b,g,rfl,_,q⟩:=j;have:=Asj a b f g (Aa m) (Aa n) w k q (Ao _) (Ao _) t sb;rw[Am,Am]at this;exact this
section
variable {n:Int}{v:Value}{w:World}
def Ext.drewN {a w:World}(h:Ext a w)(n:Nat):Ext a (w.drewN n):=by
 obtain⟨d,e,f,g,j⟩:=h;exact⟨d,e,f,g,j⟩
def Row.drewN {w:World}{a:Option Addr}{cs:List Value}(h:Row w a cs)(n:Nat):Row (w.drewN n) a cs:=h.ext ((Ext.refl w).drewN n)
def Px {base:Nat}{e:TypeId}{size:Nat}{n:Nat}{xs:List Value}(h:w.ownsRow base e size v n xs)(k:Nat):(w.drewN k).ownsRow base e size v n xs:=h
def Ayb (w:World)(l m:List Nat)(n:Nat)(c i:Value)(wr:World):Prop :=
 ∃ (k:Nat) (ys:List Nat) (cc:Nat),k<=n/\i=.int .i64 k/\c=.int .u64 (cc:Int)/\Lv l m k ys cc /\
  wr.ownsRow w.heap.size 219 1 (.slice (some ⟨w.heap.size,0,none⟩) n n) n (A8 (ys++List.replicate (n-k) 0))/\Ext w wr
set_option maxRecDepth 100000 in
def Ap7 (a b:Option Addr)(ca X:Nat)(l m:List Nat)(w:World)(ha:Row w a (A8 l))(hb:Row w b (A8 m))(la:Low l)(lb:Low m)
 (sa:l.length<=10000000000000) (sb:m.length<=l.length) (I:val m<=val l) :
 Calls prog 203 #[.slice a l.length ca,.slice b m.length X] w (Ye w (val l-val m)):=by
 obtain⟨i0,hi,L,N,O⟩:=info_parts Tryz.info219;have HI:=Lib.hid hi;have U:=Lib.hid L;have V:=Lib.hid N;have W:=Lib.hid O;clear hi L N O;have HA:=Lib.hid ha;have HB:=Lib.hid hb;have LA:=Lib.hid la;have LB:=Lib.hid lb;have LE:=Lib.hid I;clear ha hb la lb I;obtain⟨n,hn⟩:∃ n,n=l.length:=⟨_,rfl⟩;have D:=Lib.hid hn;have a2:n<=10000000000001:=oV;clear hn
 go_enter func203,ntmps203
 go_wp2_with (at_make;refine wpList_make_full _ rfl _ _ 116 rfl w.heap.size 219 i0 (.int .u64 0) 1 Tryz.underlying116 HI.out U.out V.out .i64 .i64 _ _ n rfl rfl (by have:=D.out;omega) (by have:=D.out;omega) (by rw[W.out];omega) (by unfold maxLen;omega) (A08 _) ?_;intro w1 f j)
 rw[Lp]at f;have HO:=Lib.hid f;have X1:Hid (Ext w w1):=(Ext.refl w).grown j (fun k hk=>by cases hk);clear f j
 go_loopw [6,14] (Ayb w l m n) (fun _ i _=>n-(intOf i).toNat)
 case atStart=>exact⟨0,[],0,A1t _,rfl,rfl,Lv.start _ _,by simpa using HO.out,X1.out⟩
 case round =>
  obtain⟨k,ys,E,hk,rfl,rfl,A,f,B⟩:=hrel;have C:=Lib.hid A;have P:=Lib.hid f;have Q:=Lib.hid B;have a1:=A.carry;clear A f B HO X1;by_cases J:k<l.length
  ·have Z:k<n:=by rw[D.out];exact J
   obtain⟨x,B⟩:∃ x,x=l.getD k 0:=⟨_,rfl⟩;obtain⟨y,R⟩:∃ y,y=m.getD k 0:=⟨_,rfl⟩;have a3:x<1000000000:=by rw[B];exact LA.out.getD k
   have a4:y<1000000000:=by rw[R];exact LB.out.getD k
   obtain⟨ba,a0,rfl,Y⟩:=(HA.out.ext Q.out).at J;rw[<-B]at Y;have F:∀ q,Calls prog 209 #[.slice b m.length X,.int .i64 k] (wr.drewN q) fun e w'=>e=.returned (.int .u64 (y:Int))/\w'=wr.drewN q:=fun q=>by
    have:=Wn b X m k (wr.drewN q) oV oV ((HB.out.ext Q.out).drewN q);rw[A23,<-R]at this;exact this.mono fun _ _ h=>⟨h.1,h.2.symm⟩
   have T:=Lib.hid F;have XX:=Lib.hid B;have YY:=Lib.hid R;clear B R F;have hf:=P.out.frozenAt k;have H:∃ u,wr.cell? ⟨w.heap.size,k,none⟩=some u:=by
    obtain⟨b,off,h1,h2⟩:=Row.of_owns P.out k (by simp[C.out.len];omega);simp only[A1f,Addr.mk.injEq,and_true]at h1;obtain⟨rfl,rfl⟩:=h1;rw[A2w]at h2;exact⟨_,h2⟩
   obtain⟨u,H⟩:=H
   go_wp2_with fail
   go_quiet ((go_at_call 209;exact Calls.quiet_of_same (T.out _)))
   go_wp2
   rw[show ((x:Int)+1000000000-y-E)%1000000000=(((x+1000000000-y-E)%1000000000:Nat):Int) by omega,show 1-((x:Int)+1000000000-y-E)/1000000000=((1-(x+1000000000-y-E)/1000000000:Nat):Int) by omega];have hs:=C.out.step LA.out LB.out XX.out YY.out;have g:=Z4 (d:=(x+1000000000-y-E)%1000000000) Z C.out.len (Px P.out nq) (Q.out.drewN nq);exact⟨⟨k+1,_,_,oV,by go_num,rfl,hs,g.1,g.2⟩,by simp only[intOf];omega⟩
  obtain rfl:k=n:=by have:=D.out;omega
  have t:=C.out.len;have f:=P.out;rw[A4i,A42,A1x]at f;have z:=Lib.hid (Row.of_owns f);have K:=Lib.hid (D3 (cap:=k) (n:=val l-val m) C.out.low z.out (by have h:=C.out;rw[D.out]at h;exact h.done sb LE.out) oV);have HL:=Lib.hid t;clear f t
  go_wp2_with fail
  ((with_reducible refine (G5 _ _ _ ys _ HL.out oV oV z.out).mono ?_);rintro e w' ⟨rfl,rfl⟩)
  go_wp2
  go_ret
  exact⟨_,rfl,K.out,Q.out⟩
def Ahz (e f:Value)(m n:Nat)(w:World)(j:C8 w e m)(k:C8 w f n)(u:nl m<=10000000000000)(d:n<=m) :
 Calls prog 203 #[e,f] w (Ye w (m-n)):=by
 obtain⟨a,g,rfl,_,q⟩:=j;obtain⟨b,h,rfl,_,t⟩:=k;have:=Ap7 a b g h (Aa m) (Aa n) w q t (Ao _) (Ao _) u (C4 d) (by rw[Am,Am];exact d);rw[Am,Am]at this;exact this
def Axw (w:World)(l m:List Nat)(i:Value)(wr:World):Prop :=
 ∃ k:Nat,k<=l.length/\i=.int .i64 ((k:Int)-1)/\l.drop k=m.drop k/\∃ q,wr=w.drewN q
def C5 (h:0<n):sgn n=1:=by unfold sgn;rw[if_neg oV,if_pos h]
def Ep (h:n<0):sgn n = -1:=by unfold sgn;rw[if_pos h]
def Ra:sgn 0=0:=by simp[sgn]
def S5 (w:World)(v:Value)(e:Ending)(w':World):Prop:=e=.returned v/\∃ q,w'=w.drewN q
def S5.ext {e:Ending}{w':World}(h:S5 w v e w'):e=.returned v/\Ext w w':=by
 obtain⟨a,q,rfl⟩:=h;exact⟨a,(Ext.refl w).drewN q⟩
set_option maxRecDepth 100000 in
def Acu (a b:Option Addr)(Q R:Nat)(l m:List Nat)(w:World)(D:Row w a (A8 l))(E:Row w b (A8 m))(la:Low l)(I:Low m)
 (W:l.length<=10000000000000) (sb:m.length=l.length) :
 Calls prog 202 #[.slice a l.length Q,.slice b l.length R] w (S5 w (.int .i64 (sgn ((val l:Int)-val m)))):=by
 have L:=Lib.hid D;have N:=Lib.hid E;have O:=Lib.hid la;have P:=Lib.hid I;have SB:=Lib.hid sb;clear D E la I sb
 go_enter func202,ntmps202
 go_wp2_with fail
 go_loopw [5] (Axw w l m) (fun i _=>(intOf i+1).toNat)
 case atStart=>exact⟨l.length,oV,rfl,by rw[A2b (A08 _),A2b (by rw[SB.out];exact A08 _)],0,rfl⟩
 case round =>
  obtain⟨k,V,rfl,F,q,rfl⟩:=hrel;have e:=Lib.hid F;clear F;rcases k with _|k
  ·go_wp2_with fail
   have h0:(val l:Int)-val m=0:=by have:=e.out;simp only[A5a]at this;rw[this];omega
   go_ret
   refine⟨?_,q,rfl⟩;rw[h0,Ra];rfl
  rw[show ((k+1:Nat):Int)-1=k by omega];have d:k<l.length:=oV;obtain⟨T,J,rfl,h⟩:=L.out.at d;obtain⟨U,K,rfl,t⟩:=N.out.at (j:=k) (by rw[SB.out];exact d);obtain⟨x,B⟩:∃ x,x=l.getD k 0:=⟨_,rfl⟩;obtain⟨y,C⟩:∃ y,y=m.getD k 0:=⟨_,rfl⟩;rw[<-B]at h;rw[<-C]at t;have f:=Lib.hid B;have g:=Lib.hid C;clear B C;rcases A5u x y with A|u|z
  ·go_wp2_with fail
   go_quiet (fail)
   go_wp2_with fail
   have h0:(val l:Int)-val m<0:=by
    have:=G9 SB.out.symm d O.out e.out (by rw[<-f.out,<-g.out];exact A);omega
   go_ret
   refine⟨?_,_,World.drewN_drewN _ _ _⟩;rw[Ep h0];rfl
  ·subst u
   go_wp2_with fail
   go_quiet (fail)
   go_wp2_with fail
   go_quiet (fail)
   go_wp2_with fail
   refine⟨⟨k,oV,by go_num,?_,_,rfl⟩,by simp only[intOf];omega⟩;rw[Cs l k d,Cs m k (by rw[SB.out];exact d),e.out,<-f.out,<-g.out]
  have H:¬ x<y:=oV
  go_wp2_with fail
  go_quiet (fail)
  go_wp2_with fail
  go_quiet (fail)
  go_wp2_with fail
  have h0:0<(val l:Int)-val m:=by
   have:=G9 SB.out (by rw[SB.out];exact d) P.out e.out.symm (by rw[<-f.out,<-g.out];exact z);omega
  go_ret
  refine⟨?_,_,by rw[World.drewN_drewN,World.drewN_drewN]⟩;rw[C5 h0];rfl
set_option maxRecDepth 100000 in
def Aiv (a b:Option Addr)(f g m n:Nat)(w:World)(j:m<=10000000000000)(sb:n<=10000000000000)(d:m≠n) :
 Calls prog 202 #[.slice a m f,.slice b n g] w (S5 w (.int .i64 (sgn ((m:Int)-n)))):=by
 have h:((m:Int) != n)=true:=by rw[bne_iff_ne];omega
 clear d
 go_enter func202,ntmps202
 go_wp2_with fail
 refine (Asn _ _).mono ?_;rintro e w' ⟨rfl,rfl⟩
 go_wp2_with fail
 go_ret
 exact⟨rfl,0,rfl⟩
def Aoq {a b c d:Nat}(f:a<b↔c<d)(g:b<a↔d<c):sgn ((a:Int)-b)=sgn ((c:Int)-d):=by
 rcases A5u a b with h|h|h
 ·have:=f.1 h;rw[Ep oV,Ep oV]
 ·have j:¬ c<d:=fun e=>by have:=f.2 e;omega
  have k:¬ d<c:=fun e=>by have:=g.2 e;omega
  rw[show (a:Int)-b=0 by omega,show (c:Int)-d=0 by omega]
 have:=g.1 h;rw[C5 oV,C5 oV]
def Hl (q t:Value)(m n:Nat)(w:World)(u:C8 w q m)(y:C8 w t n)(k:nl m<=10000000000000)(sb:nl n<=10000000000000) :
 Calls prog 202 #[q,t] w (S5 w (.int .i64 (sgn ((m:Int)-n)))):=by
 obtain⟨a,g,rfl,_,z⟩:=u;obtain⟨b,j,rfl,_,A⟩:=y;by_cases h:(Aa n).length=(Aa m).length
 ·have:=Acu a b g j (Aa m) (Aa n) w z A (Ao _) (Ao _) k h;rw[Am,Am]at this;rw[h];exact this
 have:=Aiv a b g j (Aa m).length (Aa n).length w k sb (fun e=>h e.symm);rw[Aoq (a:=(Aa m).length) (b:=(Aa n).length) (c:=m) (d:=n)]at this
 ·exact this
 ·constructor
  ·exact fun f=>Ku f
  intro f;have:=C4 (A8i f);unfold nl at this;omega
 constructor
 ·exact fun f=>Ku f
 intro f;have:=C4 (A8i f);unfold nl at this;omega
end
section
variable {e:TypeId}{n:Nat}{o:List Nat}{w wr:World}
def Axh (w:World)(l m:List Nat)(n:Nat)(i:Value)(wr:World):Prop :=
 ∃ (k:Nat) (o:List Nat),k<=l.length/\i=.int .i64 k/\Gt l m k 0 o 0 /\
  wr.ownsRow w.heap.size 219 1 (.slice (some ⟨w.heap.size,0,none⟩) n n) n (A8 o)/\Ext w wr
def Av9 (w:World)(l m:List Nat)(n j:Nat)(c i:Value)(wr:World):Prop :=
 ∃ (k:Nat) (o:List Nat) (cc:Nat),k<=m.length/\i=.int .i64 k/\c=.int .u64 (cc:Int)/\Gt l m j k o cc /\
  wr.ownsRow w.heap.size 219 1 (.slice (some ⟨w.heap.size,0,none⟩) n n) n (A8 o)/\Ext w wr
def Qg {n j:Nat}(h:wr.ownsRow w.heap.size e 1 (.slice (some ⟨w.heap.size,0,none⟩) n n) n (A8 o))(f:j<o.length) :
 wr.cell? ⟨w.heap.size,j,none⟩=some (.int .u64 (o.getD j 0:Nat)):=by
 obtain⟨b,off,a,d⟩:=(Row.of_owns h).at f;simp only[A1f,Addr.mk.injEq,and_true]at a;obtain⟨rfl,rfl⟩:=a;rw[A2w]at d;exact d
def S9 (j d:Nat)(h:wr.ownsRow w.heap.size e 1 (.slice (some ⟨w.heap.size,0,none⟩) n n) n (A8 o))(x:Ext w wr) :
 (wr.setCell ⟨w.heap.size,j,none⟩ (.int .u64 (d:Int))).ownsRow w.heap.size e 1 (.slice (some ⟨w.heap.size,0,none⟩) n n) n (A8 (o.set j d)) /\
  Ext w (wr.setCell ⟨w.heap.size,j,none⟩ (.int .u64 (d:Int))):=by
 refine⟨?_,x.setCell (A08 _) _⟩;have:=(h.stored j (.int .u64 (d:Int))).1;rw[Xa]at this;exact this
def Ag5 (w:World)(n:Nat)(e:Ending)(w':World):Prop:=∃ k cap,e=.returned (.slice (some ⟨w.heap.size,0,none⟩) k cap)/\C8 w' (.slice (some ⟨w.heap.size,0,none⟩) k cap) n/\Ext w w'
set_option maxRecDepth 100000 in
def Ass (a b:Option Addr)(ca cb:Nat)(l m:List Nat)(w:World)(ha:Row w a (A8 l))(hb:Row w b (A8 m))(la:Low l)(lb:Low m)
 (sa:l.length<=10000000000000) (sb:m.length<=10000000000000) :
 Calls prog 198 #[.slice a l.length ca,.slice b m.length cb] w (Ag5 w (val l*val m)):=by
 obtain⟨i0,hi,T,I,U⟩:=info_parts Tryz.info219;have HI:=Lib.hid hi;have a0:=Lib.hid T;have a1:=Lib.hid I;have a2:=Lib.hid U;clear hi T I U;have HA:=Lib.hid ha;have HB:=Lib.hid hb;have LA:=Lib.hid la;have LB:=Lib.hid lb;clear ha hb la lb;obtain⟨n,hn⟩:∃ n,n=l.length+m.length:=⟨_,rfl⟩;have K:=Lib.hid hn;have ac:n<=20000000000001:=oV;have ad:l.length+m.length<=n:=oV;clear hn
 go_enter func198,ntmps198
 go_wp2_with (at_make;refine wpList_make_full _ rfl _ _ 116 rfl w.heap.size 219 i0 (.int .u64 0) 1 Tryz.underlying116 HI.out a0.out a1.out .i64 .i64 _ _ n rfl rfl (by have:=K.out;omega) (by have:=K.out;omega) (by rw[a2.out];omega) (by unfold maxLen;omega) (A08 _) ?_;intro w1 d q)
 rw[Lp]at d;have HO:=Lib.hid d;have X1:Hid (Ext w w1):=(Ext.refl w).grown q (fun k hk=>by cases hk);clear d q
 go_loopw [20] (Axh w l m n) (fun i _=>l.length-(intOf i).toNat)
 case atStart=>exact⟨0,_,A1t _,rfl,Gt.start _ _,by rw[<-K.out];exact HO.out,X1.out⟩
 case round =>
  obtain⟨j,o,hk,rfl,Q,d,H⟩:=hrel;have L:=Lib.hid Q;have Z:=Lib.hid d;have V:=Lib.hid H;clear Q d H HO X1;by_cases F:j<l.length
  ·obtain⟨x,H⟩:∃ x,x=l.getD j 0:=⟨_,rfl⟩;have ag:x<1000000000:=by rw[H];exact LA.out.getD j
   obtain⟨ba,a8,rfl,O⟩:=(HA.out.ext V.out).at F;rw[<-H]at O;have XX:=Lib.hid H;clear H
   go_wp2_with fail
   obtain⟨wo,a6⟩:∃ wo:World,wo=wr:=⟨_,rfl⟩;subst a6
   go_loopw [8,27] (Av9 w l m n j) (fun _ i _=>m.length-(intOf i).toNat)
   case atStart=>exact⟨0,_,0,A1t _,rfl,rfl,L.out,Z.out,V.out⟩
   case round =>
    obtain⟨k,o2,J,ab,rfl,rfl,g,u,R⟩:=hrel;have N:=Lib.hid g;have h:=Lib.hid u;have C:=Lib.hid R;have aa:=g.carry;have a5:=g.len;have E:=Lib.hid g.low;have a7:n<=o2.length:=by have:=K.out;omega
    clear g u R L Z V O a5;by_cases A:k<m.length
    ·obtain⟨y,W⟩:∃ y,y=m.getD k 0:=⟨_,rfl⟩;have ah:y<1000000000:=by rw[W];exact LB.out.getD k
     obtain⟨bb,a9,rfl,a3⟩:=(HB.out.ext C.out).at A;rw[<-W]at a3;obtain⟨z,X⟩:∃ z,z=o2.getD (j+k) 0:=⟨_,rfl⟩;have I:z<1000000000:=by rw[X];exact E.out.getD _
     have D:=Qg h.out (j:=j+k) oV;have a4:=h.out.frozenAt (j+k);rw[<-X]at D;have YY:=Lib.hid W;have ZZ:=Lib.hid X;clear W X;obtain⟨p,hp⟩:∃ p,p=x*y:=⟨_,rfl⟩;have ae:p<=999999999*999999999:=by rw[hp];exact A25 oV oV
     have af:((x:Int)*y)=p:=by rw[hp];exact (A4d _ _).symm
     have PP:=Lib.hid hp;clear hp
     go_wp2_with fail
     rw[show ((z:Int)+p+J)%1000000000=(((z+x*y+J)%1000000000:Nat):Int) by rw[<-PP.out];omega,show ((z:Int)+p+J)/1000000000=(((z+x*y+J)/1000000000:Nat):Int) by rw[<-PP.out];omega];have hs:=N.out.step LA.out LB.out A F XX.out YY.out ZZ.out rfl;have f:=S9 (j+k) ((z+x*y+J)%1000000000) h.out C.out;exact⟨⟨k+1,_,_,oV,by go_num,rfl,hs,f.1,f.2⟩,by simp only[intOf];omega⟩
    obtain rfl:k=m.length:=oV;obtain⟨h0,t⟩:=N.out.next F;have D:=Qg h.out (j:=j+m.length) oV;rw[h0]at D;have a4:=h.out.frozenAt (j+m.length);have Y:=Lib.hid t;clear h0 t
    go_wp2_with fail
    have f:=S9 (j+m.length) J h.out C.out;exact⟨⟨j+1,_,oV,by go_num,Y.out,f.1,f.2⟩,by simp only[intOf];omega⟩
  obtain rfl:j=l.length:=oV;have v:=L.out.len;have B:=Lib.hid (Row.of_owns Z.out);have P:=Lib.hid (D3 (cap:=n) (n:=val l*val m) L.out.low B.out L.out.done oV);have HL:Hid (o.length=n):=by rw[v];exact K.out.symm
  clear v
  go_wp2_with fail
  ((with_reducible refine (G5 _ _ _ o _ HL.out oV oV B.out).mono ?_);rintro e w' ⟨rfl,rfl⟩)
  go_wp2_with fail
  go_ret
  exact⟨_,_,rfl,P.out,V.out⟩
def T8 (d f:Value)(m n:Nat)(w:World)(j:C8 w d m)(k:C8 w f n)(u:nl m<=10000000000000)(sb:nl n<=10000000000000) :
 Calls prog 198 #[d,f] w (Ag5 w (m*n)):=by
 obtain⟨a,g,rfl,_,q⟩:=j;obtain⟨b,h,rfl,_,t⟩:=k;have:=Ass a b g h (Aa m) (Aa n) w q t (Ao _) (Ao _) u sb;rw[Am,Am]at this;exact this
def Aib (a d:Value)(m n:Nat)(w:World)(j:C8 w a m)(q:C8 w d n)(t:nl m<=10000000000000)(sb:nl n<=10000000000000) :
 Calls prog 198 #[a,d] w (Ye w (m*n)) :=
 (T8 a d m n w j q t sb).mono fun _ _ ⟨k,cap,f,g,h⟩=>⟨_,f,g,h⟩
def Arf (w:World)(l:List Nat)(d n:Nat)(r i:Value)(wr:World):Prop :=
 ∃ (k:Nat) (o:List Nat) (rr:Nat),k<=l.length/\i=.int .i64 ((k:Int)-1)/\r=.int .u64 (rr:Int)/\I9 l d k o rr /\
  wr.ownsRow w.heap.size 219 1 (.slice (some ⟨w.heap.size,0,none⟩) n n) n (A8 o)/\Ext w wr
def P8 (w:World)(n r:Nat)(e:Ending)(w':World):Prop:=∃ v,e=.returned (.tuple #[v,.int .u64 (r:Int)])/\C8 w' v n/\Ext w w'
set_option maxRecDepth 100000 in
def Ahw (a:Option Addr)(ca d:Nat)(l:List Nat)(w:World)(R:Row w a (A8 l))(la:Low l)
 (sa:l.length<=10000000000000) (N:0<d) (hd:d<1000000000) :
 Calls prog 244 #[.slice a l.length ca,.int .u64 d] w (P8 w (val l/d) (val l%d)):=by
 obtain⟨i0,hi,B,C,D⟩:=info_parts Tryz.info219;have X:=Lib.hid hi;have I:=Lib.hid B;have J:=Lib.hid C;have K:=Lib.hid D;clear hi B C D;have W:=Lib.hid R;have P:=Lib.hid la;clear R la;obtain⟨n,U⟩:∃ n,n=l.length:=⟨_,rfl⟩;have v:=Lib.hid U;have a4:n<=10000000000001:=oV;have a5:l.length<=n:=oV;clear U
 go_enter func244,ntmps244
 go_wp2_with (at_make;refine wpList_make_full _ rfl _ _ 116 rfl w.heap.size 219 i0 (.int .u64 0) 1 Tryz.underlying116 X.out I.out J.out .i64 .i64 _ _ n rfl rfl (by have:=v.out;omega) (by have:=v.out;omega) (by rw[K.out];omega) (by unfold maxLen;omega) (A08 _) ?_;intro w1 f g)
 rw[Lp]at f;have O:=Lib.hid f;have Q:Hid (Ext w w1):=(Ext.refl w).grown g (fun k T=>by cases T);clear f g
 go_loopw [7,8] (Arf w l d n) (fun _ i _=>(intOf i+1).toNat)
 case atStart=>exact⟨l.length,_,0,oV,rfl,rfl,I9.start _ _ N,by rw[<-v.out];exact O.out,Q.out⟩
 case round =>
  obtain⟨k,o,E,T,rfl,rfl,h,f,u⟩:=hrel;have y:=Lib.hid h;have F:=Lib.hid f;have H:=Lib.hid u;have a6:=h.rest;have a3:n<=o.length:=by have:=v.out;have:=h.len;omega
  clear h f u O Q;rcases k with _|k
  ·have m:=y.out.len;have q:=Lib.hid (Row.of_owns F.out);have A:=Lib.hid (D3 (cap:=n) (n:=val l/d) y.out.low q.out y.out.done.1 oV);have Y:Hid (o.length=n):=by rw[m];exact v.out.symm
   clear m
   go_wp2_with fail
   ((with_reducible refine (G5 _ _ _ o _ Y.out oV oV q.out).mono ?_);rintro e w' ⟨rfl,rfl⟩)
   go_wp2_with fail
   go_ret2
   exact⟨_,by rw[y.out.done.2];rfl,A.out,H.out⟩
  rw[show ((k+1:Nat):Int)-1=k by omega];have z:k<l.length:=oV;obtain⟨x,u⟩:∃ x,x=l.getD k 0:=⟨_,rfl⟩;have a7:x<1000000000:=by rw[u];exact P.out.getD k
  obtain⟨ba,V,rfl,L⟩:=(W.out.ext H.out).at z;rw[<-u]at L;have a0:=Qg F.out (j:=k) oV;have a2:=F.out.frozenAt k;have Z:=Lib.hid u;clear u;have a1:((d:Int)==0)=false:=gV
  go_wp2_with fail
  go_region
  go_wp2_with fail
  rw[show ((E:Int)*1000000000+x)%d=(((E*1000000000+x)%d:Nat):Int) by simp,show ((E:Int)*1000000000+x)/d=(((E*1000000000+x)/d:Nat):Int) by simp];have hs:=y.out.step P.out z Z.out;have t:=S9 k ((E*1000000000+x)/d) F.out H.out;exact⟨⟨k,_,_,oV,rfl,rfl,hs,t.1.drew,t.2.drew⟩,by simp only[intOf];omega⟩
def Su (g:Value)(m d:Nat)(w:World)(j:C8 w g m)(t:nl m<=10000000000000)(f:0<d)(k:d<1000000000) :
 Calls prog 244 #[g,.int .u64 d] w (P8 w (m/d) (m%d)):=by
 obtain⟨a,h,rfl,_,q⟩:=j;have:=Ahw a h d (Aa m) w q (Ao _) t f k;rw[Am]at this;exact this
end
section
variable {U V p top u2 v1 v2:Nat}
structure Z7 (v1 v2 u2 top p V U:Nat):Prop where
 v:∃ v',v' < p/\V=(v1*1000000000+v2)*p+v'
 u:∃ u',u' < p/\U=(top*1000000000+u2)*p+u'
 v1pos:500000000<=v1
 v1low:v1<1000000000
 v2low:v2<1000000000
 u2low:u2<1000000000
 top1:top<=v1*1000000000+999999999
 less:U<1000000000*V
def Z7.pos (h:Z7 v1 v2 u2 top p V U):0<V:=by
 rcases A2a V with h0|h0
 ·have:=h.less;rw[h0]at this;omega
 exact h0
structure Rf (v1 top V U q r:Nat):Prop where
 eq:q*v1+r=top
 ge:U/V<=q
 low:1000000000<=q->r<1000000000
 qle:q<=2000000000
def Rf.start (h:Z7 v1 v2 u2 top p V U):Rf v1 top V U (top/v1) (top%v1):=by
 have A:=h.v1pos;have g:=A3h top v1;have C:=A29 top (show 0<v1 by omega);have D:=h.v1low;refine⟨by rw[A19];exact g,?_,fun _=>oV,?_⟩
 ·obtain⟨F,n,f⟩:=h.v;obtain⟨E,k,e⟩:=h.u;have a:=h.pos;have m:=h.u2low;rw[A4u oV];have B:U/V*V<=U:=A69 U V;generalize U/V=q at *
  have j:0<p:=oV;have t:q*v1*1000000000*p<=q*V:=by
   rw[f,A17,A17];refine A2h _ ?_;rw[<-A17,A16];omega
  have y:U<(top*1000000000+u2+1)*p:=by rw[e,A16 _ 1,A3i];omega
  have d:q*v1*1000000000*p<(top*1000000000+u2+1)*p:=oV;have z:=A60 d;omega
 rw[<-Nat.lt_succ_iff,A3b oV];have:=h.top1;omega
def Rf.step {v1 v2 u2 top p V U q r:Nat}(h:Z7 v1 v2 u2 top p V U)(t:Rf v1 top V U q r)
 (f:1000000000<=q\/r*1000000000+u2<q*v2):0<q/\Rf v1 top V U (q-1) (r+v1):=by
 have a:=h.pos;have d:U/V<q:=by
  rcases f with f|f
  ·have:U/V<1000000000:=by rw[A3b a];exact h.less
   omega
  rw[A3b a];obtain⟨I,n,D⟩:=h.v;obtain⟨H,m,C⟩:=h.u;have y:q*((v1*1000000000+v2)*p)<=q*V:=A2h _ oV;have z:q*((v1*1000000000+v2)*p)=((q*v1)*1000000000+q*v2)*p:=by
   rw[<-A17,A2o,<-A17]
  have A:(top*1000000000+u2+1)*p<=((q*v1)*1000000000+q*v2)*p:=by
   refine A13 _ ?_;have:=t.eq;omega
  have B:(top*1000000000+u2+1)*p=(top*1000000000+u2)*p+p:=by rw[A16 _ 1,A3i]
  omega
 have j:0<q:=A22 (A1t _) d;refine⟨j,?_,Nat.le_sub_one_of_lt d,fun g=>?_,by have:=t.qle;omega⟩
 ·obtain⟨k,rfl⟩:∃ k,q=k+1:=⟨q-1,oV⟩;have:=t.eq;rw[A16,A3i]at this;simp only[A5p];omega
 have e:=t.eq;have F:=h.top1;obtain⟨k,rfl⟩:∃ k,q=1000000000+1+k:=⟨q-1000000001,oV⟩;have:(1000000000+1+k)*v1=1000000000*v1+v1+k*v1:=by rw[A16,A16,A3i]
 have E:0<=k*v1:=A1t _;rw[this]at e;omega
def Rf.done {v1 v2 u2 top p V U q r:Nat}(h:Z7 v1 v2 u2 top p V U)(t:Rf v1 top V U q r)
 (j:¬ (r<1000000000/\(1000000000<=q\/r*1000000000+u2<q*v2))):q<1000000000/\U/V<=q/\q<=U/V+1:=by
 have n:q<1000000000:=by
  rcases A2e q 1000000000 with a|a
  ·exact a
  exact absurd ⟨t.low a,Or.inl a⟩ j
 have e:q*v2<=r*1000000000+u2:=by
  rcases A2e (r*1000000000+u2) (q*v2) with a|a
  ·rcases A2e r 1000000000 with g|g
   ·exact absurd ⟨g,Or.inr a⟩ j
   have:q*v2<=999999999*999999999:=A25 oV (by have:=h.v2low;omega);omega
  exact a
 refine⟨n,t.ge,?_⟩;rcases A2a q with h0|h0
 ·rw[h0];exact A1t _
 obtain⟨k,rfl⟩:∃ k,q=k+1:=⟨q-1,oV⟩
 suffices k<=U/V by omega
 have d:=h.pos;rw[A4u d];obtain⟨m,z,f⟩:=h.v;obtain⟨H,y,F⟩:=h.u;have A:(k+1)*V=(((k+1)*v1)*1000000000+(k+1)*v2)*p+(k+1)*m:=by
  rw[f,A2o,<-A17,A2o,<-A17]
 have B:(((k+1)*v1)*1000000000+(k+1)*v2)*p<=(top*1000000000+u2)*p:=by
  refine A13 _ ?_;have:=t.eq;omega
 have C:(k+1)*m<=1000000000*p:=A25 oV oV;have D:1000000000*p<=V:=by
  rw[f];have:1000000000*p<=(v1*1000000000+v2)*p:=A13 _ (by have:=h.v1pos;omega);omega
 have E:(k+1)*V=k*V+V:=by rw[A16,A3i]
 omega
structure Mx (full v:List Nat)(off q k:Nat)(o:List Nat)(c:Nat):Prop where
 len:o.length=full.length
 low:Low o
 carry:c<=1000000000
 sum:val ((o.drop off).take k)+q*val (v.take k)=val ((full.drop off).take k)+1000000000^k*c
 same:∀ j,j<off\/off+k<=j->o.getD j 0=full.getD j 0
def E4 (l:List Nat)(off k:Nat):(l.drop off).getD k 0=l.getD (off+k) 0:=by
 simp[A02,A39]
def Nq (l:List Nat)(j k d:Nat)(h:k<=j):(l.set j d).take k=l.take k:=by
 rw[A96 h]
def Mx.start (a v:List Nat)(off q:Nat)(h:Low a):Mx a v off q 0 a 0 :=
 ⟨rfl,h,oV,by simp[val],fun _ _=>rfl⟩
def Mx.step {a v o:List Nat}{off q k c x y d e:Nat}(h:Mx a v off q k o c)(u:off+k<a.length)
 (z:x=v.getD k 0) (A:y=o.getD (off+k) 0) (n:d<1000000000) (t:e<=1000000000) (f:d+q*x+c=y+1000000000*e) :
 Mx a v off q (k+1) (o.set (off+k) d) e:=by
 refine⟨by simp[h.len],h.low.set _ n,t,?_,fun j D=>?_⟩
 ·rw[A5,A5,A5,E4,E4];have g:((o.set (off+k) d).drop off).take k=(o.drop off).take k:=by
   rw[A93,if_neg oV,Nq _ _ _ _ oV]
  have m:(o.set (off+k) d).getD (off+k) 0=d:=by
   simp[A02,h.len,u]
  rw[g,m,<-z,<-h.same (off+k) (Or.inr (A08 _)),<-A,A2d];have E:=h.sum;generalize 1000000000^k=p at *
  have B:p*d+p*(q*x)+p*c=p*y+p*1000000000*e:=by
   rw[A17,<-A2o,<-A2o,<-A2o,f]
  have C:q*(val (List.take k v)+p*x)=q*val (List.take k v)+p*(q*x):=by
   rw[A2o];congr 1;rw[<-A17,A19 q,A17]
  omega
 rw[Gy _ _ oV];exact h.same j oV
structure Oa (full v:List Nat)(off k:Nat)(o:List Nat)(c:Nat):Prop where
 len:o.length=full.length
 low:Low o
 carry:c<=1
 sum:val ((o.drop off).take k)+1000000000^k*c=val ((full.drop off).take k)+val (v.take k)
 same:∀ j,j<off\/off+k<=j->o.getD j 0=full.getD j 0
def Oa.start (a v:List Nat)(off:Nat)(h:Low a):Oa a v off 0 a 0 :=
 ⟨rfl,h,oV,by simp[val],fun _ _=>rfl⟩
def Oa.step {a v o:List Nat}{off k c x y:Nat}(h:Oa a v off k o c)(t:Low v)(q:off+k<a.length)
 (d:x=v.getD k 0) (e:y=o.getD (off+k) 0) :
 Oa a v off (k+1) (o.set (off+k) ((y+x+c)%1000000000)) ((y+x+c)/1000000000):=by
 have m:=t.getD k;have n:=h.low.getD (off+k);have u:=h.carry;rw[<-d]at m;rw[<-e]at n;refine⟨by simp[h.len],h.low.set _ oV,oV,?_,fun j z=>?_⟩
 ·rw[A5,A5,A5,E4,E4];have f:((o.set (off+k) ((y+x+c)%1000000000)).drop off).take k=(o.drop off).take k:=by
   rw[A93,if_neg oV,Nq _ _ _ _ oV]
  have g:(o.set (off+k) ((y+x+c)%1000000000)).getD (off+k) 0=(y+x+c)%1000000000:=by
   simp[A02,h.len,q]
  rw[f,g,<-d,<-h.same (off+k) (Or.inr (A08 _)),<-e,A2d,A3p,Is,A2o,A2o];have A:=h.sum;omega
 rw[Gy _ _ oV];exact h.same j oV
end
section
variable {A V j m n:Nat}{qs u:List Nat}
def Abx (l:List Nat)(n:Nat):val (l.take (n+2))=val (l.take n)+1000000000^n*(l.getD n 0+1000000000*l.getD (n+1) 0):=by
 rw[A5,A5,A2d,A2o,A17];omega
def Gw {l:List Nat}(h:Low l)(k:Nat):val (l.take k)<1000000000^k :=
 A2s (K8 (h.take k)) (A10 oV (by rw[A1e];omega))
def Ajs {a v:List Nat}{off n:Nat}(B:v.length=n+2)(d:Low a)(e:Low v)(f:500000000<=v.getD (n+1) 0)
 (k:val ((a.drop off).take (n+3))<1000000000*val v) :
 Z7 (v.getD (n+1) 0) (v.getD n 0) (a.getD (off+n) 0) (a.getD (off+(n+2)) 0*1000000000+a.getD (off+(n+1)) 0) (1000000000^n) (val v) (val ((a.drop off).take (n+3))):=by
 have h:val v=(v.getD (n+1) 0*1000000000+v.getD n 0)*1000000000^n+val (v.take n):=by
  have:=Abx v n;rw[<-B,A15]at this;rw[this,A19 (v.getD (n+1) 0*1000000000+v.getD n 0),A19 (v.getD (n+1) 0),A89 (v.getD n 0),A89]
 have g:val ((a.drop off).take (n+3))=((a.getD (off+(n+2)) 0*1000000000+a.getD (off+(n+1)) 0)*1000000000+a.getD (off+n) 0)*1000000000^n+val ((a.drop off).take n):=by
  rw[A5,Abx,E4,E4,E4,A4k,A19 _ (1000000000^n)];generalize 1000000000^n=p;rw[show (1000000000:Nat)^2=1000000000*1000000000 by rfl,A17 p,A3p (val _),<-A2o,A89 (val _)]
  congr 2
  omega
 have q:=e.getD (n+1);have t:=e.getD n;have z:=d.getD (off+n);have I:=d.getD (off+(n+1));have J:=d.getD (off+(n+2));have C:=Gw e n;have l2:=Gw (d.drop off) n;refine⟨⟨_,C,h⟩,⟨_,l2,g⟩,f,q,t,z,?_,k⟩;rw[g,h]at k;generalize v.getD (n+1) 0=v1 at *
 generalize v.getD n 0=v2 at *
 generalize a.getD (off+n) 0=u2 at *
 generalize a.getD (off+(n+1)) 0=u1 at *
 generalize a.getD (off+(n+2)) 0=u0 at *
 generalize val ((a.drop off).take n)=x at *
 generalize val (v.take n)=y at *
 generalize 1000000000^n=p at *
 have:(u0*1000000000*1000000000)*p<((v1+1)*1000000000*1000000000)*p:=by
  have D:(u0*1000000000*1000000000)*p<=((u0*1000000000+u1)*1000000000+u2)*p:=A13 _ oV;have E:1000000000*((v1*1000000000+v2)*p+y)<=1000000000*((v1*1000000000+v2+1)*p):=by
   refine A2h _ ?_;rw[A16 _ 1,A3i];omega
  have F:1000000000*((v1*1000000000+v2+1)*p)=(1000000000*(v1*1000000000+v2+1))*p:=by rw[A17]
  have H:(1000000000*(v1*1000000000+v2+1))*p<=((v1+1)*1000000000*1000000000)*p:=A13 _ oV;omega
 have:=A60 this;omega
def Ie (l:List Nat)(off n:Nat):val ((l.drop off).take (n+1))=val ((l.drop off).take n)+1000000000^n*l.getD (off+n) 0:=by
 rw[A5,E4]
def Afr (o:List Nat)(off n d:Nat)(h:off+n<o.length):val (((o.set (off+n) d).drop off).take (n+1))=val ((o.drop off).take n)+1000000000^n*d:=by
 rw[Ie];have a:((o.set (off+n) d).drop off).take n=(o.drop off).take n:=by
  rw[A93,if_neg oV,Nq _ _ _ _ oV]
 have e:(o.set (off+n) d).getD (off+n) 0=d:=by simp[A02,h]
 rw[a,e]
structure S4 (full:List Nat)(off n V:Nat)(o:List Nat):Prop where
 len:o.length=full.length
 low:Low o
 rest:val ((o.drop off).take (n+1))=val ((full.drop off).take (n+1))%V
 same:∀ j,j<off\/off+n<j->o.getD j 0=full.getD j 0
def Ae4 {e v o:List Nat}{off n q c:Nat}(B:v.length=n)(F:off+n<e.length)(h:Mx e v off q n o c)(E:Low e)
 (t:val ((e.drop off).take (n+1))/val v<=q) (f:0<val v) (K:c<=e.getD (off+n) 0) :
 q=val ((e.drop off).take (n+1))/val v/\S4 e off n (val v) (o.set (off+n) (e.getD (off+n) 0-c)):=by
 have I:=h.sum;rw[<-B,A15,B]at I;have J:=Ie e off n;have g:=Afr o off n (e.getD (off+n) 0-c) (by rw[h.len];exact F);have z:=E.getD (off+n);generalize N:e.getD (off+n) 0=u at *
 generalize k:val ((e.drop off).take (n+1))=U at *
 generalize val v=V at *
 generalize val ((e.drop off).take n)=x at *
 generalize val ((o.drop off).take n)=y at *
 have H:1000000000^n*u=1000000000^n*c+1000000000^n*(u-c):=by rw[<-A2o];congr 1;omega
 have D:U=q*V+(y+1000000000^n*(u-c)):=by
  generalize 1000000000^n*(u-c)=a at *
  generalize 1000000000^n*c=b at *
  generalize 1000000000^n*u=d at *
  omega
 have C:q=U/V:=by
  refine A8h ?_ t;rw[A4u f];omega
 refine⟨C,by simp[h.len],h.low.set _ oV,?_,fun j L=>?_⟩
 ·rw[g,k];have:=A3h U V;rw[<-C,A19]at this;generalize 1000000000^n*(u-c)=a at *
  omega
 rw[Gy _ _ oV];exact h.same j oV
def Am8 {e v o D:List Nat}{off n q c B:Nat}(L:v.length=n)(X:off+n<e.length)(h:Mx e v off q n o c)
 (I:q<=val ((e.drop off).take (n+1))/val v+1) (g:0<val v) (hv:val v<1000000000^n) (hc:e.getD (off+n) 0<c) (t:Oa o v off n D B) :
 q=val ((e.drop off).take (n+1))/val v+1/\e.getD (off+n) 0+B=c/\S4 e off n (val v) (D.set (off+n) 0):=by
 have O:=h.sum;have K:=t.sum;rw[<-L,A15,L]at O K;have hU:=Ie e off n;have C:=Afr D off n 0 (by rw[t.len,h.len];exact X);have hy:=Gw (h.low.drop off) n;have hz:=Gw (t.low.drop off) n;have R:=A3h (val ((e.drop off).take (n+1))) (val v);have Z:=A29 (val ((e.drop off).take (n+1))) g;generalize e.getD (off+n) 0=u at *
 generalize F:val ((e.drop off).take (n+1))=U at *
 generalize val v=V at *
 generalize val ((e.drop off).take n)=x at *
 generalize val ((o.drop off).take n)=y at *
 generalize val ((D.drop off).take n)=z at *
 have Q:=t.carry;obtain⟨k,rfl⟩:∃ k,c=u+1+k:=⟨c-u-1,oV⟩;have Y:1000000000^n*(u+1+k)=1000000000^n*u+1000000000^n+1000000000^n*k:=by rw[A2o,A2o,A50]
 have W:1000000000^n*0<=1000000000^n*k:=A2h _ (A1t _);rw[Y]at O;generalize hP:1000000000^n=P at *
 have J:U<q*V:=by
  generalize P*u=a at *
  generalize P*k=b at *
  omega
 have N:q=U/V+1:=by
  refine A8h I ?_;exact (A3b g).2 J
 have a0:q*V=V*(U/V)+V:=by rw[N,A16,A3i,A19]
 have E:z+P*B=U%V+P+P*k:=by
  generalize P*u=a at *
  generalize P*k=b at *
  generalize P*B=d at *
  generalize V*(U/V)=f at *
  omega
 have H:B=1:=by
  rcases A2a B with h0|h0
  ·subst h0;rw[A3z]at E;generalize P*k=b at *
   omega
  omega
 subst H;rw[A50]at E;have T:k=0:=by
  rcases A2a k with h0|h0
  ·exact h0
  have:P*1<=P*k:=A2h _ h0;generalize P*k=b at *
  omega
 subst T;refine⟨N,oV,by simp[t.len,h.len],t.low.set _ oV,?_,fun j hj=>?_⟩
 ·rw[C,F,A3z,A3s];rw[A3z]at E;omega
 rw[Gy _ _ oV,t.same j oV];exact h.same j oV
structure Ou (A V n m:Nat)(j:Nat)(u qs:List Nat):Prop where
 ulen:u.length=m+n
 qlen:qs.length=m
 ulow:Low u
 qlow:Low qs
 less:val (u.drop j)<V
 sum:val u+1000000000^j*(val (qs.drop j)*V)=A
 zero:∀ k,j+n<=k->u.getD k 0=0
def Ic {j k:Nat}(h:∀ i,j+k<=i->u.getD i 0=0):val ((u.drop j).take k)=val (u.drop j):=by
 have g:val ((u.drop j).drop k)=0:=by
  have:∀ (l:List Nat),(∀ i,l.getD i 0=0)->val l=0:=by
   intro l;induction l with
   |nil=>intro _;rfl
   |cons d l ih =>
    intro a;have h0:d=0:=by simpa using a 0
    have e:=ih (fun i=>by simpa using a (i+1));simp[val,h0,e]
  refine this _ (fun i=>?_);rw[E4,E4];exact h _ oV
 by_cases f:k<=(u.drop j).length
 ·have:=Gz (u.drop j) k f;rw[g]at this;omega
 rw[A1j oV]
def Adv (a:j<u.length):val (u.drop j)=u.getD j 0+1000000000*val (u.drop (j+1)):=by
 rw[Cs u j a];rfl
def Ou.before (h:Ou A V n m (j+1) u qs)(a:j<m) :
 val ((u.drop j).take (n+1))<1000000000*V:=by
 rw[Ic (fun i hi=>h.zero i oV),Adv (by have:=h.ulen;omega)];have:=h.less;have:=h.ulow.getD j;omega
def Ou.step {A V n m j:Nat}{u f qs:List Nat}(h:Ou A V n m (j+1) u qs)(D:j<m)(K:0<V)(L:V<1000000000^n)
 (t:S4 u j n V f) (N:val ((u.drop j).take (n+1))/V<1000000000) :
 Ou A V n m j f (qs.set j (val ((u.drop j).take (n+1))/V)):=by
 have g:=t.rest;have C:=A29 (val ((u.drop j).take (n+1))) K;have z:f.getD (j+n) 0=0:=by
  have:=Ie f j n;rcases A2a (f.getD (j+n) 0) with h0|h0
  ·exact h0
  have:1000000000^n*1<=1000000000^n*f.getD (j+n) 0:=A2h _ h0;omega
 have d:∀ k,j+n<=k->f.getD k 0=0:=by
  intro k P;by_cases e:k=j+n
  ·rw[e];exact z
  rw[t.same k oV];exact h.zero k oV
 have v:val (f.drop j)=val ((u.drop j).take (n+1))%V:=by
  rw[<-g,Ic (fun i hi=>d i oV)]
 refine⟨by rw[t.len];exact h.ulen,by simp[h.qlen],t.low,h.qlow.set _ N,by rw[v];exact C,?_,d⟩;have a:=h.sum;have E:=Gz u j (by have:=h.ulen;omega);have F:=Gz f j (by have:=h.ulen;have:=t.len;omega);have H:f.take j=u.take j:=by
  apply A4g;intro i;rw[A3y,A3y];split
  ·rename_i hi;have:=t.same i (Or.inl hi);have O:i<f.length:=by have:=h.ulen;have:=t.len;omega
   have l2:i<u.length:=by have:=h.ulen;omega
   simp[A02,O,l2]at this⊢;exact this
  rfl
 have I:val ((u.drop j).take (n+1))=val (u.drop j):=Ic (fun i hi=>h.zero i oV);have J:val ((qs.set j (val ((u.drop j).take (n+1))/V)).drop j)=val ((u.drop j).take (n+1))/V+1000000000*val (qs.drop (j+1)):=by
  rw[Cs _ j (by simp[h.qlen,D]),A67 oV];have:(qs.set j (val ((u.drop j).take (n+1))/V)).getD j 0=val ((u.drop j).take (n+1))/V:=by
   simp[A02,h.qlen,D]
  rw[this];rfl
 rw[J,F,H,v,I];rw[E,A2d]at a;have B:=A3h (val (u.drop j)) V;generalize val (u.drop j)/V=q at *
 generalize val (u.drop j)%V=r at *
 generalize val (u.take j)=x at *
 generalize val (qs.drop (j+1))=y at *
 generalize 1000000000^j=p at *
 rw[<-B]at a;rw[<-a,A16,A2o,A2o,A19 V q];rw[show p*1000000000*(y*V)=p*(1000000000*y*V) by rw[A17,A17]];omega
def Ou.done (h:Ou A V n m 0 u qs)(e:0<V):val qs=A/V/\val u=A%V:=by
 have d:=h.sum;have a:=h.less;simp only[A5a,A8j,A3i]at d a;rw[<-d];constructor
 ·rw[Nat.add_mul_div_right _ _ e,A49 a,A2w]
 rw[Nat.add_mul_mod_self_right,A5i a]
end
section
variable {a b w wr:World}{base g n:Nat}{e:TypeId}{o:List Nat}{r:Option Nat}
def Xl (w:World)(r:Option Nat):w.grownBy w r:=⟨rfl,rfl,rfl,A08 _,fun _ _ _=>rfl⟩
def Uy {a b c:World}(h:a.grownBy b r)(k:b.grownBy c r):a.grownBy c r :=
 ⟨k.os.trans h.os,k.tape.trans h.tape,k.output.trans h.output,A04 h.size k.size,fun i hi d=>(k.block i (A2s hi h.size) d).trans (h.block i hi d)⟩
def Agp (h:a.grownBy b r)(n:Nat):a.grownBy (b.drewN n) r:=by
 obtain⟨d,f,j,k,m⟩:=h;exact⟨d,f,j,k,m⟩
def Gp (w:World)(g:Nat)(a:Option Addr)(cs:List Value):Prop:=Row w a cs/\∀ b off,a=some ⟨b,off,none⟩->b≠g
def Gp.grown {w w':World}{a:Option Addr}{cs:List Value}(h:Gp w g a cs)(k:w.grownBy w' (some g)):Gp w' g a cs:=by
 refine⟨fun j m=>?_,h.2⟩;obtain⟨b,off,d,f⟩:=h.1 j m;exact⟨b,off,d,k.cell f (by simp;exact h.2 b off d)⟩
def Avs (w:World)(base g N:Nat)(full:List Nat)(off n V:Nat)(e:Ending)(w':World):Prop :=
 ∃ o,e=.returned (.int .u64 ((val ((full.drop off).take (n+1))/V:Nat):Int))/\S4 full off n V o /\
  w'.ownsRow base 219 1 (.slice (some ⟨g,0,none⟩) N N) N (A8 o)/\w.grownBy w' (some g)
def Aqd (w:World)(v1 top V U:Nat)(q r:Value)(wr:World):Prop :=
 ∃ qq rr:Nat,q=.int .u64 (qq:Int)/\r=.int .u64 (rr:Int)/\Rf v1 top V U qq rr/\rr<2000000000/\∃ d,wr=w.drewN d
def Auj (w:World)(base g N:Nat)(full m:List Nat)(off q n:Nat)(c i:Value)(wr:World):Prop :=
 ∃ (k:Nat) (o:List Nat) (cc:Nat),k<=n/\i=.int .i64 k/\c=.int .u64 (cc:Int)/\Mx full m off q k o cc /\
  wr.ownsRow base 219 1 (.slice (some ⟨g,0,none⟩) N N) N (A8 o)/\w.grownBy wr (some g)
def At3 (w:World)(base g N:Nat)(full m:List Nat)(off n:Nat)(c i:Value)(wr:World):Prop :=
 ∃ (k:Nat) (o:List Nat) (cc:Nat),k<=n/\i=.int .i64 k/\c=.int .u64 (cc:Int)/\Oa full m off k o cc /\
  wr.ownsRow base 219 1 (.slice (some ⟨g,0,none⟩) N N) N (A8 o)/\w.grownBy wr (some g)
def Hk {n j:Nat}(h:wr.ownsRow base e 1 (.slice (some ⟨g,0,none⟩) n n) n (A8 o))(k:j<o.length) :
 wr.cell? ⟨g,j,none⟩=some (.int .u64 (o.getD j 0:Nat)):=by
 obtain⟨b,off,f,d⟩:=(Row.of_owns h).at k;obtain⟨rfl,rfl⟩:=f;rw[A2w]at d;exact d
def Mr (j d:Nat)(h:wr.ownsRow base e 1 (.slice (some ⟨g,0,none⟩) n n) n (A8 o))(x:w.grownBy wr (some g)) :
 (wr.setCell ⟨g,j,none⟩ (.int .u64 (d:Int))).ownsRow base e 1 (.slice (some ⟨g,0,none⟩) n n) n (A8 (o.set j d)) /\
  w.grownBy (wr.setCell ⟨g,j,none⟩ (.int .u64 (d:Int))) (some g):=by
 have:=h.stored j (.int .u64 (d:Int));rw[Xa]at this;exact⟨this.1,Uy x this.2⟩
def Amj {u c b:Nat}(h:u+c=b):IntKind.u64.wrap ((u:Int)+IntKind.u64.wrap ((c:Int)-b))=((0:Nat):Int):=by
 have e:∀ n:Int,IntKind.u64.wrap n=n%18446744073709551616:=fun n=>by simp[IntKind.wrap,IntKind.signed,IntKind.bits]
 rw[e,e];omega
set_option maxRecDepth 100000 in
def Aoi (base g N off n cu:Nat)(b:Option Addr)(cb:Nat)(f m:List Nat)(w:World)
 (q:w.ownsRow base 219 1 (.slice (some ⟨g,0,none⟩) N N) N (A8 f)) (hv:Gp w g b (A8 m)) (ag:f.length=N)
 (lf:Low f) (lm:Low m) (hm:m.length=n+2) (hN:off+(n+2)<N) (aw:N<=30000000000000) (b0:n+3<=cu)
 (aj:500000000<=m.getD (n+1) 0) (hU:val ((f.drop off).take (n+3))<1000000000*val m) :
 Calls prog 245 #[.slice (some ⟨g,off,none⟩) (n+3) cu,.slice b (n+2) cb] w (Avs w base g N f off (n+2) (val m)):=by
 have hp:=Ajs hm lf lm aj hU;obtain⟨bv,ov,rfl,a5⟩:=hv.1.at (j:=n+1) oV;have a6:w.cell? ⟨bv,ov+n,none⟩=some (.int .u64 (m.getD n 0:Nat)):=by
  obtain⟨b',aa,h1,h2⟩:=hv.1.at (j:=n) oV;simp only[A1f,Addr.mk.injEq,and_true]at h1;obtain⟨rfl,rfl⟩:=h1;exact h2
 have a2:=Hk q (j:=off+(n+2)) oV;have a3:=Hk q (j:=off+(n+1)) oV;have a4:=Hk q (j:=off+n) oV;obtain⟨v1,R⟩:∃ x,x=m.getD (n+1) 0:=⟨_,rfl⟩;obtain⟨v2,T⟩:∃ x,x=m.getD n 0:=⟨_,rfl⟩;obtain⟨U,B⟩:∃ x,x=f.getD (off+(n+2)) 0:=⟨_,rfl⟩;obtain⟨u1,F⟩:∃ x,x=f.getD (off+(n+1)) 0:=⟨_,rfl⟩;obtain⟨u2,Q⟩:∃ x,x=f.getD (off+n) 0:=⟨_,rfl⟩;rw[<-R,<-T,<-B,<-F,<-Q]at hp;rw[<-R]at a5 aj;rw[<-T]at a6;rw[<-B]at a2;rw[<-F]at a3;rw[<-Q]at a4;have b1:=hp.v1low;have b2:=hp.v2low;have b3:=hp.u2low;have b4:U<1000000000:=by rw[B];exact lf.getD _
 have b5:u1<1000000000:=by rw[F];exact lf.getD _
 have b6:((v1:Int)==0)=false:=gV;have HP:=Lib.hid hp;have HO:=Lib.hid q;have HV:=Lib.hid hv;have LF:=Lib.hid lf;have LM:=Lib.hid lm;have HM:=Lib.hid hm;have I:=Lib.hid ag;have E0:=Lib.hid B;clear hp q hv lf lm hm ag R T B F Q hU
 go_enter func245,ntmps245
 go_wp2_with fail
 go_quiet (fail)
 go_wp2_with fail
 go_quiet (fail)
 go_wp2_with fail
 rw[show ((U:Int)*1000000000+u1)/v1=(((U*1000000000+u1)/v1:Nat):Int) by simp,show ((U:Int)*1000000000+u1)%v1=(((U*1000000000+u1)%v1:Nat):Int) by simp]
 go_loopw [7,8] (Aqd w v1 (U*1000000000+u1) (val m) (val ((f.drop off).take (n+3)))) (fun _ r _=>(1000000000-intOf r).toNat)
 case atStart =>
  have Z:=A29 (U*1000000000+u1) (show 0<v1 by omega);exact⟨_,_,rfl,rfl,Rf.start HP.out,oV,_,World.drewN_drewN _ _ _⟩
 case round =>
  obtain⟨H,rr,rfl,rfl,ht,bc,d,rfl⟩:=hrel;have HT:=Lib.hid ht;have ba:=ht.qle;clear ht;obtain⟨p,hp⟩:∃ p,p=H*v2:=⟨_,rfl⟩;have am:p<=2000000000*999999999:=by rw[hp];exact A25 oV oV
  have K:((H:Int)*v2)=p:=by rw[hp];exact (A4d _ _).symm
  have PP:=Lib.hid hp;clear hp;by_cases v:rr<1000000000/\(1000000000<=H\/rr*1000000000+u2<p)
  ·have D:=HT.out.step HP.out (by rw[<-PP.out];exact v.2);have ac:=Lib.hid D;have b8:=D.1;clear D;obtain⟨ax,af⟩:=v;have d1:decide ((rr:Int)<1000000000)=true:=gV;by_cases ay:1000000000<=H
   ·have d2:decide ((1000000000:Int)<=H)=true:=gV;clear af
    go_wp2_with fail
    go_quiet (fail)
    go_wp2_with fail
    exact⟨⟨H-1,rr+v1,by go_num,by go_num,ac.out.2,oV,_,rfl⟩,by simp only[intOf];omega⟩
   have d2:decide ((1000000000:Int)<=H)=false:=gV;have d3:decide ((rr:Int)*1000000000+u2<p)=true:=gV;clear af
   go_wp2_with fail
   go_quiet (fail)
   go_wp2_with fail
   exact⟨⟨H-1,rr+v1,by go_num,by go_num,ac.out.2,oV,_,rfl⟩,by simp only[intOf];omega⟩
  have O:=HT.out.done HP.out (by rw[<-PP.out];exact v);have HF:=Lib.hid O;have bb:=O.1;clear O;have a0:(decide ((rr:Int)<1000000000)=false)\/(decide ((rr:Int)<1000000000)=true/\decide ((1000000000:Int)<=H)=false/\decide ((rr:Int)*1000000000+u2<p)=false):=by
   simp only[decide_eq_false_iff_not,decide_eq_true_eq];omega
  clear v;rcases a0 with d1|⟨d1,d2,d3⟩;all_goals
   go_wp2_with fail
   go_quiet (fail)
   go_wp2_with fail
   go_loopw [9,80] (Auj w base g N f m off H (n+2)) (fun _ i _=>(n+2)-(intOf i).toNat)
   case atStart=>exact⟨0,f,0,oV,rfl,rfl,Mx.start _ _ _ _ LF.out,Px HO.out _,Agp (Xl _ _) _⟩
   case round =>
    obtain⟨k,o,A,hk,rfl,rfl,a1,q,ah⟩:=hrel;have V:=Lib.hid a1;have X:=Lib.hid q;have HG:=Lib.hid ah;have az:=a1.carry;have b7:N<=o.length:=by have:=a1.len;have:=I.out;omega
    clear a1 q ah d1 a5 a6 a2 a3 a4 K am;by_cases Z:k<n+2
    ·obtain⟨x,hx⟩:∃ x,x=m.getD k 0:=⟨_,rfl⟩;obtain⟨y,hy⟩:∃ y,y=o.getD (off+k) 0:=⟨_,rfl⟩;have ao:x<1000000000:=by rw[hx];exact LM.out.getD k
     have ap:y<1000000000:=by rw[hy];exact V.out.low.getD _
     have ak:wr.cell? ⟨bv,ov+k,none⟩=some (.int .u64 (x:Int)):=by
      obtain⟨b',aa,h1,h2⟩:=(HV.out.grown HG.out).1.at (j:=k) (by rw[HM.out];exact Z);simp only[A1f,Addr.mk.injEq,and_true]at h1;obtain⟨rfl,rfl⟩:=h1;rw[hx];exact h2
     have t:=Hk X.out (j:=off+k) oV;have Y:=X.out.frozenAt (off+k);rw[<-hy]at t;have XX:=Lib.hid hx;have YY:=Lib.hid hy;clear hx hy;obtain⟨C,K⟩:∃ C,C=H*x:=⟨_,rfl⟩;have au:C<=999999999*999999999:=by rw[K];exact A25 oV oV
     have av:((H:Int)*x)=C:=by rw[K];exact (A4d _ _).symm
     have ae:=Lib.hid K;clear K;by_cases bd:y<(C+A)%1000000000
     ·have d4:decide ((y:Int)<((C:Int)+A)%1000000000)=true:=gV
      go_wp2_with fail
      rw[show (y:Int)+1000000000=((y+1000000000:Nat):Int) by omega,show ((y+1000000000:Nat):Int)-((C:Int)+A)%1000000000=((y+1000000000-(C+A)%1000000000:Nat):Int) by omega,show ((C:Int)+A)/1000000000+1=(((C+A)/1000000000+1:Nat):Int) by omega];have ai:=Mr (off+k) (y+1000000000) X.out HG.out;have h:=Mr (off+k) (y+1000000000-(C+A)%1000000000) ai.1 ai.2;rw[A6r]at h;refine⟨⟨k+1,_,_,oV,by go_num,rfl,?_,h.1,h.2⟩,by simp only[intOf];omega⟩;exact V.out.step (by have:=I.out;omega) XX.out YY.out oV oV (by rw[<-ae.out];omega)
     have d4:decide ((y:Int)<((C:Int)+A)%1000000000)=false:=gV
     go_wp2_with fail
     rw[show (y:Int)-((C:Int)+A)%1000000000=((y-(C+A)%1000000000:Nat):Int) by omega,show ((C:Int)+A)/1000000000=(((C+A)/1000000000:Nat):Int) by omega];have h:=Mr (off+k) (y-(C+A)%1000000000) X.out HG.out;refine⟨⟨k+1,_,_,oV,by go_num,rfl,?_,h.1,h.2⟩,by simp only[intOf];omega⟩;exact V.out.step (by have:=I.out;omega) XX.out YY.out oV oV (by rw[<-ae.out];omega)
    obtain rfl:k=n+2:=oV;have t:=Hk X.out (j:=off+(n+2)) oV;have Y:=X.out.frozenAt (off+(n+2));rw[V.out.same _ (Or.inr (A08 _)),<-E0.out]at t;have u:=HP.out.pos;by_cases al:A<=U
    ·have hd:=Ae4 HM.out (by rw[I.out];exact hN) V.out LF.out HF.out.2.1 u (by rw[<-E0.out];exact al);rw[<-E0.out]at hd;have HD:=Lib.hid hd;clear hd u
     go_wp2_with fail
     go_ret
     rw[show (U:Int)-A=((U-A:Nat):Int) by omega];have h:=Mr (off+(n+2)) (U-A) X.out HG.out;exact⟨_,by rw[<-HD.out.1];rfl,HD.out.2,h.1,h.2⟩
    have a8:=V.out.low;have LO:=Lib.hid a8;have VP:=Lib.hid u;clear a8 u t Y;obtain⟨wo,an⟩:∃ wo:World,wo=wr:=⟨_,rfl⟩;subst an;have t:=Hk X.out (j:=off+(n+2)) oV;rw[V.out.same _ (Or.inr (A08 _)),<-E0.out]at t
    go_wp2_with fail
    go_loopw [14,132] (At3 w base g N o m off (n+2)) (fun _ i _=>(n+2)-(intOf i).toNat)
    case atStart=>exact⟨0,o,0,oV,rfl,rfl,Oa.start _ _ _ LO.out,X.out,HG.out⟩
    case round =>
     obtain⟨k,o2,L,hk,rfl,rfl,E,P,a7⟩:=hrel;have W:=Lib.hid E;have J:=Lib.hid P;have ab:=Lib.hid a7;have aq:=E.carry;have ar:N<=o2.length:=by have:=E.len;omega
     clear E P a7 t;by_cases Z:k<n+2
     ·obtain⟨x,hx⟩:∃ x,x=m.getD k 0:=⟨_,rfl⟩;obtain⟨y,hy⟩:∃ y,y=o2.getD (off+k) 0:=⟨_,rfl⟩;have ao:x<1000000000:=by rw[hx];exact LM.out.getD k
      have ap:y<1000000000:=by rw[hy];exact W.out.low.getD _
      have ak:wr.cell? ⟨bv,ov+k,none⟩=some (.int .u64 (x:Int)):=by
       obtain⟨b',aa,h1,h2⟩:=(HV.out.grown ab.out).1.at (j:=k) (by rw[HM.out];exact Z);simp only[A1f,Addr.mk.injEq,and_true]at h1;obtain⟨rfl,rfl⟩:=h1;rw[hx];exact h2
      have t:=Hk J.out (j:=off+k) oV;have Y:=J.out.frozenAt (off+k);rw[<-hy]at t;have XX:=Lib.hid hx;have YY:=Lib.hid hy;clear hx hy
      go_wp2_with fail
      rw[show ((y:Int)+x+L)%1000000000=(((y+x+L)%1000000000:Nat):Int) by omega,show ((y:Int)+x+L)/1000000000=(((y+x+L)/1000000000:Nat):Int) by omega];have h:=Mr (off+k) ((y+x+L)%1000000000) J.out ab.out;refine⟨⟨k+1,_,_,oV,by go_num,rfl,?_,h.1,h.2⟩,by simp only[intOf];omega⟩;exact W.out.step LM.out (by have:=I.out;have:=V.out.len;omega) XX.out YY.out
     obtain rfl:k=n+2:=oV;have hb:=Am8 HM.out (by rw[I.out];exact hN) V.out HF.out.2.2 VP.out (by have:=K8 LM.out;rw[HM.out]at this;exact this) (by rw[<-E0.out];omega) W.out;rw[<-E0.out]at hb;have a9:=hb.2.1;have t:=Hk J.out (j:=off+(n+2)) oV;have Y:=J.out.frozenAt (off+(n+2));rw[W.out.same _ (Or.inr (A08 _)),V.out.same _ (Or.inr (A08 _)),<-E0.out]at t;have b9:1<=H:=by rw[hb.1];exact Nat.le_add_left 1 _
     have HB:=Lib.hid hb;have ad:=Lib.hid a9;clear hb a9
     go_wp2_with fail
     go_ret
     rw[Amj ad.out];have h:=Mr (off+(n+2)) 0 J.out ab.out;refine⟨_,?_,HB.out.2.2,h.1,h.2⟩;refine congrArg (fun z:Int=>Ending.returned (.int .u64 z)) (a₁:=(H:Int)-1) ?_;have:=HB.out.1;omega
end
section
variable {f k m n:Nat}
structure Avl (n k f:Nat):Prop where
 len:nl n=k+2
 pos:1<=f
 low:f<1000000000
 vlen:nl (n*f)=k+2
 vtop:500000000<=(Aa (n*f)).getD (k+1) 0
 fle:f*1000000000^(k+1)<=n*f
def Ak6 (n k:Nat)(h:nl n=k+2):n=val ((Aa n).take (k+1))+1000000000^(k+1)*(Aa n).getD (k+1) 0:=by
 have:=A5 (Aa n) (k+1);rw[A1j (show (Aa n).length<=k+1+1 from Nat.le_of_eq h),Am]at this;exact this
def Awm (n k:Nat)(h:nl n=k+2):1<=(Aa n).getD (k+1) 0:=by
 have a:n≠0:=by intro e;rw[e,Vr]at h;omega
 have:=Pn a;have d:(Aa n).length=k+2:=h;rw[d]at this;simp only[A5p,show k+2-1=k+1 from rfl]at this;omega
def Avl.make (h:nl n=k+2):Avl n k (1000000000/((Aa n).getD (k+1) 0+1)):=by
 have F:=Awm n k h;have O:=(Ao n).getD (k+1);have T:=Ak6 n k h;have K:=Gw (Ao n) (k+1);generalize (Aa n).getD (k+1) 0=b at *
 have a:=A3h 1000000000 (b+1);have L:=A29 1000000000 (show 0<b+1 by omega);generalize R:1000000000/(b+1)=f at *
 generalize 1000000000%(b+1)=r at *
 have d:1<=f:=by
  rcases A2a f with h0|h0
  ·rw[h0,A3z]at a;omega
  exact h0
 have q:f<1000000000:=by
  have:(1+1)*f<=(b+1)*f:=A13 _ oV;omega
 have I:b*f+f+r=1000000000:=by rw[A16,A3i]at a;exact a
 have C:b+f<=b*f+1:=by
  obtain⟨x,rfl⟩:∃ x,b=x+1:=⟨b-1,oV⟩;obtain⟨y,rfl⟩:∃ y,f=y+1:=⟨f-1,oV⟩;rw[A16,A2o,A3i,A50];have:0<=x*y:=A1t _;omega
 have D:500000000<=b*f:=oV;generalize U:val ((Aa n).take (k+1))=x at *
 generalize g:1000000000^(k+1)=P at *
 have j:P<=n:=by
  have:P*1<=P*b:=A2h _ F;omega
 have u:n*f<P*1000000000:=by
  have z:n<P*(b+1):=by rw[A2o,A50];omega
  have E:n*f<P*(b+1)*f:=A6w z oV;have A:P*(b+1)*f<=P*1000000000:=by rw[A17];exact A2h _ oV
  omega
 have J:P<=n*f:=by
  have:n*1<=n*f:=A2h _ d;omega
 have e:nl (n*f)=k+2:=by
  refine A8h (A4 (by rw[show k+2=k+1+1 from rfl,A2d,g];exact u)) ?_;rcases A2e (nl (n*f)) (k+2) with B|B
  ·have Q:=Dd (n*f);have H:1000000000^nl (n*f)<=1000000000^(k+1):=A10 oV oV;rw[g]at H;omega
  exact B
 refine⟨h,d,q,e,?_,?_⟩
 ·have N:=Ak6 (n*f) k e;have v:=Gw (Ao (n*f)) (k+1);rw[g]at N v;generalize (Aa (n*f)).getD (k+1) 0=t at *
  have z:P*(b*f)<=n*f:=by
   rw[<-A17];exact A13 _ oV
  have E:n*f<P*(t+1):=by rw[A2o,A50];omega
  have A:P*(b*f)<P*(t+1):=oV;have:=A84 A;omega
 rw[A19 n];exact A2h _ (by rw[g];exact j)
def Ou.start {m n k f M:Nat}(h:Avl n k f)(u:nl m+1=M+(k+2)) :
 Ou (m*f) (n*f) (k+2) M M (Aa (m*f)++List.replicate (M+(k+2)-nl (m*f)) 0) (List.replicate M 0):=by
 have C:nl (m*f)<=M+(k+2):=by
  rw[<-u];refine A04 (G7 m f) (Nat.add_le_add_left ?_ _);exact A4 (by simpa using h.low)
 have d:(Aa (m*f)++List.replicate (M+(k+2)-nl (m*f)) 0).length=M+(k+2):=by
  rw[A1d,A3k];unfold nl at *;omega
 have a:val (Aa (m*f)++List.replicate (M+(k+2)-nl (m*f)) 0)=m*f:=by
  rw[Qm,Aa1,Am];omega
 refine⟨d,mV,(Ao _).append (Low.zeros _),Low.zeros _,?_,?_,?_⟩
 ·have v:=Gz (Aa (m*f)++List.replicate (M+(k+2)-nl (m*f)) 0) M oV;rw[a]at v;generalize val ((Aa (m*f)++List.replicate (M+(k+2)-nl (m*f)) 0).drop M)=y at *
  generalize val ((Aa (m*f)++List.replicate (M+(k+2)-nl (m*f)) 0).take M)=x at *
  have g:=Dd m;rw[show nl m=M+(k+1) by omega,A4k]at g;have e:=h.fle;have q:=h.pos;generalize 1000000000^(k+1)=P at *
  generalize 1000000000^M=Q at *
  have z:m*f<Q*P*f:=A6w g oV;have A:Q*P*f=Q*(f*P):=by rw[A17,A19 P]
  have t:Q*y<Q*(f*P):=oV;have:=A84 t;omega
 ·rw[a,A2b mV];simp[val]
 intro j B;have:(Aa (m*f)++List.replicate (M+(k+2)-nl (m*f)) 0)[j]?=none:=A1v oV;rw[A02,this];rfl
def Agz (a:0<f):m*f/(n*f)=m/n/\m*f%(n*f)=(m%n)*f :=
 ⟨Nat.mul_div_mul_right m n a,Nat.mul_mod_mul_right f m n⟩
end
section
variable {N base g k n:Nat}{e:TypeId}{w w':World}{xs:List Value}
def V6 (w:World)(m n:Nat)(e:Ending)(w':World):Prop:=∃ u v,e=.returned (.tuple #[u,v])/\C8 w' u m/\C8 w' v n/\Ext w w'
def Aj0 {m n:Nat}(h:n<=m):0<=sgn ((m:Int)-n):=by
 rcases A2e n m with a|a
 ·rw[C5 oV];omega
 rw[show (m:Int)-n=0 by omega,Ra];omega
set_option maxRecDepth 100000 in
def Aft (a d:Value)(m n:Nat)(w:World)(f:C8 w a m)(u:C8 w d n)(y:nl m<=10000000000000)(sb:nl n<=10000000000000)(v:m<n) :
 Calls prog 218 #[a,d] w (V6 w 0 m):=by
 have j:=Lib.hid f;have h:=Hl a d m n w f u y sb;rw[Ep oV]at h;have t:=Lib.hid h
 go_enter func218,ntmps218
 go_wp2_with fail
 refine t.out.mono ?_;rintro e w' ⟨rfl,q,rfl⟩
 go_wp2_with fail
 go_ret2
 exact⟨_,_,rfl,C8.zero _ _ _,j.out.ext ((Ext.refl w).drewN q),(Ext.refl w).drewN q⟩
def Ez {d:Nat}(h0:d≠0)(h:d<1000000000):Aa d = [d]:=by
 rw[Dz h0,show d/1000000000=0 by omega,A7,show d%1000000000=d by omega]
def Akq (a:World)(r:Nat):Row (a.alloc (Obj.cells #[Value.int IntKind.u64 (r:Int)] 219)) (some ⟨a.heap.size,0,none⟩) (A8 [r]):=by
 intro j d;obtain rfl:j=0:=by simp_all
 exact⟨_,_,rfl,by simp[A8]⟩
set_option maxRecDepth 100000 in
def Adh (y E:Value)(m n:Nat)(w:World)(H:C8 w y m)(I:C8 w E n)(L:nl m<=10000000000000)(f:0<n)(K:n<1000000000)(B:n<=m) :
 Calls prog 218 #[y,E] w (V6 w (m/n) (m%n)):=by
 have J:=Ez oV K;have O:=Lib.hid H;have T:=Hl y E m n w H I L (by unfold nl;rw[J];simp);obtain⟨s,U⟩:∃ s,s=sgn ((m:Int)-n):=⟨_,rfl⟩;have V:0<=s:=by rw[U];exact Aj0 B
 have F:=Lib.hid T;obtain⟨b,Z,rfl,_,a⟩:=I;rw[J]at a F⊢;obtain⟨Y,ob,rfl,A⟩:=a.at (j:=0) mV;simp only[A3s]at A
 go_enter func218,ntmps218
 go_wp2_with fail
 refine F.out.mono ?_;rintro e w' ⟨rfl,q,rfl⟩
 go_wp2_with fail
 have t:=Su y m n _ (O.out.ext ((Ext.refl w).drewN q)) L f K;obtain⟨r,u⟩:∃ r,r=m%n:=⟨_,rfl⟩;rw[<-u]at t;have C:r<1000000000:=by rw[u];have:=A29 m f;omega
 have P:=Lib.hid u;clear u;refine t.mono ?_;rintro e z ⟨v,rfl,W,X⟩;have Q:=Lib.hid W;have R:=Lib.hid X
 go_wp2_with fail
 have a:Row (z.alloc (Obj.cells #[Value.int IntKind.u64 (r:Int)] 219)) (some ⟨z.heap.size,0,none⟩) (A8 [r]):=Akq z r;refine (G5 _ _ _ [r] _ rfl mV mV a).mono ?_;rintro e w' ⟨rfl,rfl⟩;have h:=D3 (cap:=1) (Low.cons C Low.nil) a (n:=r) (by simp[val]) mV;have d:=Lib.hid h
 go_wp2_with fail
 go_ret2
 have D:=(((Ext.refl w).drewN q).trans R.out).alloc (Obj.cells #[Value.int IntKind.u64 (r:Int)] 219);exact⟨_,_,rfl,Q.out.ext ((Ext.refl z).alloc _),by rw[<-P.out];exact d.out,D⟩
def Acf (n:Nat):Array Value:=(A8 (List.replicate n 0)).toArray
def Wr (W:World)(N:Int)(n:Nat)(h:N=n)(m:n<=30000000000000) :
 (Instr.makeSlice 116 (.int .i64 N) (.int .i64 N)).run prog W=.ok (.slice (some ⟨W.heap.size,0,none⟩) n n) (W.alloc (.cells (Acf n) 219)):=by
 subst h;obtain⟨j,hi,a,d,f⟩:=info_parts Tryz.info219;have:=run_make (P:=prog) W 116 219 j (.int .u64 0) Tryz.underlying116 hi a .i64 .i64 n n oV oV (by rw[f];omega) oV;rw[this,A23,d];have e:madeCells (Value.int .u64 0).cells (n*1)=Acf n:=by
  apply A6j;rw[Lp];rfl
 rw[e]
def Wk (W:World)(base n:Nat)(a:base<=W.heap.size)(d:n<=30000000000000) :
 (W.alloc (.cells (Acf n) 219)).ownsRow base 219 1 (.slice (some ⟨W.heap.size,0,none⟩) n n) n (A8 (List.replicate n 0)):=by
 have:=World.ownsRow_lit (e:=219) (size:=1) (base:=base) W (Acf n) n a (by unfold maxLen;omega) (by simp[Acf]);exact this
def Adc (w:World)(B N V:Nat)(u v:Value)(wx:World):Prop :=
 ∃ g av nv cv,u=.slice (some ⟨g,0,none⟩) N N/\v=.slice av nv cv/\nv=nl V/\wx.ownsRow B 219 1 (.slice (some ⟨g,0,none⟩) N N) N (A8 (List.replicate N 0)) /\
  Gp wx g av (A8 (Aa V))/\Ext w wx/\w.heap.size<=g
def Ext.grownBy (h:Ext w w')(r:Option Nat):w.grownBy w' r:=⟨h.os,h.tape,h.output,h.size,fun k a _=>Below.block h k a⟩
def Wm {size g n cap k:Nat}(h:w.ownsRow base e size (.slice (some ⟨g,0,none⟩) n cap) k xs)(x:Ext w w') :
 w'.ownsRow base e size (.slice (some ⟨g,0,none⟩) n cap) k xs:=h.kept (x.grownBy none) (Or.inr (by simp[Value.ownBlock]))
theorem Ayx {W2 w3:World}{N V kk cap:Nat}(hN:N<=30000000000000)(hv:C8 w3 (.slice (some ⟨(W2.alloc (.cells (Acf N) 219)).drew.heap.size,0,none⟩) kk cap) V)
 (hx:Ext (W2.alloc (.cells (Acf N) 219)).drew w3) :
 Adc W2 W2.heap.size N V (.slice (some ⟨W2.heap.size,0,none⟩) N N) (.slice (some ⟨W2.heap.size+1,0,none⟩) kk cap) w3:=by
 have hs:(W2.alloc (.cells (Acf N) 219)).drew.heap.size=W2.heap.size+1:=mV
 rw[hs]at hv;obtain⟨a',c',e1,_,hr⟩:=hv;simp only[Value.slice.injEq]at e1;obtain⟨rfl,e2,rfl⟩:=e1;refine⟨W2.heap.size,_,_,_,rfl,rfl,e2,Wm (World.ownsRow.drew (Wk W2 _ N (A08 _) hN)) hx,⟨hr,?_⟩,(((Ext.refl W2).alloc _).drew).trans hx,A08 _⟩;intro b off hb;simp only[A1f,Addr.mk.injEq]at hb;omega
def Ayq {a d:World}{N V q cap:Nat}(y:N<=30000000000000)(F:0<V)(B:C8 d (.slice (some ⟨a.drew.heap.size,0,none⟩) q cap) V)(C:Ext a.drew d) :
 Adc a a.heap.size N V (.slice (some ⟨d.heap.size,0,none⟩) N N) (.slice (some ⟨a.heap.size,0,none⟩) q cap) (d.alloc (.cells (Acf N) 219)):=by
 have H:a.drew.heap.size=a.heap.size:=rfl;obtain⟨D,E,h,_,m⟩:=B;simp only[Value.slice.injEq]at h;obtain⟨rfl,t,rfl⟩:=h;have A:a.heap.size<d.heap.size:=by
  obtain⟨b,off,u,v⟩:=m.at (j:=0) (by
   have:Aa V≠[]:=fun e=>by have:=Hj.1 e;omega
   exact A4f.2 this)
  simp only[A1f,Addr.mk.injEq]at u;have:=block_lt_of_cell v;simp only at this;omega
 have f:Ext a d:=((Ext.refl a).drew).trans C;refine⟨d.heap.size,_,_,_,rfl,rfl,t,Wk d _ N f.size y,⟨m.ext ((Ext.refl d).alloc _),?_⟩,f.alloc _,f.size⟩;intro b off z;simp only[A1f,Addr.mk.injEq]at z;omega
theorem Qt (h:w.ownsRow base e 1 (.slice (some ⟨g,0,none⟩) n n) n xs) :
 w.heap[g]?=some (.cells xs.toArray e (0,0))/\base<=g:=by
 rcases h.2 with ⟨f,_⟩|⟨u,d,j,f,m,q,_,_,t,a⟩
 ·grind
 obtain⟨rfl,rfl⟩:=f;rw[A1j gV]at a;rw[<-a];exact⟨by simpa using q,m⟩
def Ahr (h:w.heap[g]?=some (.cells xs.toArray e (0,0)))(a:base<=g)(f:xs.length=n)(d:n<=30000000000000) :
 w.ownsRow base e 1 (.slice (some ⟨g,0,none⟩) n n) n xs:=by
 refine⟨oV,Or.inr ⟨g,n,xs.toArray,rfl,a,h,A08 _,by unfold maxLen;omega,gV,?_⟩⟩;rw[A1j gV]
def Adi (w:World)(g:Nat)(cs:Array Value):w.grownBy (w.setRow g cs) (some g) :=
 ⟨rfl,rfl,rfl,mV,fun k _ a=>setRow_other w g k _ (fun e=>a (by simp[e]))⟩
def Ayp {l:List Nat}(h:w.ownsRow base 219 1 (.slice (some ⟨g,0,none⟩) N N) N (A8 (List.replicate N 0)))(j:l.length<=N)(f:N<=30000000000000) :
 (w.setRow g ((A8 (List.replicate N 0)).toArray.toList.take 0++(A8 l++(A8 (List.replicate N 0)).toArray.toList.drop (0+(A8 l).length))).toArray).ownsRow base 219 1 (.slice (some ⟨g,0,none⟩) N N) N
  (A8 (l++List.replicate (N-l.length) 0)):=by
 obtain⟨a,d⟩:=Qt h;have e:(A8 (List.replicate N 0)).toArray.toList.take 0++(A8 l++(A8 (List.replicate N 0)).toArray.toList.drop (0+(A8 l).length))=A8 (l++List.replicate (N-l.length) 0):=by
  simp[A8]
 rw[e];exact Ahr (setRow_heap w g _ _ _ _ a) d gV f
theorem R7 {w:World}{y:Array Oper}{rest:List Oper}{o:Oper}{a:Act}{Q:Exit->Act->World->Prop}(A:o.guard=none)(d s:Operand)
 (L:o.op=.call { callee:=.builtin .copy,args:=#[d,s],argTypes:=#[116,116] })
 (base g N f t:Nat) (z:Addr) (l:List Nat) (J:a.eval d=.slice (some ⟨g,0,none⟩) N N) (O:a.eval s=.slice (some z) f t)
 (m:w.ownsRow base 219 1 (.slice (some ⟨g,0,none⟩) N N) N (A8 (List.replicate N 0))) (K:l.length=f) (I:N<=30000000000000) (D:l.length<=N)
 (u:Row w (some z) (A8 l))
 (h:∀ w',w'.ownsRow base 219 1 (.slice (some ⟨g,0,none⟩) N N) N (A8 (l++List.replicate (N-l.length) 0))->w.grownBy w' (some g)->wpList prog y Q rest (a.put o.dst (goInt (A8 l).length)) w') :
 wpList prog y Q (o::rest) a w:=by
 obtain⟨U,hi,R,E,T⟩:=info_parts Tryz.info219;refine wpList_copy_own A d s _ _ L 219 Tryz.underlying116 (by rw[hi];simp[E]) g 0 N N z f t J O (A8 (List.replicate N 0)).toArray 219 (Qt m).1 (A8 l)
  (by rw[Us,K];exact (A4a oV).symm) (fun j v B=>?_) gV (fun v P=>?_) (h _ (Ayp m D I) (Adi _ _ _))
 ·have C:j<l.length:=by
   rcases A2e j l.length with h|h
   ·exact h
   rw[A1v (by simpa using h)]at B;cases B
  obtain⟨b',q,F,H⟩:=u j (by simpa using C);simp only[A1f]at F;subst F;have:(⟨b',q,none⟩:Addr).add j=⟨b',q+j,none⟩:=by
   unfold Addr.add;split
   ·grind
   rfl
  rw[this,H,A02,B];rfl
 obtain⟨x,_,rfl⟩:=A1b.1 P;rfl
def Ay0 (w:World)(A V n M N g gq:Nat)(av:Option Addr)(i:Value)(wr:World):Prop :=
 ∃ (j:Nat) (u qs:List Nat),j<=M/\i=.int .i64 ((j:Int)-1)/\Ou A V n M j u qs /\
  wr.ownsRow w.heap.size 219 1 (.slice (some ⟨g,0,none⟩) N N) N (A8 u)/\wr.ownsRow w.heap.size 219 1 (.slice (some ⟨gq,0,none⟩) M M) M (A8 qs) /\
  Gp wr g av (A8 (Aa V))/\Gp wr gq av (A8 (Aa V))/\Ext w wr
def Gp.ext {w w':World}{g:Nat}{a:Option Addr}{cs:List Value}(h:Gp w g a cs)(x:Ext w w'):Gp w' g a cs:=⟨h.1.ext x,h.2⟩
def Gp.new {a:Option Addr}{cs:List Value}(h:Gp w g a cs)(q:0<cs.length)(x:Ext w w'):Gp w' w.heap.size a cs:=by
 refine⟨h.1.ext x,fun b off m=>?_⟩;obtain⟨b',f,d,j⟩:=h.1 0 q;have:=block_lt_of_cell j;rw[m]at d;simp only[A1f,Addr.mk.injEq]at d;simp only at this;omega
def Atz (h:w.ownsRow base e 1 (.slice (some ⟨g,0,none⟩) n n) k xs):g<w.heap.size:=(h.lt g rfl).2
def Y9 {base e g d n k:Nat}(h:w.ownsRow base e 1 (.slice (some ⟨g,0,none⟩) n n) k xs)(f:w.grownBy w' (some d))(a:g≠d) :
 w'.ownsRow base e 1 (.slice (some ⟨g,0,none⟩) n n) k xs:=h.kept f (Or.inr (by simp[Value.ownBlock,a]))
set_option maxRecDepth 100000 in
def Aey (va vb:Value)(m n k:Nat)(w:World)(ha:C8 w va m)(hb:C8 w vb n)(sa:nl m<=5000000000000)(hn:nl n=k+2)(ax:n<=m) :
 Calls prog 218 #[va,vb] w (V6 w (m/n) (m%n)):=by
 obtain⟨i0,hi,bn,bo,bp⟩:=info_parts Tryz.info219;have HI:=Lib.hid hi;have c4:=Lib.hid bn;have c5:=Lib.hid bo;have c6:=Lib.hid bp;clear hi bn bo bp;have cd:k+2<=nl m:=by rw[<-hn];exact C4 ax
 have hc:=Hl va vb m n w ha hb oV oV;obtain⟨s,hs⟩:∃ s,s=sgn ((m:Int)-n):=⟨_,rfl⟩;have cs:0<=s:=by rw[hs];exact Aj0 ax
 rw[<-hs]at hc;have HC:=Lib.hid hc;have P:Hid (0<n):=by
  rcases A2a n with h0|h0
  ·rw[h0,Vr]at hn;omega
  exact h0
 have HA:=Lib.hid ha;have HB:=Lib.hid hb;have d:=Avl.make hn;obtain⟨a,ca,rfl,_,ab⟩:=ha;obtain⟨b,cb,rfl,_,Z⟩:=hb;have U:(Aa n).length=k+2:=hn;have F:(Aa m).length=nl m:=rfl;obtain⟨bb,ob,rfl,c8⟩:=Z.at (j:=k+1) oV;obtain⟨b1,a7⟩:∃ b1,b1=(Aa n).getD (k+1) 0:=⟨_,rfl⟩;have ch:b1<1000000000:=by rw[a7];exact (Ao n).getD _
 rw[<-a7]at c8 d;rw[U]at HC HB⊢;rw[F]at HC HA⊢;obtain⟨f,hf⟩:∃ f,f=1000000000/(b1+1):=⟨_,rfl⟩;rw[<-hf]at d;obtain⟨L,hL⟩:∃ L,L=nl m:=⟨_,rfl⟩;rw[<-hL]at HC HA sa cd⊢;have co:(1000000000:Int)/((b1:Int)+1)=(f:Int):=by rw[hf];simp
 have cn:=d.pos;have v:=d.low;have z:=Lib.hid d;have HL:=Lib.hid hL;have HF:=Lib.hid hf;have cl:decide (s<0)=false:=gV;have cm:(((k:Int)+2)==1)=false:=gV;clear hc Z ab hs U F d a7 hL hf hn
 go_enter func218,ntmps218
 go_wp2_with fail
 refine HC.out.mono ?_;rintro e w' ⟨rfl,q,rfl⟩
 go_upto_region 7 with fail
 have x2:Ext w ((w.drewN q).alloc (Obj.cells #[Value.int IntKind.u64 (f:Int)] 219)):=((Ext.refl w).drewN q).alloc _;have aq:C8 ((w.drewN q).alloc (Obj.cells #[Value.int IntKind.u64 (f:Int)] 219)) (.slice (some ⟨w.heap.size,0,none⟩) 1 1) f:=by
  refine⟨_,1,by rw[Ez oV v];rfl,by rw[Ez oV v];simp,?_⟩;rw[Ez oV v];exact Akq (w.drewN q) f
 have a8:((w.drewN q).alloc (Obj.cells #[Value.int IntKind.u64 (f:Int)] 219)).cell? ⟨w.heap.size,0,none⟩=some (.int .u64 (f:Int)):=World.cell?_alloc_new (w:=w.drewN q) _ _ _;generalize (w.drewN q).alloc (Obj.cells #[Value.int IntKind.u64 (f:Int)] 219)=W2 at *
 have X2:=Lib.hid x2;have ad:=Lib.hid aq;have bs:=Lib.hid a8;clear x2 aq a8 HC
 go_cut [9,10] (Adc W2 W2.heap.size (L+1) (n*f))
 case first =>
  have cr:=fun W:World=>Wr W ((L:Int)+1) (L+1) oV oV;have V:=fun (W:World) (x:Ext W2 W)=>T8 _ _ n f W (HB.out.ext (X2.out.trans x)) (ad.out.ext x) (by rw[z.out.len];omega) (by unfold nl;rw[Ez oV v];simp);have HM:=Lib.hid V;clear V;have ct:IntKind.i64.wrap ((L:Int)+1)=(L:Int)+1:=IntWalk.i64_in _ oV
  go_region_with (first|(go_at_call 198;refine (HM.out _ ?_).mono ?_;(first|exact (Ext.refl _).drew|exact ((Ext.refl _).alloc _).drew|exact ((Ext.refl _).drew).alloc _);rintro e w3 ⟨kk,cap,rfl,hv,D⟩))
  all_goals (try go_wp2_with fail)
  all_goals go_meet
  ·exact Ayx oV hv D
  exact Ayq oV (A51 P.out oV) hv D
 case rest =>
  obtain⟨g,av,nv,cv,rfl,rfl,b2,Y,bk,D,hg⟩:=hcut;rw[z.out.vlen]at b2;subst b2;have HO:=Lib.hid Y;have HV:=Lib.hid bk;have HX:=Lib.hid D;clear Y bk D
  go_wp2_with fail
  refine (T8 _ _ m f _ (HA.out.ext (X2.out.trans HX.out)) (ad.out.ext HX.out) (by rw[<-HL.out];omega) (by unfold nl;rw[Ez oV v];simp)).mono ?_;rintro e w3 ⟨kk,cap,rfl,hv,D⟩;obtain⟨au,cu,e1,_,ba⟩:=hv;simp only[Value.slice.injEq]at e1;obtain⟨rfl,e2,rfl⟩:=e1;have az:(Aa (m*f)).length<=L+1:=by
   have h1:=G7 m f;have h2:nl f<=1:=by unfold nl;rw[Ez oV v];simp
   rw[<-HL.out]at h1;unfold nl at h1 h2;omega
  have b3:=Wm HO.out D;have af:=Lib.hid b3;have a4:=Lib.hid D;have bt:=Lib.hid az;have br:=Lib.hid e2;have Q:=Lib.hid ba;clear b3 D az e2 ba;obtain⟨M,hM⟩:∃ M,M=L+1-(k+2):=⟨_,rfl⟩;have ao:L+1=M+(k+2):=oV;have ae:=Lib.hid hM;have h:=Lib.hid ao;have ci:M<=L:=oV;clear hM ao
  go_wp2_with (first
   |(with_reducible refine R7 rfl (.tmp 49) (.tmp 52) rfl W2.heap.size g (L+1) kk _ ⟨wc.heap.size,0,none⟩ (Aa (m*f)) rfl rfl af.out br.out.symm oV bt.out Q.out ?_;intro w4 b4 ar;have a2:=Lib.hid b4;have a0:=Lib.hid ar;clear b4 ar;have X4:=Lib.hid ((HX.out.trans a4.out).grown a0.out (fun k' A=>by cases A;exact hg));have a3:=Lib.hid ((HV.out.ext a4.out).grown a0.out))
   |(at_make;refine wpList_make_full _ rfl _ _ 116 rfl W2.heap.size 219 i0 (.int .u64 0) 1 Tryz.underlying116 HI.out c4.out c5.out .i64 .i64 _ _ M rfl rfl (by have:=ae.out;omega) (by have:=ae.out;omega) (by rw[c6.out];omega) (by unfold maxLen;omega) X4.out.size ?_;intro w5 aa aw;rw[Lp]at aa;have ag:=Lib.hid aa;have X5:Hid (Ext w4 w5):=(Ext.refl w4).grown aw (fun k' A=>by cases A);clear aa aw))
  have ay:g≠w4.heap.size:=by have:=Atz a2.out;omega
  have O:0<(A8 (Aa (n*f))).length:=by rw[Us];have:=z.out.vlen;unfold nl at this;omega
  have al:=Lib.hid (a3.out.ext X5.out);have ah:=Lib.hid (a3.out.new O X5.out);have ak:=Lib.hid (Wm a2.out X5.out);have an:=Lib.hid (X4.out.trans X5.out);generalize w4.heap.size=gq at *
  clear HO HV af a4 Q a3 a2 a0 X4 X5 O
  go_loopw [12] (Ay0 W2 (m*f) (n*f) (k+2) M (L+1) g gq av) (fun i _=>(intOf i+1).toNat)
  case atStart =>
   have bg:=ak.out;rw[show L+1-(Aa (m*f)).length=M+(k+2)-nl (m*f) by unfold nl;have:=h.out;omega]at bg;exact⟨M,_,_,A08 _,rfl,Ou.start z.out (by rw[<-HL.out];exact h.out),bg,ag.out,al.out,ah.out,an.out⟩
  case round =>
   obtain⟨j,u,qs,hj,rfl,be,b6,b5,bl,bj,D⟩:=hrel;have C:=Lib.hid be;have HU:=Lib.hid b6;have HQ:=Lib.hid b5;have R:=Lib.hid bl;have am:=Lib.hid bj;have a6:=Lib.hid D;clear be b6 b5 bl bj D al ah ak an ag;rcases j with _|j
   ·have t:=C.out.done (A51 P.out oV);rw[(Agz (m:=m) (n:=n) (show 0<f by omega)).1,(Agz (m:=m) (n:=n) (show 0<f by omega)).2]at t;have K:u.length=L+1:=by rw[C.out.ulen];exact h.out.symm
    have J:=Row.of_owns HU.out;have I:=Row.of_owns HQ.out;have a8:=a6.out.cell bs.out;have bh:val (u.take (k+2))=(m%n)*f:=by
     rw[<-t.2];have:=Ic (u:=u) (j:=0) (k:=k+2) (fun i hi=>C.out.zero i hi);simpa using this
    have c2:=Lib.hid bh;have bq:=Lib.hid t;have Q:=Lib.hid J;have aj:=Lib.hid I;have c1:=Lib.hid K;clear t K J I bh;have ac:Row wr (some ⟨g,0,none⟩) (A8 (u.take (k+2))):=by rw[<-Aba];exact Q.out.take _
    have H:(u.take (k+2)).length=k+2:=by rw[A1e,c1.out];have:=h.out;omega
    obtain⟨X,hX⟩:∃ X,X=Value.slice (some ⟨g,0,none⟩) (Bz (u.take (k+2)) (u.take (k+2)).length) (L+1):=⟨_,rfl⟩;have ap:C8 wr X ((m%n)*f):=by
     rw[hX];exact D3 (C.out.ulow.take _) ac c2.out (by rw[H];have:=h.out;omega)
    have bf:∀ W,Ext wr W->Calls prog 189 #[.slice (some ⟨g,0,none⟩) (k+2) (L+1)] W fun e w'=>e=.returned X/\W=w':=fun W x=>by
     rw[hX];exact G5 _ _ _ _ W H oV (by have:=h.out;omega) (ac.ext x)
    have b0:nl ((m%n)*f)<=10000000000000:=by
     have h1:=G7 (m%n) f;have h2:nl f<=1:=by unfold nl;rw[Ez oV v];simp
     have h3:nl (m%n)<=nl m:=C4 (Nat.mod_le _ _);rw[<-HL.out]at h3;omega
    have bd:∀ W,Ext wr W->Calls prog 244 #[X,.int .u64 f] W (P8 W (m%n) 0):=fun W x=>by
     have:=Su X ((m%n)*f) f W (ap.ext x) b0 oV v;rw[Nat.mul_div_cancel _ oV,Nat.mul_mod_left]at this;exact this
    have bz:=Lib.hid bf;have bw:=Lib.hid bd;clear bf bd hX ac H ap b0;have c7:M<=9223372036854775807:=oV;have cg:HQ=HQ:=rfl;clear cg
    go_wp2_with fail
    go_region_with (first
     |(go_at_call 189;refine (bz.out _ ?_).mono ?_;(exact (Ext.refl _).drew);rintro e w7 ⟨rfl,rfl⟩)
     |(go_at_call 244;refine (bw.out _ ?_).mono ?_;(exact (Ext.refl _).drew);rintro e w7 ⟨v7,rfl,bi,bm⟩))
    all_goals
     have c3:=Lib.hid bi;have a5:Hid (Ext wr w7):=((Ext.refl wr).drew).trans bm;clear bi bm
     go_wp2_with fail
     refine (G5 _ _ _ qs _ C.out.qlen c7 (A08 _) (aj.out.ext a5.out)).mono ?_;rintro e w8 ⟨rfl,rfl⟩
     go_wp2_with fail
     go_ret2
     have ce:=D3 (cap:=M) C.out.qlow (aj.out.ext a5.out) (n:=m/n) bq.out.1 (by rw[C.out.qlen];exact A08 _);exact⟨_,_,rfl,ce,c3.out,(X2.out.trans a6.out).trans a5.out⟩
   rw[show ((j+1:Nat):Int)-1=j by omega];have K:u.length=L+1:=by rw[C.out.ulen];exact h.out.symm
   have E:=C.out.before (show j<M by omega);have b9:val ((u.drop j).take (k+2+1))/(n*f)<1000000000:=by
    rw[A3b (A51 P.out oV)];exact E
   have B:=Aoi W2.heap.size g (L+1) j k (L+1-j) av cv u (Aa (n*f)) wr HU.out R.out K C.out.ulow (Ao _) z.out.vlen (by have:=h.out;omega) oV (by have:=h.out;omega) z.out.vtop (by rw[Am];exact E);rw[Am]at B;obtain⟨qd,b8⟩:∃ qd,qd=val ((u.drop j).take (k+2+1))/(n*f):=⟨_,rfl⟩;have ai:=Lib.hid b8;have bx:=Lib.hid B;have cc:=h.out;have cq:j+(k+2)+1<=L+1:=oV;have c9:j<M:=oV;have ck:L+1≠j:=oV;clear b8 B E K cc
   go_wp2_with fail
   rw[show j+(k+2)+1-j=k+3 by omega];refine bx.out.mono ?_;rintro e w6 ⟨o,rfl,bc,b7,a9⟩;rw[<-ai.out];have T:=Y9 HQ.out a9 ay.symm;have cj:=Hk T (j:=j) (by rw[C.out.qlen];omega);have cp:=T.frozenAt j;have bu:=Lib.hid T;have c0:=Lib.hid b7;have a1:=Lib.hid a9;have bv:=Lib.hid bc;clear T b7 a9 bc
   go_wp2_with fail
   have y:=Mr j qd bu.out (Xl w6 (some gq));refine⟨⟨j,o,qs.set j qd,oV,rfl,?_,Y9 c0.out y.2 ay,y.1,?_,?_,?_⟩,by simp only[intOf];omega⟩
   ·rw[ai.out];exact C.out.step c9 (A51 P.out oV) (by have:=Dd (n*f);rw[z.out.vlen]at this;exact this) bv.out b9
   ·refine⟨?_,R.out.2⟩;exact (Gp.grown ⟨(R.out.grown a1.out).1,am.out.2⟩ y.2).1
   ·exact Gp.grown ⟨(R.out.grown a1.out).1,am.out.2⟩ y.2
   have x6:=a6.out.grown a1.out (fun k' A=>by cases A;exact hg);exact x6.grown y.2 (fun k' A=>by cases A;exact (Qt HQ.out).2)
def Zo (a d:Value)(m n:Nat)(w:World)(f:C8 w a m)(j:C8 w d n)(y:nl m<=5000000000000)(sb:nl n<=5000000000000)(v:0<n) :
 Calls prog 218 #[a,d] w (V6 w (m/n) (m%n)):=by
 rcases A2e m n with h|h
 ·rw[A49 h,A5i h];exact Aft a d m n w f j oV oV h
 rcases A2e n 1000000000 with q|q
 ·exact Adh a d m n w f j oV v q h
 have z:2<=nl n:=by
  rcases A2e (nl n) 2 with t|t
  ·have A:=Dd n;have u:1000000000^nl n<=1000000000^1:=A10 oV oV;rw[Nat.pow_one]at u;omega
  exact t
 exact Aey a d m n (nl n-2) w f j y oV h
end
section
variable {n:Nat}
def Anx (h:nl n<=2):n=(Aa n).getD 1 0*1000000000+(Aa n).getD 0 0:=by
 have a:=Abx (Aa n) 0;rw[A1j (show (Aa n).length<=0+2 from h),Am]at a;simp only[A53,val,A8j,A3i,A2w]at a;omega
set_option maxRecDepth 100000 in
def Acw (q:Value)(n:Nat)(w:World)(B:C8 w q n)(h:nl n<=2) :
 Calls prog 210 #[q] w fun e w'=>e=.returned (.int .u64 (n:Int))/\w=w':=by
 have d:=Anx h;obtain⟨a,c,rfl,_,j⟩:=B;have f:=Wn a c (Aa n) 1 w (by unfold nl at h;omega) oV j;have g:=Wn a c (Aa n) 0 w (by unfold nl at h;omega) oV j;rw[show (1:Int).toNat=1 by rfl]at f;rw[show (0:Int).toNat=0 by rfl]at g;have A:=(Ao n).getD 1;have z:=(Ao n).getD 0;obtain⟨x,k⟩:∃ x,x=(Aa n).getD 1 0:=⟨_,rfl⟩;obtain⟨y,m⟩:∃ y,y=(Aa n).getD 0 0:=⟨_,rfl⟩;rw[<-k]at f A d;rw[<-m]at g z d;have u:=Lib.hid f;have v:=Lib.hid g;have t:=Lib.hid d;clear f g d k m j
 go_enter func210,ntmps210
 go_wp2_with fail
 refine u.out.mono ?_;rintro e w' ⟨rfl,rfl⟩
 go_wp2_with fail
 refine v.out.mono ?_;rintro e w' ⟨rfl,rfl⟩
 go_wp2_with fail
 go_ret
 exact⟨Atm (by have:=t.out;omega),rfl⟩
def Abf (h:nl n<=2):n<1000000000000000000:=by
 have d:=Dd n;have a:1000000000^nl n<=1000000000^2:=A10 oV h;rw[show (1000000000:Nat)^2=1000000000000000000 by rfl]at a;omega
def Wl (m n:Nat):Nat.gcd n (m%n)=Nat.gcd m n:=by rw[A9a m n,Nat.gcd_rec n m,A9a]
end
section
variable {b:Bool}{g n:Nat}{s:Value}{t:TypeId}{w:World}
def St (w:World)(v:Value)(z:Int):Prop:=∃ a n c,v=.agg #[.bool (decide (z<0)),.slice a n c]/\C8 w (.slice a n c) z.natAbs
def Ac0 (w:World)(z:Int)(e:Ending)(w':World):Prop:=∃ v,e=.returned v/\St w' v z/\Ext w w'
def Cd (neg:Bool)(n:Nat):Int:=if neg then -(n:Int) else n
def K5 (neg:Bool)(n:Nat):(Cd neg n).natAbs=n:=by unfold Cd;split<;>omega
def Wd (neg:Bool)(n:Nat):decide (Cd neg n<0)=(neg&&decide (0<n)):=by
 unfold Cd;cases neg<;>simp<;>omega
def Uc (z:Int):Cd (decide (z<0)) z.natAbs=z:=by
 unfold Cd;by_cases h:z<0<;>simp[h]<;>omega
def Ab7 {b neg:Bool}(e:b=(neg&&decide (0<n)))(d:C8 w s n):St w (.agg #[.bool b,s]) (Cd neg n):=by
 obtain⟨a,c,rfl,f⟩:=id d;exact⟨a,_,c,by rw[Wd,e],by rw[K5];exact d⟩
def Aty {z:Int}(e:b=decide (z<0))(d:C8 w s z.natAbs):St w (.agg #[.bool b,s]) z:=by
 obtain⟨a,c,rfl,f⟩:=id d;exact⟨a,_,c,by rw[e],d⟩
def Df :0<(Aa n).length↔0<n:=by
 constructor
 ·intro h;rcases A2a n with h0|h0
  ·rw[h0,A7]at h;simp at h
  exact h0
 intro h;exact A4f.2 (fun e=>by have:=Hj.1 e;omega)
def Pm (w:World)(a:Addr)(v:Value):w.grownBy (w.setCell a v) (some a.block) :=
 ⟨rfl,rfl,rfl,by simp[World.setCell],fun k _ d=>Below.heap_setCell _ _ _ _ (fun e=>d (by rw[e]))⟩
def Aqw (w:World)(g:Nat):Prop:=∃ (cs:Array Value) (t:TypeId) (fr:Nat×Nat),w.heap[g]?=some (.cells cs t fr)/\∀ (j:Nat) (k:IntKind) (z:Int),cs[j]?≠some (Value.int k z)
def C8.grown {w w':World}(h:C8 w s n)(A:Aqw w g)(B:w.grownBy w' (some g)):C8 w' s n:=by
 obtain⟨a,c,v,y,z⟩:=h;refine⟨a,c,v,y,fun j q=>?_⟩;obtain⟨b,off,u,d⟩:=z j q;refine⟨b,off,u,B.cell d ?_⟩;simp only[ne_eq,A1f];intro e;obtain⟨cs,t,fr,m,k⟩:=A;rw[<-e]at m;rw[cell_of_row _ _ _ _ _ _ m]at d;have f:j<(Aa n).length:=by simpa using q
 refine k _ .u64 ((Aa n).getD j 0:Nat) (d.trans ?_);simp[A8,f]
def Asg {e f a d:Value}(h:w.heap[g]?=some (.cells #[e,f] t (0,0))) :
 ((w.setCell ⟨g,0,none⟩ a).setCell ⟨g,1,none⟩ d).heap[g]?=some (.cells #[a,d] t (0,0)):=by
 rw[heap_setCell_same _ _ _ _ _ _ (heap_setCell_same _ _ _ _ _ _ h)];rfl
def Aza (w:World)(g:Nat)(a d:Value):w.grownBy ((w.setCell ⟨g,0,none⟩ a).setCell ⟨g,1,none⟩ d) (some g) :=
 Uy (Pm _ _ _) (Pm _ _ _)
def A0h {a w:World}(h:Ext a w)(d:a.heap.size<=g)(e f:Value):Ext a ((w.setCell ⟨g,0,none⟩ e).setCell ⟨g,1,none⟩ f) :=
 (h.setCell (p:=⟨g,0,none⟩) d e).setCell (p:=⟨g,1,none⟩) d f
def Awa {a:Option Addr}{n c:Nat}(h:w.heap[g]?=some (.cells #[.bool b,.slice a n c] t (0,0))):Aqw w g:=by
 refine⟨_,_,_,h,fun j k z e=>?_⟩
 match j with
 |0=>simp at e
 |1=>simp at e
 |j+2=>simp at e
def Tryz.size118:(prog.info? 118).map (·.size)=some 2:=kV
def Ac5 {fn:Func}{p:Tmp}{R:Ending->World->Prop}{a:Act}{w:World}{g:Nat}{d e:Value}(h:fn.results = #[.cell p 118])
 (hp:a.tmps.getD p undef=.pointer (some ⟨g,0,none⟩)) (k:w.heap[g]?=some (.cells #[d,e] 118 (0,0))) (j:a.defers = []) (f:R (.returned (.agg #[d,e])) w) :
 bodyPost prog fn R .ret a w :=
 ⟨j,_,results_cell_row h a.tmps w g _ _ _ _ hp k Tryz.underlying118 rfl Tryz.size118,f⟩
set_option maxRecDepth 100000 in
def Aji (neg:Bool)(s:Value)(n:Nat)(w:World)(h:C8 w s n)(f:nl n<=100000000000000) :
 Calls prog 188 #[.bool neg,s] w (Ac0 w (Cd neg n)):=by
 have H:=Lib.hid h;obtain⟨a,c,rfl,_,_⟩:=h;have j:(Aa n).length<=100000000000000:=f;by_cases hp:0<(Aa n).length
 ·have e:decide (0<((Aa n).length:Int))=true:=gV;have d:=Df.1 hp;cases neg
  ·go_enter func188,ntmps188
   go_wp2_with fail
   refine bodyPost_ret (v:=.agg #[.bool false,.slice a (Aa n).length c]) (by simp[results,Tryz.results188,go_sem]) rfl ⟨_,rfl,Ab7 rfl (H.out.ext ((Ext.refl w).alloc _)),(Ext.refl w).alloc _⟩
  go_enter func188,ntmps188
  go_wp2_with fail
  refine bodyPost_ret (v:=.agg #[.bool true,.slice a (Aa n).length c]) (by simp[results,Tryz.results188,go_sem]) rfl ⟨_,rfl,Ab7 (by simp[d]) (H.out.ext ((Ext.refl w).alloc _)),(Ext.refl w).alloc _⟩
 have e:decide (0<((Aa n).length:Int))=false:=by simp only[decide_eq_false_iff_not];omega
 have d:¬ 0<n:=fun h=>hp (Df.2 h);cases neg
 ·go_enter func188,ntmps188
  go_wp2_with fail
  refine bodyPost_ret (v:=.agg #[.bool false,.slice a (Aa n).length c]) (by simp[results,Tryz.results188,go_sem]) rfl ⟨_,rfl,Ab7 rfl (H.out.ext ((Ext.refl w).alloc _)),(Ext.refl w).alloc _⟩
 go_enter func188,ntmps188
 go_wp2_with fail
 refine bodyPost_ret (v:=.agg #[.bool false,.slice a (Aa n).length c]) (by simp[results,Tryz.results188,go_sem]) rfl ⟨_,rfl,Ab7 (by simp[d]) (H.out.ext ((Ext.refl w).alloc _)),(Ext.refl w).alloc _⟩
end
section
variable {g:Nat}{t:TypeId}{w:World}{y z:Int}
def Auo {x y:Value}(h:w.heap[g]?=some (.cells #[x,y] t (0,0))):w.cell? ⟨g,0,none⟩=some x:=by rw[cell_of_row _ _ _ _ _ _ h];rfl
def As2 {x y:Value}(h:w.heap[g]?=some (.cells #[x,y] t (0,0))):w.cell? ⟨g,1,none⟩=some y:=by rw[cell_of_row _ _ _ _ _ _ h];rfl
def Adx (y z:Int):Cd (!(decide (y<0)==decide (z<0))) (y.natAbs*z.natAbs)=y*z:=by
 unfold Cd;have e:((y.natAbs*z.natAbs:Nat):Int)=(y.natAbs:Int)*z.natAbs:=A4d _ _;rw[e];by_cases a:y<0<;>by_cases d:z<0<;>simp[a,d]
 ·rw[show (y.natAbs:Int) = -y by omega,show (z.natAbs:Int) = -z by omega,Int.neg_mul_neg]
 ·rw[show (y.natAbs:Int) = -y by omega,show (z.natAbs:Int)=z by omega,A8u,Ba1]
 ·rw[show (y.natAbs:Int)=y by omega,show (z.natAbs:Int) = -z by omega,A9n,Ba1]
 rw[show (y.natAbs:Int)=y by omega,show (z.natAbs:Int)=z by omega]
def Afl (a:decide (y<0)=decide (z<0)):Cd (decide (y<0)) (y.natAbs+z.natAbs)=y+z:=by
 unfold Cd;by_cases d:y<0<;>by_cases e:z<0<;>simp[d,e]at a⊢<;>omega
def Zx (a:decide (y<0)≠decide (z<0))(h:z.natAbs<=y.natAbs):Cd (decide (y<0)) (y.natAbs-z.natAbs)=y+z:=by
 unfold Cd;by_cases d:y<0<;>by_cases e:z<0<;>simp[d,e]at a⊢<;>omega
def Aag (a:decide (y<0)≠decide (z<0))(h:y.natAbs<z.natAbs):Cd (decide (z<0)) (z.natAbs-y.natAbs)=y+z:=by
 unfold Cd;by_cases d:y<0<;>by_cases e:z<0<;>simp[d,e]at a⊢<;>omega
end
section
variable {y z:Int}
def Adb {y z q r:Int}(h:y=z*q+r)(h0:0<=r)(g:r<z.natAbs):y/z=q/\y%z=r:=by
 have d:z≠0:=by intro e;subst e;simp at g;omega
 have a:y%z=r:=by
  rw[h,Int.add_comm,Int.add_mul_emod_self_left];rcases Bac d with j|j
  ·rw[<-Int.emod_neg];exact Int.emod_eq_of_lt h0 oV
  exact Int.emod_eq_of_lt h0 oV
 refine⟨?_,a⟩;have:=A9q y z;rw[a,h]at this;have f:z*((z*q+r)/z)=z*q:=oV;rw[h];exact Int.eq_of_mul_eq_mul_left d f
def Zp (d:¬ y<0)(g:z≠0):Cd (!(decide (y<0)==decide (z<0))) (y.natAbs/z.natAbs)=y/z/\Cd false (y.natAbs%z.natAbs)=y%z:=by
 have e:=A3h y.natAbs z.natAbs;have f:=A29 y.natAbs (show 0<z.natAbs by omega);generalize y.natAbs/z.natAbs=q at *
 generalize y.natAbs%z.natAbs=r at *
 have a:(z.natAbs:Int)*q+r=y.natAbs:=by rw[<-e];simp
 have:=Adb (y:=y) (z:=z) (q:=Cd (!(decide (y<0)==decide (z<0))) q) (r:=(r:Int)) (by
  unfold Cd;by_cases h:z<0
  ·rw[show (!(decide (y<0)==decide (z<0)))=true by simp[d,h],if_pos rfl,A9n];rw[show (z.natAbs:Int) = -z by omega,A8u]at a;omega
  rw[show (!(decide (y<0)==decide (z<0)))=false by simp[d,h],if_neg mV];rw[show (z.natAbs:Int)=z by omega]at a;omega) oV oV
 exact⟨this.1.symm,by rw[this.2];rfl⟩
def Zm (e:y<0)(g:z≠0)(f:y.natAbs%z.natAbs=0):Cd (!(decide (y<0)==decide (z<0))) (y.natAbs/z.natAbs)=y/z/\Cd false (y.natAbs%z.natAbs)=y%z:=by
 have d:=A3h y.natAbs z.natAbs;rw[f]at d⊢;generalize y.natAbs/z.natAbs=q at *
 have a:(z.natAbs:Int)*q=y.natAbs:=by rw[<-d];simp
 have:=Adb (y:=y) (z:=z) (q:=Cd (!(decide (y<0)==decide (z<0))) q) (r:=0) (by
  unfold Cd;by_cases h:z<0
  ·rw[show (!(decide (y<0)==decide (z<0)))=false by simp[e,h],if_neg mV];rw[show (z.natAbs:Int) = -z by omega,A8u]at a;omega
  rw[show (!(decide (y<0)==decide (z<0)))=true by simp[e,h],if_pos rfl,A9n];rw[show (z.natAbs:Int)=z by omega]at a;omega) oV oV
 exact⟨this.1.symm,by rw[this.2];rfl⟩
def Adq (d:y<0)(j:z≠0)(g:0<y.natAbs%z.natAbs):Cd (!(decide (y<0)==decide (z<0))) (y.natAbs/z.natAbs+1)=y/z/\Cd false (z.natAbs-y.natAbs%z.natAbs)=y%z:=by
 have e:=A3h y.natAbs z.natAbs;have f:=A29 y.natAbs (show 0<z.natAbs by omega);generalize y.natAbs/z.natAbs=q at *
 generalize y.natAbs%z.natAbs=r at *
 have a:(z.natAbs:Int)*q+r=y.natAbs:=by rw[<-e];simp
 have:=Adb (y:=y) (z:=z) (q:=Cd (!(decide (y<0)==decide (z<0))) (q+1)) (r:=((z.natAbs-r:Nat):Int)) (by
  unfold Cd;by_cases h:z<0
  ·rw[show (!(decide (y<0)==decide (z<0)))=false by simp[d,h],if_neg mV];rw[show (z.natAbs:Int) = -z by omega,A8u]at a;rw[Int.natCast_add,Int.mul_add];omega
  rw[show (!(decide (y<0)==decide (z<0)))=true by simp[d,h],if_pos rfl];rw[show (z.natAbs:Int)=z by omega]at a;rw[A9n,Int.natCast_add,Int.mul_add];omega) oV oV
 exact⟨this.1.symm,by rw[this.2];rfl⟩
end
section
variable {n:Int}
def Ag6 (h:n<0)(a:-9223372036854775808<=n):IntKind.u64.wrap (-(IntKind.u64.wrap n))=((n.natAbs:Nat):Int):=by
 have e:∀ n:Int,IntKind.u64.wrap n=n%18446744073709551616:=fun n=>by simp[IntKind.wrap,IntKind.signed,IntKind.bits]
 rw[e,e];omega
def Ahs (h:0<=n)(a:n<=9223372036854775807):IntKind.u64.wrap n=((n.natAbs:Nat):Int):=by
 have e:∀ n:Int,IntKind.u64.wrap n=n%18446744073709551616:=fun n=>by simp[IntKind.wrap,IntKind.signed,IntKind.bits]
 rw[e];omega
end
def Tm:nl 1<=1:=by unfold nl;rw[Ez oV oV];simp
def U0 {d:Nat}:(sgn ((d:Int)-1)==0)=decide (d=1):=by
 rcases A4q ((d:Int)-1) 0 with h|h|h
 ·rw[Ep h,decide_eq_false oV];rfl
 ·rw[h,Ra,decide_eq_true oV];rfl
 rw[C5 h,decide_eq_false oV];rfl
section
variable {y z:Int}
theorem Oz (y z:Int):Rat.divInt (-y) (-z)=Rat.divInt y z:=by
 rw[A37,A37,Rat.intCast_neg,Rat.intCast_neg];by_cases h:(z:Rat)=0
 ·rw[h];simp[Rat.div_def]
 have:-(z:Rat)≠0:=by grind
 grind
def Wj (d:0<z)(a:Nat.gcd y.natAbs z.natAbs=1):(Rat.divInt y z).num=y/\(Rat.divInt y z).den=z.natAbs:=by
 have e:(z:Int)=((z.natAbs:Nat):Int):=oV
 rw[e,A75,Rat.mkRat_def,dif_neg oV,Rat.normalize_eq];simp only[A1s,a];simp
def W5 {G:Nat}(d:0<z)(a:G=Nat.gcd y.natAbs z.natAbs):(Rat.divInt y z).num=y/G/\(Rat.divInt y z).den=z.natAbs/G:=by
 have e:(z:Int)=((z.natAbs:Nat):Int):=oV
 rw[e,A75,Rat.mkRat_def,dif_neg oV,Rat.normalize_eq];subst a;constructor<;>simp
end
def Sz (q:Rat)(k:Nat):Prop:=nl q.num.natAbs<=k/\nl q.den<=k
def Amr {q r:Rat}(a:q.den=1)(d:r.den=1):((q.num*r.num:Int):Rat)=q*r:=by
 rw[Rat.mul_def',a,d,A3i,Rat.mkRat_one]
def Ac8 (q r:Rat):Rat.divInt (q.num*r.num) ((q.den:Int)*(r.den:Int))=q*r:=by
 rw[Rat.mul_def',<-A75,A4d]
def Bx {y z:Int}{k:Nat}(a:nl y.natAbs<=k)(d:nl z.natAbs<=k):nl (y*z).natAbs<=2*k:=by
 rw[A26];have:=G7 y.natAbs z.natAbs;omega
def Ams {q r:Rat}(a:q.den=1)(d:r.den=1):((q.num+r.num:Int):Rat)=q+r:=by
 rw[Rat.add_def',a,d,A3i,Rat.mkRat_one];simp
def Rq (q r:Rat):Rat.divInt (q.num*(r.den:Int)+r.num*(q.den:Int)) ((q.den:Int)*(r.den:Int))=q+r:=by
 rw[Rat.add_def',<-A75,A4d]
def Sb {y z:Int}{k:Nat}(a:nl y.natAbs<=k)(d:nl z.natAbs<=k):nl (y+z).natAbs<=k+1:=by
 have:=Asl y.natAbs z.natAbs;have e:nl (y+z).natAbs<=nl (y.natAbs+z.natAbs):=C4 oV;omega
def Yl (q r:Rat):(q.den:Int)*(r.den:Int)≠0:=by
 have a:=q.den_nz;have d:=r.den_nz;exact Int.mul_ne_zero oV oV
end Go.Proofs.YtnjlhkppabfebaaGreatDoor
