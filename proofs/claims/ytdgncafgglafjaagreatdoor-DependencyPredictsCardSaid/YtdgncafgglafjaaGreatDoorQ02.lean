/- Parts of one proof, joined by a program. -/
import Derived.Test.YtdgncafgglafjaaGreatDoorQ01
import Derived.Deep.LoopGhost
import Derived.WalkKit
import Derived.Lib.Hide
import Derived.Test.YtdgncafgglafjaaGreatDoorProg
import Derived.KernelRfl
import Derived.Deep.QuietTactic
import Derived.BigQuiet
import Derived.RegionTactic
import Derived.ChangeAlike
import Derived.Outline
import Derived.Deep.RegionWith
import Derived.Deep.DeepCutAuto
import Derived.Laws.CopyOwn
import Derived.Deep.RegionHeld3
set_option linter.defProp false
set_option linter.unusedVariables false
set_option linter.unusedSimpArgs false
set_option linter.unusedSectionVars false
set_option maxHeartbeats 16000000
namespace Go.Proofs.YtdgncafgglafjaaGreatDoor
open Go.Proofs.Tryz
open Go.RowKit
def A5a:=@List.cons_append
def A1w:=@Nat.pow_succ
def A1z:=@Nat.mul_add
def A1o:=@Nat.mul_assoc
def A1r:=@Nat.mul_comm
def A21:=@Nat.add_assoc
def A66:=@List.eq_of_mem_replicate
def A0j:=@List.getD_eq_getElem?_getD
def A0i:=@List.getElem?_eq_getElem
def A0y:=@List.getElem_mem
def A1k:=@List.getElem?_eq_none
def A19:=@Nat.mul_le_mul_left
def A8e:=@List.replicate_succ
def A00:=@List.take_of_length_le
def A5h:=@Nat.add_sub_cancel
def A4o:=@List.length_pos_iff
def A05:=@List.take_length
def A2o:=@Nat.div_lt_iff_lt_mul
def A2i:=@Nat.lt_of_le_of_lt
def A1h:=@Nat.pow_le_pow_right
def A4k:=@Nat.pow_add
def A2e:=@Nat.zero_add
def A10:=@List.map_set
def A37:=@List.map_take
def A58:=@Int.eq_ofNat_of_zero_le
def A2r:=@Int.toNat_natCast
def A4b:=@Int.lt_trichotomy
def A1p:=@Nat.eq_zero_or_pos
def A29:=@Nat.mul_zero
def A78:=@Nat.le_antisymm
def A5u:=@Nat.mul_one
def A4g:=@List.take_append_drop
def A4y:=@List.drop_eq_getElem_cons
def A2s:=@List.set_cons_succ
def A4p:=@List.getD_cons_succ
def A8s:=@List.mem_or_eq_of_mem_set
def A2p:=@Nat.mul_le_mul
def A2l:=@Nat.mod_lt
def A1m:=@Nat.add_mul
def A5y:=@List.take_zero
def A1c:=@Nat.zero_le
def A1x:=@Nat.mul_le_mul_right
def A2u:=@Nat.div_add_mod
def A4v:=@List.drop_zero
def A86:=@Nat.mul_add_div
def A4i:=@Nat.div_eq_of_lt
def A52:=@Nat.mod_eq_of_lt
def A5l:=@List.set_append_right
def A4r:=@Nat.sub_self
def A2y:=@List.set_cons_zero
def A62:=@List.replicate_zero
def A1i:=@List.append_nil
def A11:=@List.drop_of_length_le
def A5q:=@Nat.lt_trichotomy
def A67:=@Nat.le_of_lt
def A3x:=@Int.natCast_mul
def A4h:=@Nat.le_div_iff_mul_le
def A63:=@Nat.div_mul_le_self
def A27:=@Nat.one_mul
def A6v:=@Nat.lt_of_mul_lt_mul_right
def A9w:=@List.drop_set
def A8x:=@Nat.add_comm
def A4m:=@List.ext_getElem?
def A8y:=@Nat.pow_zero
def A5i:=@List.set_set
def A6p:=@Nat.mul_lt_mul_of_pos_right
def A8t:=@Nat.lt_of_mul_lt_mul_left
def A03:=@List.length_append
def A2z:=@List.length_replicate
def A5e:=@Nat.mul_pos
def A8z:=@Nat.gcd_comm
def A8h:=@Int.neg_mul
def Ban:=@Int.neg_neg
def A9c:=@Int.mul_neg
def A95:=@Int.lt_or_gt_of_ne
def A9h:=@Int.mul_ediv_add_emod
def A8u:=@Int.eq_of_mul_eq_mul_left
def Bao:=@Int.mul_add
def A5b:=@Array.mk.injEq
def A1e:=@Int.natAbs_natCast
def A3l:=@Rat.divInt_eq_div
def A6e:=@Rat.intCast_neg
def A5v:=@Rat.div_def
def A7w:=@Rat.divInt_ofNat
def A1v:=@Rat.intCast_mul
def A6f:=@Rat.num_divInt_den
def A2t:=@Int.natAbs_mul
section
variable {B:List (Nat×Blk)}{T:List (Nat×SV)}
variable [Cj] [Dd] [Pu]
def Ajx (d:Nat):List (Nat×SV)->SV
 |[]=>.junk
 |(e,x)::l=>cond (Nat.beq d e) x (Ajx d l)
def Xt (d:Nat):List (Nat×Blk)->Option Blk
 |[]=>none
 |(e,x)::l=>cond (Nat.beq d e) (some x) (Xt d l)
def S.of (n:Nat)(T:List (Nat×SV))(B:List (Nat×Blk)):S:={ n:=n,tm:=fun d=>Ajx d T,hp:=fun k=>Xt k B }
def An1 (B:List (Nat×Blk)):SV->Bool
 |.p k _=>B.any fun q=>Nat.beq q.1 k
 |_=>true
def T3 (T:List (Nat×SV))(B:List (Nat×Blk)):Bool:=T.all (fun p=>An1 B p.2)&&B.all (fun q=>q.2.cells.all (An1 B))
structure Cov (N:Nat)(s:S)(T:List (Nat×SV))(B:List (Nat×Blk)):Prop where
 n:s.n=N
 t:T.map (fun p=>s.tm p.1)=T.map (·.2)
 b:B.map (fun p=>s.hp p.1)=B.map (fun p=>some p.2)
def S0 {d:Nat}{x:SV}:∀ {T:List (Nat×SV)},Ajx d T=x->x≠.junk->(d,x)∈T
 |[],h,hx=>absurd h.symm hx
 |(e,y)::l,h,hx=>by
  unfold Ajx at h;cases hb:Nat.beq d e with
  |true=>simp[hb]at h;have:=A1u hb;subst this;subst h;simp
  |false=>simp[hb]at h;exact A01 _ (S0 h hx)
def Ou {d:Nat}{x:Blk}:∀ {B:List (Nat×Blk)},Xt d B=some x->(d,x)∈B
 |[],h=>by cases h
 |(e,y)::l,h=>by
  unfold Xt at h;cases hb:Nat.beq d e with
  |true=>simp[hb]at h;have:=A1u hb;subst this;subst h;simp
  |false=>simp[hb]at h;exact A01 _ (Ou h)
def Mt {k:Nat}:∀ {B:List (Nat×Blk)},B.any (fun q=>Nat.beq q.1 k)=true->Xt k B≠none
 |[],h=>by simp at h
 |(e,y)::l,h=>by
  unfold Xt;cases hb:Nat.beq k e with
  |true=>simp
  |false =>
   simp only[cond_false];refine Mt ?_;simp only[List.any_cons,A33]at h;rcases h with h|h
   ·have:=A1u h;subst this;simp at hb
   exact h
def Avk {n:Nat}(h:T3 T B=true):Pb (S.of n T B):=by
 unfold T3 at h;simp only[A1b,A06]at h;refine⟨fun d k a e=>?_,fun j b k a f g=>?_⟩
 ·have:=h.1 _ (S0 e mV);exact Mt this
 have:=h.2 _ (Ou f) _ g;exact Mt this
def Rel.cov {c:Cx}{s:S}{u m:PH}{ρ:Nat->Nat}{a:Act}{w:World}(h:Rel c s u m ρ a w){N:Nat}(f:Cov N s T B)(D:T3 T B=true):Rel c (S.of N T B) u m ρ a w:=by
 have E:∀ d x,(d,x)∈T->s.tm d=x:=by
  intro d x g;have:=f.t;rw[List.map_inj_left]at this;exact this _ g
 have z:∀ d x,(d,x)∈B->s.hp d=some x:=by
  intro d x g;have:=f.b;rw[List.map_inj_left]at this;exact this _ g
 refine⟨h.sz.trans f.n,fun d A=>?_,h.df,fun k b e=>h.box k b (z k b (Ou e)),fun k j e C=>?_,Avk D,h.gd,h.gr⟩
 ·have:=E d _ (S0 rfl A);have y:=h.tm d (by rw[this];exact A);rw[this]at y;exact y
 have q:∀ k,(S.of N T B).hp k≠none->s.hp k≠none:=by
  intro k e;cases hq:Xt k B with
  |none=>exact absurd hq e
  |some b=>rw[z k b (Ou hq)];simp
 exact h.inj k j (q k e) (q j C)
def Aqm (st:List KI×S):Bool:=match st.1 with|.code (.loop _)::_=>true|_=>false
def Aow (st:List KI×S)(J:S->PH->PH->Prop)(T:List (Nat×SV))(B:List (Nat×Blk)):List KI×S:=match st.1 with
 |.code (.loop c)::k=>(.code c::.lp J::k,S.of st.2.n T B)
 |_=>st
def Awx:List KI->Option (S->PH->PH->Prop)
 |.lp J::_=>some J
 |_=>none
section rules
variable {P:Program} [A6 P] {fn:Func} {Post:Ca} {st:List KI×S} {u m:PH}
def G.back {J:S->PH->PH->Prop}(h:Awx (adv P st).1=some J)(d:J (adv P st).2 u m):G P fn Post st u m:=by
 refine G.stp ?_;generalize adv P st=st' at h d;obtain⟨g,s⟩:=st'
 match g,h with
 |.lp J'::k,h =>
  simp only[Awx,A0u]at h;subst h;exact⟨fun c ρ a w e f=>⟨s,u,m,ρ,f,d⟩⟩
def G.loop {ι:Type}(T:ι->List (Nat×SV))(B:ι->List (Nat×Blk))(j:ι->PH->PH->Prop)(μ:ι->Nat)(q:ι)(h:Aqm (adv P st)=true)(H:∀ i,T3 (T i) (B i)=true)(h0:Cov (adv P st).2.n (adv P st).2 (T q) (B q))(O:j q u m)
 (F:∀ (J:S->PH->PH->Prop) (i:ι),(∀ f t d g,Cov (adv P st).2.n t (T f) (B f)->PH.le u d->j f d g->μ f < μ i->J t d g)->∀ d g,PH.le u d->j i d g->G P fn Post (Aow (adv P st) J (T i) (B i)) d g):G P fn Post st u m:=by
 refine G.stp ?_;generalize adv P st=st' at h h0 F;obtain⟨R,s⟩:=st'
 match R,h with
 |.code (.loop x)::k,_ =>
  refine⟨?_⟩;intro c ρ a w y Q;show (Code.loop x).wp P (Ms P fn Post c k) a w;refine wp_loop_ghost (fun n a w=>∃ i d g E,Rel c (S.of s.n (T i) (B i)) d g E a w/\PH.le u d/\j i d g/\μ i=n) (μ q) ⟨q,u,m,ρ,Q.cov h0 (H q),PH.le_refl _,O,rfl⟩ ?_;rintro n a w ⟨i,d,g,E,K,L,N,rfl⟩;have:=(F (fun t d g=>∃ f,Cov s.n t (T f) (B f)/\PH.le u d/\j f d g/\μ f < μ i) i (fun f t d g z A C D=>⟨f,z,A,C,D⟩) d g L N).out c E a w y K;refine wp_mono this fun e a w I=>?_;cases e with
  |normal =>
   obtain⟨t,W,U,X,V,f,z,A,C,D⟩:=I;exact⟨_,D,f,W,U,X,V.cov z (H f),A,C,rfl⟩
  |_=>exact I
end rules
end
section
variable [Cj] [Pu] [Dd]
variable {P:Program} [A6 P] {fn:Func} {Post:Ca} {st:List KI×S} {u m:PH}
def cV {N:Nat}{s:S}{T:List (Nat×SV)}{B:List (Nat×Blk)}(a:s.n=N:=by kernel_rfl)(b:T.map (fun p=>s.tm p.1)=T.map (·.2):=by kernel_rfl)(c:B.map (fun p=>s.hp p.1)=B.map (fun p=>some p.2):=by kernel_rfl):Cov N s T B:=⟨a,b,c⟩
def G.c {f:Nat}{args:List Value}{R:Value->PH->Prop}(hc:∀ args w,(callFunc f args).run P w=.ok (.enter f args) w)(c:Fn0 P f args u R)(k:∀ v u',PH.le u u'->R v u'->G P fn Post (nx (adv P st) v) u' m)(h:Ak P (adv P st)=.call f args:=by kernel_rfl):G P fn Post st u m:=G.call0 f args h hc c k
def G.eT (x y:Int)(k:G P fn Post (nx (adv P st) (.bool true)) u m)(h:Ak P (adv P st)=.bin .eql (.int .i64 x) (.int .i64 y):=by kernel_rfl)(hb:x=y:=by omega):G P fn Post st u m:=G.eqlT x y h hb k
def G.eF (x y:Int)(k:G P fn Post (nx (adv P st) (.bool false)) u m)(h:Ak P (adv P st)=.bin .eql (.int .i64 x) (.int .i64 y):=by kernel_rfl)(hb:¬ (x=y):=by omega):G P fn Post st u m:=G.eqlF x y h hb k
def G.nT (x y:Int)(k:G P fn Post (nx (adv P st) (.bool true)) u m)(h:Ak P (adv P st)=.bin .neq (.int .i64 x) (.int .i64 y):=by kernel_rfl)(hb:x≠y:=by omega):G P fn Post st u m:=G.neqT x y h hb k
def G.nF (x y:Int)(k:G P fn Post (nx (adv P st) (.bool false)) u m)(h:Ak P (adv P st)=.bin .neq (.int .i64 x) (.int .i64 y):=by kernel_rfl)(hb:¬ (x≠y):=by omega):G P fn Post st u m:=G.neqF x y h hb k
def G.lT (x y:Int)(k:G P fn Post (nx (adv P st) (.bool true)) u m)(h:Ak P (adv P st)=.bin .lss (.int .i64 x) (.int .i64 y):=by kernel_rfl)(hb:x<y:=by omega):G P fn Post st u m:=G.lssT x y h hb k
def G.lF (x y:Int)(k:G P fn Post (nx (adv P st) (.bool false)) u m)(h:Ak P (adv P st)=.bin .lss (.int .i64 x) (.int .i64 y):=by kernel_rfl)(hb:¬ (x<y):=by omega):G P fn Post st u m:=G.lssF x y h hb k
def G.kT (x y:Int)(k:G P fn Post (nx (adv P st) (.bool true)) u m)(h:Ak P (adv P st)=.bin .leq (.int .i64 x) (.int .i64 y):=by kernel_rfl)(hb:x<=y:=by omega):G P fn Post st u m:=G.leqT x y h hb k
def G.kF (x y:Int)(k:G P fn Post (nx (adv P st) (.bool false)) u m)(h:Ak P (adv P st)=.bin .leq (.int .i64 x) (.int .i64 y):=by kernel_rfl)(hb:¬ (x<=y):=by omega):G P fn Post st u m:=G.leqF x y h hb k
def G.gT (x y:Int)(k:G P fn Post (nx (adv P st) (.bool true)) u m)(h:Ak P (adv P st)=.bin .gtr (.int .i64 x) (.int .i64 y):=by kernel_rfl)(hb:x>y:=by omega):G P fn Post st u m:=G.gtrT x y h hb k
def G.gF (x y:Int)(k:G P fn Post (nx (adv P st) (.bool false)) u m)(h:Ak P (adv P st)=.bin .gtr (.int .i64 x) (.int .i64 y):=by kernel_rfl)(hb:¬ (x>y):=by omega):G P fn Post st u m:=G.gtrF x y h hb k
def G.hT (x y:Int)(k:G P fn Post (nx (adv P st) (.bool true)) u m)(h:Ak P (adv P st)=.bin .geq (.int .i64 x) (.int .i64 y):=by kernel_rfl)(hb:x≥y:=by omega):G P fn Post st u m:=G.geqT x y h hb k
def G.hF (x y:Int)(k:G P fn Post (nx (adv P st) (.bool false)) u m)(h:Ak P (adv P st)=.bin .geq (.int .i64 x) (.int .i64 y):=by kernel_rfl)(hb:¬ (x≥y):=by omega):G P fn Post st u m:=G.geqF x y h hb k
def G.eT' (x y:Int)(hb:x=y)(k:G P fn Post (nx (adv P st) (.bool true)) u m)(h:Ak P (adv P st)=.bin .eql (.int .i64 x) (.int .i64 y):=by kernel_rfl):G P fn Post st u m:=G.eqlT x y h hb k
def G.eF' (x y:Int)(hb:¬ (x=y))(k:G P fn Post (nx (adv P st) (.bool false)) u m)(h:Ak P (adv P st)=.bin .eql (.int .i64 x) (.int .i64 y):=by kernel_rfl):G P fn Post st u m:=G.eqlF x y h hb k
def G.nT' (x y:Int)(hb:x≠y)(k:G P fn Post (nx (adv P st) (.bool true)) u m)(h:Ak P (adv P st)=.bin .neq (.int .i64 x) (.int .i64 y):=by kernel_rfl):G P fn Post st u m:=G.neqT x y h hb k
def G.nF' (x y:Int)(hb:¬ (x≠y))(k:G P fn Post (nx (adv P st) (.bool false)) u m)(h:Ak P (adv P st)=.bin .neq (.int .i64 x) (.int .i64 y):=by kernel_rfl):G P fn Post st u m:=G.neqF x y h hb k
def G.lT' (x y:Int)(hb:x<y)(k:G P fn Post (nx (adv P st) (.bool true)) u m)(h:Ak P (adv P st)=.bin .lss (.int .i64 x) (.int .i64 y):=by kernel_rfl):G P fn Post st u m:=G.lssT x y h hb k
def G.lF' (x y:Int)(hb:¬ (x<y))(k:G P fn Post (nx (adv P st) (.bool false)) u m)(h:Ak P (adv P st)=.bin .lss (.int .i64 x) (.int .i64 y):=by kernel_rfl):G P fn Post st u m:=G.lssF x y h hb k
def G.kT' (x y:Int)(hb:x<=y)(k:G P fn Post (nx (adv P st) (.bool true)) u m)(h:Ak P (adv P st)=.bin .leq (.int .i64 x) (.int .i64 y):=by kernel_rfl):G P fn Post st u m:=G.leqT x y h hb k
def G.kF' (x y:Int)(hb:¬ (x<=y))(k:G P fn Post (nx (adv P st) (.bool false)) u m)(h:Ak P (adv P st)=.bin .leq (.int .i64 x) (.int .i64 y):=by kernel_rfl):G P fn Post st u m:=G.leqF x y h hb k
def G.gT' (x y:Int)(hb:x>y)(k:G P fn Post (nx (adv P st) (.bool true)) u m)(h:Ak P (adv P st)=.bin .gtr (.int .i64 x) (.int .i64 y):=by kernel_rfl):G P fn Post st u m:=G.gtrT x y h hb k
def G.gF' (x y:Int)(hb:¬ (x>y))(k:G P fn Post (nx (adv P st) (.bool false)) u m)(h:Ak P (adv P st)=.bin .gtr (.int .i64 x) (.int .i64 y):=by kernel_rfl):G P fn Post st u m:=G.gtrF x y h hb k
def G.hT' (x y:Int)(hb:x≥y)(k:G P fn Post (nx (adv P st) (.bool true)) u m)(h:Ak P (adv P st)=.bin .geq (.int .i64 x) (.int .i64 y):=by kernel_rfl):G P fn Post st u m:=G.geqT x y h hb k
def G.hF' (x y:Int)(hb:¬ (x≥y))(k:G P fn Post (nx (adv P st) (.bool false)) u m)(h:Ak P (adv P st)=.bin .geq (.int .i64 x) (.int .i64 y):=by kernel_rfl):G P fn Post st u m:=G.geqF x y h hb k
def G.i (i:Nat)(k:G P fn Post (nx (adv P st) (.int .i64 ((i+1:Nat):Int))) u m)(h:Ak P (adv P st)=.bin .add (.int .i64 (i:Int)) (.int .i64 1):=by kernel_rfl)(h2:((i+1:Nat):Int)<=9223372036854775807:=by omega):G P fn Post st u m:=G.add (i:Int) 1 ((i+1:Nat):Int) h (by omega) (by omega) h2 k
def G.p (x y z:Int)(k:G P fn Post (nx (adv P st) (.int .i64 z)) u m)(h:Ak P (adv P st)=.bin .add (.int .i64 x) (.int .i64 y):=by kernel_rfl)(hz:x+y=z:=by omega)(h1:-9223372036854775808<=z:=by omega)(h2:z<=9223372036854775807:=by omega):G P fn Post st u m:=G.add x y z h hz h1 h2 k
def G.s (x y z:Int)(k:G P fn Post (nx (adv P st) (.int .i64 z)) u m)(h:Ak P (adv P st)=.bin .sub (.int .i64 x) (.int .i64 y):=by kernel_rfl)(hz:x-y=z:=by omega)(h1:-9223372036854775808<=z:=by omega)(h2:z<=9223372036854775807:=by omega):G P fn Post st u m:=G.sub x y z h hz h1 h2 k
def G.b {J:S->PH->PH->Prop}(hj:J (adv P st).2 u m)(h:Awx (adv P st).1=some J:=by kernel_rfl):G P fn Post st u m:=G.back h hj
def G.l {ι:Type}(T:ι->List (Nat×SV))(B:ι->List (Nat×Blk))(Inv:ι->PH->PH->Prop)(μ:ι->Nat)(i0:ι)(hI:Inv i0 u m)
    (hR:∀ (J:S->PH->PH->Prop) (i:ι),(∀ i' s' u' m',Cov (adv P st).2.n s' (T i') (B i')->PH.le u u'->Inv i' u' m'->μ i' < μ i->J s' u' m')->∀ u' m',PH.le u u'->Inv i u' m'->G P fn Post (Aow (adv P st) J (T i) (B i)) u' m') (h:Aqm (adv P st)=true:=by kernel_rfl) (hl:∀ i,T3 (T i) (B i)=true:=by exact fun _=>by kernel_rfl) (h0:Cov (adv P st).2.n (adv P st).2 (T i0) (B i0):=by exact cV):G P fn Post st u m:=G.loop T B Inv μ i0 h hl h0 hI hR
end
section
variable [Cj] [Pu]
variable {P:Program} [A6 P] {fn:Func} {Post:Ca} {st:List KI×S} {u m:PH}
def G.r (v:Value)(hp:Post.post v u m)(h:Ax9 P fn (adv P st)=some v:=by kernel_rfl):G P fn Post st u m:=G.ret v h hp
def Fn0.o {R:Value->PH->Prop}{f:FuncId}{args:List Value}(hf:P.funcs[f]?=some fn)(h:G P fn ⟨fun v u' m'=>m'=PH.mt/\R v u',PH.mt⟩ (st0 fn args) u PH.mt)(hb:fn.body.isSome=true:=by kernel_rfl)(hn:Nat.ble args.length fn.ntmps=true:=by kernel_rfl):Fn0 P f args u R:=Fn0.of hf hb hn h
def Ah.o {PostV:Value->PH->PH->Prop}{f:FuncId}{args:List Value}(hf:P.funcs[f]?=some fn)(h:G P fn ⟨PostV,m⟩ (st0 fn args) u m)(hb:fn.body.isSome=true:=by kernel_rfl)(hn:Nat.ble args.length fn.ntmps=true:=by kernel_rfl):Ah P f args u m PostV:=Ah.of hf hb hn h
end
section
variable {l:List Nat}{n:Nat}
def val:List Nat->Nat
 |[]=>0
 |d::l=>d+1000000000*val l
def Low (l:List Nat):Prop:=∀ d,d∈l->d<1000000000
def Aa (n:Nat):List Nat:=if h:n=0 then [] else n%1000000000::Aa (n/1000000000)
termination_by n
decreasing_by omega
def nl (n:Nat):Nat:=(Aa n).length
def Bn:Aa 0 = []:=by unfold Aa;simp
def Gf (h:n≠0):Aa n=n%1000000000::Aa (n/1000000000):=by
 rw[Aa];simp[h]
def Al (n:Nat):val (Aa n)=n:=by
 induction n using Nat.strongRecOn with
 |_ n ih =>
  by_cases h:n=0
  ·subst h;simp[Bn,val]
  rw[Gf h];simp only[val];rw[ih _ oV];omega
def Ar (n:Nat):Low (Aa n):=by
 induction n using Nat.strongRecOn with
 |_ n ih =>
  by_cases h:n=0
  ·subst h;simp[Bn,Low]
  rw[Gf h];intro d a;rcases A0v.1 a with rfl|a
  ·omega
  exact ih _ oV d a
def Gk :Aa n = []↔n=0:=by
 constructor
 ·intro h;have:=Al n;rw[h]at this;simp[val]at this;omega
 rintro rfl;exact Bn
def Pz (l m:List Nat):val (l++m)=val l+1000000000^l.length*val m:=by
 induction l with
 |nil=>simp[val]
 |cons d l ih =>
  simp only[A5a,val,ih,A1y,A1w];rw[A1z,<-A1o,A1r 1000000000 (1000000000^l.length),A21]
def Jy (l:List Nat)(d:Nat):val (l++[d])=val l+1000000000^l.length*d:=by
 rw[Pz];simp[val]
def Low.nil:Low []:=by simp[Low]
def Low.cons {d:Nat}(h:d<1000000000)(e:Low l):Low (d::l):=by
 intro x a;rcases A0v.1 a with rfl|a
 ·exact h
 exact e x a
def Low.append {l m:List Nat}(h:Low l)(k:Low m):Low (l++m):=by
 intro x a;rcases A04.1 a with a|a
 ·exact h x a
 exact k x a
def Low.take (h:Low l)(k:Nat):Low (l.take k):=fun x a=>h x (A23 a)
def Low.drop (h:Low l)(k:Nat):Low (l.drop k):=fun x a=>h x (A3w a)
def Low.zeros (k:Nat):Low (List.replicate k 0):=by intro x a;have:=A66 a;omega
def Low.getD (h:Low l)(k:Nat):l.getD k 0<1000000000:=by
 by_cases a:k<l.length
 ·rw[A0j,A0i a];exact h _ (A0y a)
 rw[A0j,A1k oV];simp
def Ku (h:Low l):val l<1000000000^l.length:=by
 induction l with
 |nil=>simp[val]
 |cons d l ih =>
  have f:=h d mV;have a:=ih (fun x e=>h x (by simp[e]));simp only[val,A1y,A1w];have:val l+1<=1000000000^l.length:=a;have:=A19 1000000000 this;rw[A1r (1000000000^l.length)];omega
def Abb (k:Nat):val (List.replicate k 0)=0:=by
 induction k with
 |zero=>rfl
 |succ k ih=>simp[A8e,val,ih]
def A5 (l:List Nat)(k:Nat):val (l.take (k+1))=val (l.take k)+1000000000^k*l.getD k 0:=by
 by_cases a:k<l.length
 ·rw[List.take_succ_eq_append_getElem a,Jy,A0q,A3o oV];simp[a]
 rw[A00 oV,A00 oV];have:l[k]?=none:=A1k oV;simp[this]
def Bz (l:List Nat):Nat->Nat
 |0=>0
 |n+1=>if l.getD n 0=0 then Bz l n else n+1
def K6 (l:List Nat)(n:Nat):Bz l n<=n:=by
 induction n with
 |zero=>simp[Bz]
 |succ n ih=>simp only[Bz];split<;>omega
def Pj (h:n≠0):(Aa n).getD ((Aa n).length-1) 0≠0:=by
 induction n using Nat.strongRecOn with
 |_ n ih =>
  rw[Gf h];by_cases a:n/1000000000=0
  ·rw[a,Bn];simp;omega
  have d:=ih _ oV a;have f:(Aa (n/1000000000)).length≠0:=by
   intro e;exact a (Gk.1 (A14 e))
  simp only[A1y,A5h];obtain⟨m,g⟩:∃ m,(Aa (n/1000000000)).length=m+1:=⟨_,(Nat.succ_pred_eq_of_ne_zero f).symm⟩;rw[g]at d⊢;simpa using d
def Al9 (h:Low l)(q:l≠[]->l.getD (l.length-1) 0≠0):Aa (val l)=l:=by
 induction l with
 |nil=>simp[val,Bn]
 |cons d l ih =>
  have y:=h d mV;have k:Low l:=fun x u=>h x (by simp[u]);have g:l≠[]->l.getD (l.length-1) 0≠0:=by
   intro f;have:=q mV;obtain⟨m,t⟩:∃ m,l.length=m+1:=⟨l.length-1,by have:=A4o.2 f;omega⟩;simp only[A1y,A5h,t]at this⊢;simpa using this
  have f:val (d::l)≠0:=by
   by_cases a:l = []
   ·subst a;have:=q mV;simp at this;simp[val];omega
   intro e;have j:=ih k g;simp only[val]at e;have:val l=0:=oV;rw[this,Bn]at j;exact a j.symm
  rw[Gf f];simp only[val];rw[show (d+1000000000*val l)%1000000000=d by omega,show (d+1000000000*val l)/1000000000=val l by omega,ih k g]
def Up (l:List Nat)(n:Nat):val (l.take (Bz l n))=val (l.take n):=by
 induction n with
 |zero=>simp[Bz]
 |succ n ih =>
  simp only[Bz];split
  ·rename_i h;rw[ih,A5,h];simp
  rfl
def Ua (l:List Nat)(n:Nat)(h:Bz l n≠0):l.getD (Bz l n-1) 0≠0:=by
 induction n with
 |zero=>simp[Bz]at h
 |succ n ih =>
  simp only[Bz]at h⊢;split
  ·rename_i h0;rw[if_pos h0]at h;exact ih h
  rename_i h0;simpa using h0
def Jw (h:Low l):Aa (val l)=l.take (Bz l l.length):=by
 have e:val l=val (l.take (Bz l l.length)):=by rw[Up,A05]
 rw[e];refine Al9 (h.take _) (fun a=>?_);have d:=K6 l l.length;have h0:Bz l l.length≠0:=by intro f;rw[f]at a;simp at a
 have:=Ua l l.length h0;rw[A0q,A3o d];rw[A0j,A3f,if_pos oV,<-A0j];exact this
def Ux:nl 0=0:=by simp[nl,Bn]
def C2 (n:Nat):n<1000000000^nl n:=by
 have:=Ku (Ar n);rwa[Al]at this
def A8 {n k : Nat} (h : n < 1000000000 ^ k) : nl n ≤ k := by
  induction k generalizing n with
  | zero => have : n = 0 := by simp at h; omega
            subst this; simp [Ux]
  | succ k ih =>
    by_cases h0 : n = 0
    · subst h0; simp [Ux]
    have : n / 1000000000 < 1000000000 ^ k := by
      rw [A2o oV]; rwa [A1w] at h
    have := ih this
    simp only [nl] at this ⊢
    rw [Gf h0]; simp; omega
def Cl {m n:Nat}(h:m<=n):nl m<=nl n:=A8 (A2i h (C2 n))
def R1 (h:n≠0):1000000000^(nl n-1)<=n:=by
 rcases A16 n (1000000000^(nl n-1)) with a|a
 ·have:=A8 a;have d:nl n≠0:=by
   intro e;exact h (Gk.1 (A14 e))
  omega
 exact a
def Arx (m n:Nat):nl (m+n)<=max (nl m) (nl n)+1:=by
 refine A8 ?_;have a:=C2 m;have d:=C2 n;have e:1000000000^nl m<=1000000000^max (nl m) (nl n):=A1h oV oV;have f:1000000000^nl n<=1000000000^max (nl m) (nl n):=A1h oV oV;rw[A1w];omega
def Gp (m n:Nat):nl (m*n)<=nl m+nl n:=by
 refine A8 ?_;rw[A4k];exact Nat.mul_lt_mul'' (C2 m) (C2 n)
end
section
variable {a:Option Addr}{cs:List Value}{w:World}
def Ext (w w':World):Prop:=Below w.heap.size w w'
def Ext.refl (w:World):Ext w w:=Below.refl _ _
def Ext.trans {a b c:World}(h:Ext a b)(k:Ext b c):Ext a c:=Below.trans h (Below.mono k h.size)
def Ext.alloc {a w:World}(h:Ext a w)(o:Obj):Ext a (w.alloc o):=Below.alloc h h.size o
def Ext.drew {a w:World}(h:Ext a w):Ext a w.drew:=Below.drew h
def Ext.cell {w w':World}(h:Ext w w'){p:Addr}{v:Value}(hp:w.cell? p=some v):w'.cell? p=some v:=by
 rw[Below.cell h (block_lt_of_cell hp)];exact hp
def Ext.size {w w':World}(h:Ext w w'):w.heap.size<=w'.heap.size:=Below.size h
def Ext.setCell {a w:World}(h:Ext a w){p:Addr}(hp:a.heap.size<=p.block)(u:Value):Ext a (w.setCell p u):=Below.setCell h hp u
def Ext.grown {a w w':World}{row:Option Nat}(h:Ext a w)(d:w.grownBy w' row)(e:∀ k,row=some k->a.heap.size<=k):Ext a w' :=
 Below.grown h d h.size e
def Row (w:World)(a:Option Addr)(cs:List Value):Prop :=
 ∀ j,j<cs.length->∃ b off,a=some ⟨b,off,none⟩/\w.cell? ⟨b,off+j,none⟩=some (cs.getD j (.bool false))
def Row.ext {w w':World}(h:Row w a cs)(x:Ext w w'):Row w' a cs:=by
 intro j g;obtain⟨b,d,e,f⟩:=h j g;exact⟨b,d,e,x.cell f⟩
def Row.nil (w:World)(a:Option Addr):Row w a []:=fun j d=>absurd d mV
def Row.take (h:Row w a cs)(k:Nat):Row w a (cs.take k):=by
 intro j g;rw[A0q]at g;obtain⟨b,d,e,f⟩:=h j oV;refine⟨b,d,e,?_⟩;rw[f,A0j,A0j,A3f,if_pos oV]
def Row.of_owns {w:World}{base:Nat}{e:TypeId}{size:Nat}{g n cap:Nat}{xs:List Value}
 (h:w.ownsRow base e size (.slice (some ⟨g,0,none⟩) n cap) n xs):Row w (some ⟨g,0,none⟩) xs:=by
 intro j d;refine⟨g,0,rfl,?_⟩;rw[h.1]at d;have:=h.cellAt j d;rw[A2e,this,A0j];have f:j<xs.length:=by rw[h.1];exact d
 rw[A0i f];rfl
def A7 (l:List Nat):List Value:=l.map fun (n:Nat)=>Value.int .u64 (n:Int)
@[simp] theorem Uo (l:List Nat):(A7 l).length=l.length:=by simp[A7]
def Row.at {l:List Nat}(h:Row w a (A7 l)){j:Nat}(e:j<l.length) :
 ∃ b d,a=some ⟨b,d,none⟩/\w.cell? ⟨b,d+j,none⟩=some (.int .u64 (l.getD j 0:Nat)):=by
 obtain⟨b,d,f,g⟩:=h j (by simpa[A7] using e);exact⟨b,d,f,by rw[g];simp[A7,e]⟩
def Yu (l:List Nat)(j n:Nat):(A7 l).set j (.int .u64 (n:Int))=A7 (l.set j n):=by simp[A7,A10]
def Aae (l:List Nat)(k:Nat):(A7 l).take k=A7 (l.take k):=by simp[A7,A37]
def Ago (n:Nat):List.replicate n (Value.int .u64 0)=A7 (List.replicate n 0):=by simp[A7]
def V0 (w:World)(v:Value)(l:List Nat):Prop:=∃ a cap,v=.slice a l.length cap/\l.length<=cap/\Row w a (A7 l)
def Cz (w:World)(v:Value)(n:Nat):Prop:=V0 w v (Aa n)
def V0.ext {w w':World}{v:Value}{l:List Nat}(h:V0 w v l)(x:Ext w w'):V0 w' v l:=by
 obtain⟨a,cap,d,e,f⟩:=h;exact⟨a,cap,d,e,f.ext x⟩
def Cz.ext {w w':World}{v:Value}{n:Nat}(h:Cz w v n)(x:Ext w w'):Cz w' v n:=V0.ext h x
def Cz.zero (w:World)(a:Option Addr)(cap:Nat):Cz w (.slice a 0 cap) 0:=by
 refine⟨a,cap,by rw[Bn];rfl,by rw[Bn];simp,?_⟩;rw[Bn];simp[A7];exact Row.nil _ _
end
def Z2 {a:Option Addr}{m n c:Nat}(h:m=n):Ending.returned (.slice a m c)=.returned (.slice a n c):=by rw[h]
def As8 {k:IntKind}{a b:Int}(h:a=b):Ending.returned (.int k a)=.returned (.int k b):=by rw[h]
def Ap7 (a:Option Addr)(cap:Nat)(l:List Nat)(w:World)(q:l.length<=9223372036854775807)(m:l.length<=cap)
 (h:Row w a (A7 l)) :
 Calls prog 191 #[.slice a l.length cap] w fun e w'=>e=.returned (.slice a (Bz l l.length) cap)/\w=w':=by
 have u:=Lib.hid h;clear h
 go_enter func191,ntmps191
 go_wp2
 go_loop [3] (fun n=>∃ k:Nat,k<=l.length/\n=.int .i64 k/\Bz l l.length=Bz l k) (fun n=>(intOf n).toNat)
 case atStart=>exact⟨l.length,oV,rfl,rfl⟩
 case round =>
  obtain⟨k,B,rfl,t⟩:=hrel;have d:=Lib.hid t;clear t;rcases k with _|k
  ·go_wp2
   go_ret
   exact⟨Z2 (by rw[d.out];rfl),rfl⟩
  obtain⟨b,z,rfl,y⟩:=u.out.at (j:=k) oV;obtain⟨x,f⟩:∃ x,x=l.getD k 0:=⟨_,rfl⟩;rw[<-f]at y;have g:=Lib.hid f;clear f;by_cases h0:x=0
  ·subst h0
   go_wp2
   go_round
   case rel=>exact⟨k,oV,rfl,by rw[d.out];simp only[Bz,<-g.out,if_true]⟩
   case measure=>simp[intOf]
  have A:((x:Int)==0)=false:=gV
  go_wp2
  go_ret
  exact⟨Z2 (by rw[d.out];simp only[Bz,<-g.out,if_neg h0]),rfl⟩
def V7 (a:Option Addr)(cap:Nat)(l:List Nat)(i:Int)(w:World)(h:l.length<=9223372036854775807)(n:0<=i)
 (g:Row w a (A7 l)) :
 Calls prog 236 #[.slice a l.length cap,.int .i64 i] w fun e w'=>e=.returned (.int .u64 (l.getD i.toNat 0:Nat))/\w=w':=by
 obtain⟨k,rfl⟩:=A58 n;rw[A2r];have f:=Lib.hid g;clear g;by_cases q:k<l.length
 ·obtain⟨b,t,rfl,d⟩:=f.out.at (j:=k) q;obtain⟨x,m⟩:∃ x,x=l.getD k 0:=⟨_,rfl⟩;rw[<-m]at d⊢;clear f m
  go_enter func236,ntmps236
  go_wp2
  go_ret
  exact⟨rfl,rfl⟩
 have d:l.getD k 0=0:=by
  have:l[k]?=none:=A1k oV;simp[this]
 rw[d];clear f d
 go_enter func236,ntmps236
 go_wp2
 go_ret
 exact⟨rfl,rfl⟩
def sgn (n:Int):Int:=if n<0 then -1 else if 0<n then 1 else 0
def Apk (n:Int)(w:World) :
 Calls prog 237 #[.int .i64 n] w fun e w'=>e=.returned (.int .i64 (sgn n))/\w=w':=by
 rcases A4b n 0 with h|h|h
 ·have a:sgn n = -1:=by simp[sgn,h]
  rw[a];clear a
  go_enter func237,ntmps237
  go_wp2
  go_ret
  exact⟨rfl,rfl⟩
 ·subst h
  go_enter func237,ntmps237
  go_wp2
  go_ret
  exact⟨rfl,rfl⟩
 have a:sgn n=1:=by simp[sgn,h];omega
 rw[a];clear a;have d:¬ n<0:=oV
 go_enter func237,ntmps237
 go_wp2
 go_ret
 exact⟨rfl,rfl⟩
def G5 (a:Option Addr)(cap n:Nat)(l:List Nat)(w:World)(h:l.length=n)(f:n<=9223372036854775807)(d:n<=cap)
 (g:Row w a (A7 l)) :
 Calls prog 191 #[.slice a n cap] w fun e w'=>e=.returned (.slice a (Bz l l.length) cap)/\w=w':=by
 subst h;exact Ap7 a cap l w f d g
section
variable {a b o ys:List Nat}{c d i k r x y:Nat}
def Hz (p t:Nat):p*(t%1000000000)+p*1000000000*(t/1000000000)=p*t:=by
 rw[A1o,<-A1z,Nat.mod_add_div]
structure Ln (a b:List Nat)(k:Nat)(ys:List Nat)(c:Nat):Prop where
 len:ys.length=k
 low:Low ys
 carry:c<=1
 sum:val ys+1000000000^k*c=val (a.take k)+val (b.take k)
def Ln.start (a b:List Nat):Ln a b 0 [] 0:=⟨rfl,Low.nil,oV,by simp[val]⟩
def Ln.step (h:Ln a b k ys c)(m:Low a)(n:Low b)(e:x=a.getD k 0)(f:y=b.getD k 0) :
 Ln a b (k+1) (ys++[(x+y+c)%1000000000]) ((x+y+c)/1000000000):=by
 have g:=m.getD k;have j:=n.getD k;have q:=h.carry;rw[<-e]at g;rw[<-f]at j;refine⟨by simp[h.len],h.low.append (Low.cons oV Low.nil),oV,?_⟩;rw[Jy,A5,A5,h.len,<-e,<-f,A1w,A21,Hz];have:=h.sum;rw[A1z,A1z];omega
def Ln.done (h:Ln a b (max a.length b.length+1) ys c)(n:Low a)(q:Low b):val ys=val a+val b:=by
 have e:=h.sum;rw[A00 oV,A00 oV]at e;have f:=Ku n;have g:=Ku q;have j:1000000000^a.length<=1000000000^max a.length b.length:=A1h oV oV;have m:1000000000^b.length<=1000000000^max a.length b.length:=A1h oV oV;rw[A1w]at e;have u:=A12 f j;have z:=A12 g m;have t:=h.carry;clear f g j m h;generalize 1000000000^max a.length b.length=p at *
 rcases A1p c with h0|h0
 ·subst h0;rw[A29,A2w]at e;exact e
 have f:c=1:=A78 t h0;subst f;rw[A5u]at e;omega
structure La (a b:List Nat)(k:Nat)(ys:List Nat)(c:Nat):Prop where
 len:ys.length=k
 low:Low ys
 carry:c<=1
 sum:val ys+val (b.take k)=val (a.take k)+1000000000^k*c
def La.start (a b:List Nat):La a b 0 [] 0:=⟨rfl,Low.nil,oV,by simp[val]⟩
def La.step (h:La a b k ys c)(n:Low a)(q:Low b)(e:x=a.getD k 0)(f:y=b.getD k 0) :
 La a b (k+1) (ys++[(x+1000000000-y-c)%1000000000]) (1-(x+1000000000-y-c)/1000000000):=by
 have j:=n.getD k;have m:=q.getD k;have A:=h.carry;rw[<-e]at j;rw[<-f]at m;refine⟨by simp[h.len],h.low.append (Low.cons oV Low.nil),oV,?_⟩;rw[Jy,A5,A5,h.len,<-e,<-f,A1w];have B:=h.sum;generalize 1000000000^k=p at *
 obtain⟨t,u⟩:∃ t,t=x+1000000000-y-c:=⟨_,rfl⟩;rw[<-u];have g:t%1000000000+y+c=x+1000000000*(1-t/1000000000):=oV
 have z:p*(t%1000000000)+p*y+p*c=p*x+p*1000000000*(1-t/1000000000):=by
  rw[A1o,<-A1z,<-A1z,<-A1z,g]
 omega
def La.done (h:La a b a.length ys c)(g:b.length<=a.length)(j:val b<=val a):val ys=val a-val b:=by
 have e:=h.sum;rw[A00 (A0s _),A00 g]at e;have f:=Ku h.low;rw[h.len]at f;rcases A1p c with h0|h0
 ·subst h0;simp at e;omega
 have:1000000000^a.length*1<=1000000000^a.length*c:=A19 _ h0;omega
def Gi (l:List Nat)(k:Nat)(e:k<=l.length):val l=val (l.take k)+1000000000^k*val (l.drop k):=by
 have:=Pz (l.take k) (l.drop k);rw[A4g,A0q,A3o e]at this;exact this
def Cq (l:List Nat)(k:Nat)(e:k<l.length):l.drop k=l.getD k 0::l.drop (k+1):=by
 rw[A4y e];simp[e]
def Gz {a b:List Nat}{k:Nat}(n:a.length=b.length)(m:k<a.length)(g:Low a)(j:a.drop (k+1)=b.drop (k+1))
 (h:a.getD k 0<b.getD k 0):val a<val b:=by
 rw[Gi a k oV,Gi b k oV,Cq a k m,Cq b k oV,j];simp only[val];have f:=Ku (g.take k);rw[A0q,A3o oV]at f;generalize 1000000000^k=p at *
 generalize val (List.drop (k+1) b)=q;have:p*(a.getD k 0+1+1000000000*q)<=p*(b.getD k 0+1000000000*q):=A19 _ oV;have e:p*(a.getD k 0+1+1000000000*q)=p*(a.getD k 0+1000000000*q)+p:=by
  rw[show a.getD k 0+1+1000000000*q=(a.getD k 0+1000000000*q)+1 by omega,A1z,A5u]
 omega
def Kr {m n:Nat}(h:nl m<nl n):m<n:=by
 rcases A16 m n with e|e
 ·exact e
 have:=Cl e;omega
structure Gg (a b:List Nat)(i k:Nat)(o:List Nat)(c:Nat):Prop where
 len:o.length=a.length+b.length
 low:Low o
 carry:c<1000000000
 sum:val o+1000000000^(i+k)*c=val (a.take i)*val b+1000000000^i*(a.getD i 0*val (b.take k))
 high:∀ j,i+b.length<=j->o.getD j 0=0
def Ai9 (l:List Nat)(j d:Nat)(e:j<l.length):val (l.set j d)+1000000000^j*l.getD j 0=val l+1000000000^j*d:=by
 induction l generalizing j with
 |nil=>simp at e
 |cons x l ih =>
  cases j with
  |zero=>simp[val];omega
  |succ j =>
   have:=ih j (by simpa using e);simp only[A2s,val,A4p,A1w];have f:1000000000^j*1000000000*l.getD j 0=1000000000*(1000000000^j*l.getD j 0):=by rw[A1r (1000000000^j),A1o]
   have g:1000000000^j*1000000000*d=1000000000*(1000000000^j*d):=by rw[A1r (1000000000^j),A1o]
   rw[f,g];omega
def Low.set {l:List Nat}(h:Low l)(j:Nat)(f:d<1000000000):Low (l.set j d):=by
 intro x e;rcases A8s e with e|rfl
 ·exact h x e
 exact f
def Ga (l:List Nat){i j:Nat}(d:Nat)(h:i≠j):(l.set i d).getD j 0=l.getD j 0:=by
 simp[A0j,h]
def Gg.start (a b:List Nat):Gg a b 0 0 (List.replicate (a.length+b.length) 0) 0:=by
 refine⟨mV,Low.zeros _,oV,by simp[Abb,val],fun j _=>?_⟩;rw[A0j,List.getElem?_replicate];split<;>rfl
def Gg.step {a b o:List Nat}{i k c x y z t:Nat}(h:Gg a b i k o c)(B:Low a)(C:Low b)(O:k<b.length)(N:i<a.length)
 (f:x=a.getD i 0) (m:y=b.getD k 0) (n:z=o.getD (i+k) 0) (F:t=z+x*y+c) :
 Gg a b i (k+1) (o.set (i+k) (t%1000000000)) (t/1000000000):=by
 have q:=B.getD i;have u:=C.getD k;have A:=h.low.getD (i+k);have K:=h.carry;rw[<-f]at q;rw[<-m]at u;rw[<-n]at A;have I:x*y<=999999999*999999999:=A2p oV oV;refine⟨by simp[h.len],h.low.set _ (A2l _ oV),oV,?_,fun j D=>?_⟩
 ·have H:=Ai9 o (i+k) (t%1000000000) (by have:=h.len;omega);rw[<-n]at H;have g:=h.sum;rw[<-f]at g;have E:val (a.take i)*val b+1000000000^i*(x*val (b.take (k+1)))=val o+1000000000^(i+k)*c+1000000000^i*(x*(1000000000^k*y)):=by
   rw[g,A5,<-m,A1z x,A1z (1000000000^i),A21]
  rw[<-f,E];rw[show i+(k+1)=i+k+1 by omega,A1w];have L:=Hz (1000000000^(i+k)) t;have e:1000000000^i*(x*(1000000000^k*y))=1000000000^(i+k)*(x*y):=by
   rw[A4k,A1o];congr 1;rw[<-A1o,A1r x,A1o]
  rw[e];generalize 1000000000^(i+k)=p at *
  have J:p*t=p*z+p*(x*y)+p*c:=by rw[F,A1z,A1z]
  omega
 rw[Ga _ _ oV];exact h.high j D
def Gg.next (h:Gg a b i b.length o c)(m:i<a.length) :
 o.getD (i+b.length) 0=0/\Gg a b (i+1) 0 (o.set (i+b.length) c) 0:=by
 have h0:=h.high (i+b.length) (A0s _);refine⟨h0,by simp[h.len],h.low.set _ h.carry,oV,?_,fun j n=>?_⟩
 ·have f:=Ai9 o (i+b.length) c (by have:=h.len;omega);rw[h0]at f;have g:=h.sum;rw[A00 (A0s _)]at g;rw[A5,A1m];have e:1000000000^i*a.getD i 0*val b=1000000000^i*(a.getD i 0*val b):=A1o _ _ _;rw[e,<-g];rw[A29,A2w]at f;rw[A5y,val,A29,A29,A29,A2w,A2w];exact f
 rw[Ga _ _ oV];exact h.high j oV
def Gg.done (h:Gg a b a.length 0 o 0):val o=val a*val b:=by
 have e:=h.sum;rw[A00 (A0s _)]at e;simpa[val] using e
structure Io (a:List Nat)(d k:Nat)(o:List Nat)(r:Nat):Prop where
 len:o.length=a.length
 low:Low o
 rest:r<d
 sum:val (a.drop k)=d*val (o.drop k)+r
def Io.start (a:List Nat)(d:Nat)(e:0<d):Io a d a.length (List.replicate a.length 0) 0 :=
 ⟨mV,Low.zeros _,e,by simp[val]⟩
def Io.step (h:Io a d (k+1) o r)(u:Low a)(e:k<a.length)(g:x=a.getD k 0) :
 Io a d k (o.set k ((r*1000000000+x)/d)) ((r*1000000000+x)%d):=by
 have f:0<d:=A2i (A1c _) h.rest;have t:=u.getD k;rw[<-g]at t;have A:(r*1000000000+x)/d<1000000000:=by
  rw[A2o f];have:(r+1)*1000000000<=d*1000000000:=A1x _ h.rest;rw[A1r 1000000000 d];omega
 refine⟨by simp[h.len],h.low.set _ A,A2l _ f,?_⟩;have j:=Cq a k e;have m:=Cq (o.set k ((r*1000000000+x)/d)) k (by simp[h.len,e]);rw[j,m,A49 oV];simp only[val,<-g];have n:(o.set k ((r*1000000000+x)/d)).getD k 0=(r*1000000000+x)/d:=by
  simp[A0j,h.len,e]
 rw[n];have B:=h.sum;have z:=A2u (r*1000000000+x) d;generalize (r*1000000000+x)/d=q at *
 generalize (r*1000000000+x)%d=s at *
 rw[B,A1z,A1z,show d*(1000000000*val (List.drop (k+1) o))=1000000000*(d*val (List.drop (k+1) o)) by rw[<-A1o,A1r d,A1o]];omega
def Io.done (h:Io a d 0 o r):val o=val a/d/\r=val a%d:=by
 have e:=h.sum;simp only[A4v]at e;have f:0<d:=A2i (A1c _) h.rest;rw[e];constructor
 ·rw[A86 f,A4i h.rest];rfl
 rw[Nat.mul_add_mod,A52 h.rest]
end
def Vv (w:World)(n:Nat)(e:Ending)(w':World):Prop:=∃ v,e=.returned v/\Cz w' v n/\Ext w w'
def Tryz.info251:(prog.info? 251).map (fun i=>(i.zero,i.size,i.bytes))=some (some (.int .u64 0),1,8):=kV
def Lj (n:Nat):(madeCells (Value.int .u64 0).cells (n*1)).toList=A7 (List.replicate n 0):=by
 rw[A5u];exact (toList_madeCells_one _ _).trans (Ago n)
def D0 {w:World}{a:Option Addr}{l:List Nat}{cap n:Nat}(f:Low l)(j:Row w a (A7 l))(g:val l=n)(k:l.length<=cap) :
 Cz w (.slice a (Bz l l.length) cap) n:=by
 have h:=Jw f;rw[g]at h;have e:=K6 l l.length;have d:(Aa n).length=Bz l l.length:=by rw[h,A0q,A3o e]
 refine⟨a,cap,by rw[d],oV,?_⟩;rw[h,<-Aae];exact j.take _
def Ayc (w:World)(l m:List Nat)(n:Nat)(c i:Value)(wr:World):Prop :=
 ∃ (k:Nat) (ys:List Nat) (cc:Nat),k<=n/\i=.int .i64 k/\c=.int .u64 (cc:Int)/\Ln l m k ys cc /\
  wr.ownsRow w.heap.size 251 1 (.slice (some ⟨w.heap.size,0,none⟩) n n) n (A7 (ys++List.replicate (n-k) 0))/\Ext w wr
def Aa0 {w a:World}{e:TypeId}{n k:Nat}{ys:List Nat}{d:Nat}(q:k<n)(g:ys.length=k)
 (h:a.ownsRow w.heap.size e 1 (.slice (some ⟨w.heap.size,0,none⟩) n n) n (A7 (ys++List.replicate (n-k) 0))) (x:Ext w a) :
 (a.setCell ⟨w.heap.size,k,none⟩ (.int .u64 (d:Int))).ownsRow w.heap.size e 1 (.slice (some ⟨w.heap.size,0,none⟩) n n) n (A7 ((ys++[d])++List.replicate (n-(k+1)) 0)) /\
  Ext w (a.setCell ⟨w.heap.size,k,none⟩ (.int .u64 (d:Int))):=by
 obtain⟨f,m⟩:=h.stored k (.int .u64 (d:Int));refine⟨?_,x.setCell (A0s _) _⟩;rw[Yu]at f;have e:(ys++List.replicate (n-k) 0).set k d=(ys++[d])++List.replicate (n-(k+1)) 0:=by
  rw[A5l _ _ oV,g,A4r];obtain⟨r,j⟩:∃ r,n-k=r+1:=⟨n-k-1,oV⟩;rw[j,show n-(k+1)=r by omega,A8e,A2y,A2m];rfl
 rw[e]at f;exact f
set_option maxRecDepth 100000 in
def Arg (a b:Option Addr)(ca cb:Nat)(l m:List Nat)(w:World)(ha:Row w a (A7 l))(hb:Row w b (A7 m))(la:Low l)(lb:Low m)
 (sa:l.length<=10000000000000) (sb:m.length<=10000000000000) :
 Calls prog 195 #[.slice a l.length ca,.slice b m.length cb] w (Vv w (val l+val m)):=by
 obtain⟨i0,hi,F,H,I⟩:=info_parts Tryz.info251;have HI:=Lib.hid hi;have N:=Lib.hid F;have O:=Lib.hid H;have P:=Lib.hid I;clear hi F H I;have HA:=Lib.hid ha;have HB:=Lib.hid hb;have Q:=Lib.hid la;have R:=Lib.hid lb;clear ha hb la lb;obtain⟨n,hn⟩:∃ n,n=max l.length m.length+1:=⟨_,rfl⟩;have L:=Lib.hid hn;have a1:n<=10000000000001:=oV;clear hn;rcases A16 l.length m.length with T|T;all_goals
  go_enter func195,ntmps195
  go_wp2_with (at_make;refine wpList_make_full _ rfl _ _ 122 rfl w.heap.size 251 i0 (.int .u64 0) 1 Tryz.underlying122 HI.out N.out O.out .i64 .i64 _ _ n rfl rfl (by have:=L.out;omega) (by have:=L.out;omega) (by rw[P.out];omega) (by unfold maxLen;omega) (A0s _) ?_;intro w1 f j)
  rw[Lj]at f;have W:=Lib.hid f;have X:Hid (Ext w w1):=(Ext.refl w).grown j (fun k hk=>by cases hk);clear f j
  go_loopw [6,18] (Ayc w l m n) (fun _ i _=>n-(intOf i).toNat)
  case atStart=>exact⟨0,[],0,A1c _,rfl,rfl,Ln.start _ _,by simpa using W.out,X.out⟩
  case round =>
   obtain⟨k,ys,C,hk,rfl,rfl,z,f,B⟩:=hrel;have A:=Lib.hid z;have J:=Lib.hid f;have K:=Lib.hid B;have a0:=z.carry;clear z f B W X;by_cases U:k<n
   ·obtain⟨x,B⟩:∃ x,x=l.getD k 0:=⟨_,rfl⟩;obtain⟨y,V⟩:∃ y,y=m.getD k 0:=⟨_,rfl⟩;have a2:x<1000000000:=by rw[B];exact Q.out.getD k
    have a3:y<1000000000:=by rw[V];exact R.out.getD k
    have Y:=Lib.hid B;have Z:=Lib.hid V;clear B V;have hf:=J.out.frozenAt k;have D:∃ u,wr.cell? ⟨w.heap.size,k,none⟩=some u:=by
     obtain⟨b,a4,h1,h2⟩:=Row.of_owns J.out k (by simp[A.out.len];omega);simp only[A0u,Addr.mk.injEq,and_true]at h1;obtain⟨rfl,rfl⟩:=h1;rw[A2e]at h2;exact⟨_,h2⟩
    obtain⟨u,D⟩:=D
    go_wp2_with fail
    refine (V7 _ _ _ _ _ oV oV (HA.out.ext K.out)).mono ?_;rw[A2r,<-Y.out];rintro e w' ⟨rfl,rfl⟩
    go_wp2_with fail
    refine (V7 _ _ _ _ _ oV oV (HB.out.ext K.out)).mono ?_;rw[A2r,<-Z.out];rintro e w' ⟨rfl,rfl⟩
    go_wp2
    rw[show ((x:Int)+y+C)%1000000000=(((x+y+C)%1000000000:Nat):Int) by omega,show ((x:Int)+y+C)/1000000000=(((x+y+C)/1000000000:Nat):Int) by omega];have hs:=A.out.step Q.out R.out Y.out Z.out;have g:=Aa0 (d:=(x+y+C)%1000000000) U A.out.len J.out K.out;exact⟨⟨k+1,_,_,oV,by go_num,rfl,hs,g.1,g.2⟩,by simp only[intOf];omega⟩
   obtain rfl:k=n:=oV;have q:=A.out.len;have f:=J.out;rw[A4r,A62,A1i]at f;have t:=Lib.hid (Row.of_owns f);have E:=Lib.hid (D0 (cap:=k) (n:=val l+val m) A.out.low t.out (by have h:=A.out;rw[L.out]at h;exact h.done Q.out R.out) oV);have HL:=Lib.hid q;clear f q
   go_wp2_with fail
   ((with_reducible refine (G5 _ _ _ ys _ HL.out oV oV t.out).mono ?_);rintro e w' ⟨rfl,rfl⟩)
   go_wp2
   go_ret
   exact⟨_,rfl,E.out,K.out⟩
def Agu (d e:Value)(m n:Nat)(w:World)(h:Cz w d m)(j:Cz w e n)(t:nl m<=10000000000000)(sb:nl n<=10000000000000) :
 Calls prog 195 #[d,e] w (Vv w (m+n)):=by
 obtain⟨a,f,rfl,_,k⟩:=h;obtain⟨b,g,rfl,_,q⟩:=j;have:=Arg a b f g (Aa m) (Aa n) w k q (Ar _) (Ar _) t sb;rw[Al,Al]at this;exact this
section
variable {n:Int}{v:Value}{w:World}
def Ext.drewN {a w:World}(h:Ext a w)(n:Nat):Ext a (w.drewN n):=by
 obtain⟨d,e,f,g,j⟩:=h;exact⟨d,e,f,g,j⟩
def Row.drewN {w:World}{a:Option Addr}{cs:List Value}(h:Row w a cs)(n:Nat):Row (w.drewN n) a cs:=h.ext ((Ext.refl w).drewN n)
def Pk {base:Nat}{e:TypeId}{size:Nat}{n:Nat}{xs:List Value}(h:w.ownsRow base e size v n xs)(k:Nat):(w.drewN k).ownsRow base e size v n xs:=h
def Awc (w:World)(l m:List Nat)(n:Nat)(c i:Value)(wr:World):Prop :=
 ∃ (k:Nat) (ys:List Nat) (cc:Nat),k<=n/\i=.int .i64 k/\c=.int .u64 (cc:Int)/\La l m k ys cc /\
  wr.ownsRow w.heap.size 251 1 (.slice (some ⟨w.heap.size,0,none⟩) n n) n (A7 (ys++List.replicate (n-k) 0))/\Ext w wr
set_option maxRecDepth 100000 in
def Aoe (a b:Option Addr)(ca X:Nat)(l m:List Nat)(w:World)(ha:Row w a (A7 l))(hb:Row w b (A7 m))(la:Low l)(lb:Low m)
 (sa:l.length<=10000000000000) (sb:m.length<=l.length) (I:val m<=val l) :
 Calls prog 197 #[.slice a l.length ca,.slice b m.length X] w (Vv w (val l-val m)):=by
 obtain⟨i0,hi,L,N,O⟩:=info_parts Tryz.info251;have HI:=Lib.hid hi;have U:=Lib.hid L;have V:=Lib.hid N;have W:=Lib.hid O;clear hi L N O;have HA:=Lib.hid ha;have HB:=Lib.hid hb;have LA:=Lib.hid la;have LB:=Lib.hid lb;have LE:=Lib.hid I;clear ha hb la lb I;obtain⟨n,hn⟩:∃ n,n=l.length:=⟨_,rfl⟩;have D:=Lib.hid hn;have a2:n<=10000000000001:=oV;clear hn
 go_enter func197,ntmps197
 go_wp2_with (at_make;refine wpList_make_full _ rfl _ _ 122 rfl w.heap.size 251 i0 (.int .u64 0) 1 Tryz.underlying122 HI.out U.out V.out .i64 .i64 _ _ n rfl rfl (by have:=D.out;omega) (by have:=D.out;omega) (by rw[W.out];omega) (by unfold maxLen;omega) (A0s _) ?_;intro w1 f j)
 rw[Lj]at f;have HO:=Lib.hid f;have X1:Hid (Ext w w1):=(Ext.refl w).grown j (fun k hk=>by cases hk);clear f j
 go_loopw [6,14] (Awc w l m n) (fun _ i _=>n-(intOf i).toNat)
 case atStart=>exact⟨0,[],0,A1c _,rfl,rfl,La.start _ _,by simpa using HO.out,X1.out⟩
 case round =>
  obtain⟨k,ys,E,hk,rfl,rfl,A,f,B⟩:=hrel;have C:=Lib.hid A;have P:=Lib.hid f;have Q:=Lib.hid B;have a1:=A.carry;clear A f B HO X1;by_cases J:k<l.length
  ·have Z:k<n:=by rw[D.out];exact J
   obtain⟨x,B⟩:∃ x,x=l.getD k 0:=⟨_,rfl⟩;obtain⟨y,R⟩:∃ y,y=m.getD k 0:=⟨_,rfl⟩;have a3:x<1000000000:=by rw[B];exact LA.out.getD k
   have a4:y<1000000000:=by rw[R];exact LB.out.getD k
   obtain⟨ba,a0,rfl,Y⟩:=(HA.out.ext Q.out).at J;rw[<-B]at Y;have F:∀ q,Calls prog 236 #[.slice b m.length X,.int .i64 k] (wr.drewN q) fun e w'=>e=.returned (.int .u64 (y:Int))/\w'=wr.drewN q:=fun q=>by
    have:=V7 b X m k (wr.drewN q) oV oV ((HB.out.ext Q.out).drewN q);rw[A2r,<-R]at this;exact this.mono fun _ _ h=>⟨h.1,h.2.symm⟩
   have T:=Lib.hid F;have XX:=Lib.hid B;have YY:=Lib.hid R;clear B R F;have hf:=P.out.frozenAt k;have H:∃ u,wr.cell? ⟨w.heap.size,k,none⟩=some u:=by
    obtain⟨b,a5,h1,h2⟩:=Row.of_owns P.out k (by simp[C.out.len];omega);simp only[A0u,Addr.mk.injEq,and_true]at h1;obtain⟨rfl,rfl⟩:=h1;rw[A2e]at h2;exact⟨_,h2⟩
   obtain⟨u,H⟩:=H
   go_wp2_with fail
   go_quiet ((go_at_call 236;exact Calls.quiet_of_same (T.out _)))
   go_wp2
   rw[show ((x:Int)+1000000000-y-E)%1000000000=(((x+1000000000-y-E)%1000000000:Nat):Int) by omega,show 1-((x:Int)+1000000000-y-E)/1000000000=((1-(x+1000000000-y-E)/1000000000:Nat):Int) by omega];have hs:=C.out.step LA.out LB.out XX.out YY.out;have g:=Aa0 (d:=(x+1000000000-y-E)%1000000000) Z C.out.len (Pk P.out nq) (Q.out.drewN nq);exact⟨⟨k+1,_,_,oV,by go_num,rfl,hs,g.1,g.2⟩,by simp only[intOf];omega⟩
  obtain rfl:k=n:=by have:=D.out;omega
  have t:=C.out.len;have f:=P.out;rw[A4r,A62,A1i]at f;have z:=Lib.hid (Row.of_owns f);have K:=Lib.hid (D0 (cap:=k) (n:=val l-val m) C.out.low z.out (by have h:=C.out;rw[D.out]at h;exact h.done sb LE.out) oV);have HL:=Lib.hid t;clear f t
  go_wp2_with fail
  ((with_reducible refine (G5 _ _ _ ys _ HL.out oV oV z.out).mono ?_);rintro e w' ⟨rfl,rfl⟩)
  go_wp2
  go_ret
  exact⟨_,rfl,K.out,Q.out⟩
def Agn (e f:Value)(m n:Nat)(w:World)(j:Cz w e m)(k:Cz w f n)(u:nl m<=10000000000000)(d:n<=m) :
 Calls prog 197 #[e,f] w (Vv w (m-n)):=by
 obtain⟨a,g,rfl,_,q⟩:=j;obtain⟨b,h,rfl,_,t⟩:=k;have:=Aoe a b g h (Aa m) (Aa n) w q t (Ar _) (Ar _) u (Cl d) (by rw[Al,Al];exact d);rw[Al,Al]at this;exact this
def Awn (w:World)(l m:List Nat)(i:Value)(wr:World):Prop :=
 ∃ k:Nat,k<=l.length/\i=.int .i64 ((k:Int)-1)/\l.drop k=m.drop k/\∃ q,wr=w.drewN q
def Db (h:0<n):sgn n=1:=by unfold sgn;rw[if_neg oV,if_pos h]
def En (h:n<0):sgn n = -1:=by unfold sgn;rw[if_pos h]
def R7:sgn 0=0:=by simp[sgn]
def Ry (w:World)(v:Value)(e:Ending)(w':World):Prop:=e=.returned v/\∃ q,w'=w.drewN q
def Ry.ext {e:Ending}{w':World}(h:Ry w v e w'):e=.returned v/\Ext w w':=by
 obtain⟨a,q,rfl⟩:=h;exact⟨a,(Ext.refl w).drewN q⟩
set_option maxRecDepth 100000 in
def Adb (a b:Option Addr)(Q R:Nat)(l m:List Nat)(w:World)(D:Row w a (A7 l))(E:Row w b (A7 m))(la:Low l)(I:Low m)
 (W:l.length<=10000000000000) (sb:m.length=l.length) :
 Calls prog 196 #[.slice a l.length Q,.slice b l.length R] w (Ry w (.int .i64 (sgn ((val l:Int)-val m)))):=by
 have L:=Lib.hid D;have N:=Lib.hid E;have O:=Lib.hid la;have P:=Lib.hid I;have SB:=Lib.hid sb;clear D E la I sb
 go_enter func196,ntmps196
 go_wp2_with fail
 go_loopw [5] (Awn w l m) (fun i _=>(intOf i+1).toNat)
 case atStart=>exact⟨l.length,oV,rfl,by rw[A11 (A0s _),A11 (by rw[SB.out];exact A0s _)],0,rfl⟩
 case round =>
  obtain⟨k,V,rfl,F,q,rfl⟩:=hrel;have e:=Lib.hid F;clear F;rcases k with _|k
  ·go_wp2_with fail
   have h0:(val l:Int)-val m=0:=by have:=e.out;simp only[A4v]at this;rw[this];omega
   go_ret
   refine⟨?_,q,rfl⟩;rw[h0,R7];rfl
  rw[show ((k+1:Nat):Int)-1=k by omega];have d:k<l.length:=oV;obtain⟨T,J,rfl,h⟩:=L.out.at d;obtain⟨U,K,rfl,t⟩:=N.out.at (j:=k) (by rw[SB.out];exact d);obtain⟨x,B⟩:∃ x,x=l.getD k 0:=⟨_,rfl⟩;obtain⟨y,C⟩:∃ y,y=m.getD k 0:=⟨_,rfl⟩;rw[<-B]at h;rw[<-C]at t;have f:=Lib.hid B;have g:=Lib.hid C;clear B C;rcases A5q x y with A|u|z
  ·go_wp2_with fail
   go_quiet (fail)
   go_wp2_with fail
   have h0:(val l:Int)-val m<0:=by
    have:=Gz SB.out.symm d O.out e.out (by rw[<-f.out,<-g.out];exact A);omega
   go_ret
   refine⟨?_,_,World.drewN_drewN _ _ _⟩;rw[En h0];rfl
  ·subst u
   go_wp2_with fail
   go_quiet (fail)
   go_wp2_with fail
   go_quiet (fail)
   go_wp2_with fail
   refine⟨⟨k,oV,by go_num,?_,_,rfl⟩,by simp only[intOf];omega⟩;rw[Cq l k d,Cq m k (by rw[SB.out];exact d),e.out,<-f.out,<-g.out]
  have H:¬ x<y:=oV
  go_wp2_with fail
  go_quiet (fail)
  go_wp2_with fail
  go_quiet (fail)
  go_wp2_with fail
  have h0:0<(val l:Int)-val m:=by
   have:=Gz SB.out (by rw[SB.out];exact d) P.out e.out.symm (by rw[<-f.out,<-g.out];exact z);omega
  go_ret
  refine⟨?_,_,by rw[World.drewN_drewN,World.drewN_drewN]⟩;rw[Db h0];rfl
set_option maxRecDepth 100000 in
def Ah8 (a b:Option Addr)(f g m n:Nat)(w:World)(j:m<=10000000000000)(sb:n<=10000000000000)(d:m≠n) :
 Calls prog 196 #[.slice a m f,.slice b n g] w (Ry w (.int .i64 (sgn ((m:Int)-n)))):=by
 have h:((m:Int) != n)=true:=by rw[bne_iff_ne];omega
 clear d
 go_enter func196,ntmps196
 go_wp2_with fail
 refine (Apk _ _).mono ?_;rintro e w' ⟨rfl,rfl⟩
 go_wp2_with fail
 go_ret
 exact⟨rfl,0,rfl⟩
def Ame {a b c d:Nat}(f:a<b↔c<d)(g:b<a↔d<c):sgn ((a:Int)-b)=sgn ((c:Int)-d):=by
 rcases A5q a b with h|h|h
 ·have:=f.1 h;rw[En oV,En oV]
 ·have j:¬ c<d:=fun e=>by have:=f.2 e;omega
  have k:¬ d<c:=fun e=>by have:=g.2 e;omega
  rw[show (a:Int)-b=0 by omega,show (c:Int)-d=0 by omega]
 have:=g.1 h;rw[Db oV,Db oV]
def Gl (q t:Value)(m n:Nat)(w:World)(u:Cz w q m)(x:Cz w t n)(k:nl m<=10000000000000)(sb:nl n<=10000000000000) :
 Calls prog 196 #[q,t] w (Ry w (.int .i64 (sgn ((m:Int)-n)))):=by
 obtain⟨a,g,rfl,_,y⟩:=u;obtain⟨b,j,rfl,_,z⟩:=x;by_cases h:(Aa n).length=(Aa m).length
 ·have:=Adb a b g j (Aa m) (Aa n) w y z (Ar _) (Ar _) k h;rw[Al,Al]at this;rw[h];exact this
 have:=Ah8 a b g j (Aa m).length (Aa n).length w k sb (fun e=>h e.symm);rw[Ame (a:=(Aa m).length) (b:=(Aa n).length) (c:=m) (d:=n)]at this
 ·exact this
 ·constructor
  ·exact fun f=>Kr f
  intro f;have:=Cl (A67 f);unfold nl at this;omega
 constructor
 ·exact fun f=>Kr f
 intro f;have:=Cl (A67 f);unfold nl at this;omega
end
section
variable {e:TypeId}{n:Nat}{o:List Nat}{w wr:World}
def Aw1 (w:World)(l m:List Nat)(n:Nat)(i:Value)(wr:World):Prop :=
 ∃ (k:Nat) (o:List Nat),k<=l.length/\i=.int .i64 k/\Gg l m k 0 o 0 /\
  wr.ownsRow w.heap.size 251 1 (.slice (some ⟨w.heap.size,0,none⟩) n n) n (A7 o)/\Ext w wr
def Aus (w:World)(l m:List Nat)(n j:Nat)(c i:Value)(wr:World):Prop :=
 ∃ (k:Nat) (o:List Nat) (cc:Nat),k<=m.length/\i=.int .i64 k/\c=.int .u64 (cc:Int)/\Gg l m j k o cc /\
  wr.ownsRow w.heap.size 251 1 (.slice (some ⟨w.heap.size,0,none⟩) n n) n (A7 o)/\Ext w wr
def Pv {n j:Nat}(h:wr.ownsRow w.heap.size e 1 (.slice (some ⟨w.heap.size,0,none⟩) n n) n (A7 o))(f:j<o.length) :
 wr.cell? ⟨w.heap.size,j,none⟩=some (.int .u64 (o.getD j 0:Nat)):=by
 obtain⟨b,g,a,d⟩:=(Row.of_owns h).at f;simp only[A0u,Addr.mk.injEq,and_true]at a;obtain⟨rfl,rfl⟩:=a;rw[A2e]at d;exact d
def S1 (j d:Nat)(h:wr.ownsRow w.heap.size e 1 (.slice (some ⟨w.heap.size,0,none⟩) n n) n (A7 o))(x:Ext w wr) :
 (wr.setCell ⟨w.heap.size,j,none⟩ (.int .u64 (d:Int))).ownsRow w.heap.size e 1 (.slice (some ⟨w.heap.size,0,none⟩) n n) n (A7 (o.set j d)) /\
  Ext w (wr.setCell ⟨w.heap.size,j,none⟩ (.int .u64 (d:Int))):=by
 refine⟨?_,x.setCell (A0s _) _⟩;have:=(h.stored j (.int .u64 (d:Int))).1;rw[Yu]at this;exact this
def Aev (w:World)(n:Nat)(e:Ending)(w':World):Prop:=∃ k cap,e=.returned (.slice (some ⟨w.heap.size,0,none⟩) k cap)/\Cz w' (.slice (some ⟨w.heap.size,0,none⟩) k cap) n/\Ext w w'
set_option maxRecDepth 100000 in
def Aq4 (a b:Option Addr)(ca cb:Nat)(l m:List Nat)(w:World)(ha:Row w a (A7 l))(hb:Row w b (A7 m))(la:Low l)(lb:Low m)
 (sa:l.length<=10000000000000) (sb:m.length<=10000000000000) :
 Calls prog 182 #[.slice a l.length ca,.slice b m.length cb] w (Aev w (val l*val m)):=by
 obtain⟨i0,hi,U,J,V⟩:=info_parts Tryz.info251;have HI:=Lib.hid hi;have a0:=Lib.hid U;have a1:=Lib.hid J;have a2:=Lib.hid V;clear hi U J V;have HA:=Lib.hid ha;have HB:=Lib.hid hb;have LA:=Lib.hid la;have LB:=Lib.hid lb;clear ha hb la lb;obtain⟨n,hn⟩:∃ n,n=l.length+m.length:=⟨_,rfl⟩;have L:=Lib.hid hn;have ac:n<=20000000000001:=oV;have ad:l.length+m.length<=n:=oV;clear hn
 go_enter func182,ntmps182
 go_wp2_with (at_make;refine wpList_make_full _ rfl _ _ 122 rfl w.heap.size 251 i0 (.int .u64 0) 1 Tryz.underlying122 HI.out a0.out a1.out .i64 .i64 _ _ n rfl rfl (by have:=L.out;omega) (by have:=L.out;omega) (by rw[a2.out];omega) (by unfold maxLen;omega) (A0s _) ?_;intro w1 d q)
 rw[Lj]at d;have HO:=Lib.hid d;have X1:Hid (Ext w w1):=(Ext.refl w).grown q (fun k hk=>by cases hk);clear d q
 go_loopw [20] (Aw1 w l m n) (fun i _=>l.length-(intOf i).toNat)
 case atStart=>exact⟨0,_,A1c _,rfl,Gg.start _ _,by rw[<-L.out];exact HO.out,X1.out⟩
 case round =>
  obtain⟨j,o,hk,rfl,R,d,I⟩:=hrel;have N:=Lib.hid R;have HW:=Lib.hid d;have W:=Lib.hid I;clear R d I HO X1;by_cases H:j<l.length
  ·obtain⟨x,I⟩:∃ x,x=l.getD j 0:=⟨_,rfl⟩;have ag:x<1000000000:=by rw[I];exact LA.out.getD j
   obtain⟨ba,a8,rfl,P⟩:=(HA.out.ext W.out).at H;rw[<-I]at P;have XX:=Lib.hid I;clear I
   go_wp2_with fail
   obtain⟨wo,a6⟩:∃ wo:World,wo=wr:=⟨_,rfl⟩;subst a6
   go_loopw [8,27] (Aus w l m n j) (fun _ i _=>m.length-(intOf i).toNat)
   case atStart=>exact⟨0,_,0,A1c _,rfl,rfl,N.out,HW.out,W.out⟩
   case round =>
    obtain⟨k,o2,K,ab,rfl,rfl,g,u,T⟩:=hrel;have O:=Lib.hid g;have h:=Lib.hid u;have D:=Lib.hid T;have aa:=g.carry;have a5:=g.len;have F:=Lib.hid g.low;have a7:n<=o2.length:=by have:=L.out;omega
    clear g u T N HW W P a5;by_cases B:k<m.length
    ·obtain⟨y,X⟩:∃ y,y=m.getD k 0:=⟨_,rfl⟩;have ah:y<1000000000:=by rw[X];exact LB.out.getD k
     obtain⟨bb,a9,rfl,a3⟩:=(HB.out.ext D.out).at B;rw[<-X]at a3;obtain⟨z,Y⟩:∃ z,z=o2.getD (j+k) 0:=⟨_,rfl⟩;have J:z<1000000000:=by rw[Y];exact F.out.getD _
     have E:=Pv h.out (j:=j+k) oV;have a4:=h.out.frozenAt (j+k);rw[<-Y]at E;have YY:=Lib.hid X;have ZZ:=Lib.hid Y;clear X Y;obtain⟨p,hp⟩:∃ p,p=x*y:=⟨_,rfl⟩;have ae:p<=999999999*999999999:=by rw[hp];exact A2p oV oV
     have af:((x:Int)*y)=p:=by rw[hp];exact (A3x _ _).symm
     have PP:=Lib.hid hp;clear hp
     go_wp2_with fail
     rw[show ((z:Int)+p+K)%1000000000=(((z+x*y+K)%1000000000:Nat):Int) by rw[<-PP.out];omega,show ((z:Int)+p+K)/1000000000=(((z+x*y+K)/1000000000:Nat):Int) by rw[<-PP.out];omega];have hs:=O.out.step LA.out LB.out B H XX.out YY.out ZZ.out rfl;have f:=S1 (j+k) ((z+x*y+K)%1000000000) h.out D.out;exact⟨⟨k+1,_,_,oV,by go_num,rfl,hs,f.1,f.2⟩,by simp only[intOf];omega⟩
    obtain rfl:k=m.length:=oV;obtain⟨h0,t⟩:=O.out.next H;have E:=Pv h.out (j:=j+m.length) oV;rw[h0]at E;have a4:=h.out.frozenAt (j+m.length);have Z:=Lib.hid t;clear h0 t
    go_wp2_with fail
    have f:=S1 (j+m.length) K h.out D.out;exact⟨⟨j+1,_,oV,by go_num,Z.out,f.1,f.2⟩,by simp only[intOf];omega⟩
  obtain rfl:j=l.length:=oV;have A:=N.out.len;have C:=Lib.hid (Row.of_owns HW.out);have Q:=Lib.hid (D0 (cap:=n) (n:=val l*val m) N.out.low C.out N.out.done oV);have HL:Hid (o.length=n):=by rw[A];exact L.out.symm
  clear A
  go_wp2_with fail
  ((with_reducible refine (G5 _ _ _ o _ HL.out oV oV C.out).mono ?_);rintro e w' ⟨rfl,rfl⟩)
  go_wp2_with fail
  go_ret
  exact⟨_,_,rfl,Q.out,W.out⟩
def To (d f:Value)(m n:Nat)(w:World)(j:Cz w d m)(k:Cz w f n)(u:nl m<=10000000000000)(sb:nl n<=10000000000000) :
 Calls prog 182 #[d,f] w (Aev w (m*n)):=by
 obtain⟨a,g,rfl,_,q⟩:=j;obtain⟨b,h,rfl,_,t⟩:=k;have:=Aq4 a b g h (Aa m) (Aa n) w q t (Ar _) (Ar _) u sb;rw[Al,Al]at this;exact this
def Aho (a d:Value)(m n:Nat)(w:World)(j:Cz w a m)(q:Cz w d n)(t:nl m<=10000000000000)(sb:nl n<=10000000000000) :
 Calls prog 182 #[a,d] w (Vv w (m*n)) :=
 (To a d m n w j q t sb).mono fun _ _ ⟨k,cap,f,g,h⟩=>⟨_,f,g,h⟩
def Apm (w:World)(l:List Nat)(d n:Nat)(r i:Value)(wr:World):Prop :=
 ∃ (k:Nat) (o:List Nat) (rr:Nat),k<=l.length/\i=.int .i64 ((k:Int)-1)/\r=.int .u64 (rr:Int)/\Io l d k o rr /\
  wr.ownsRow w.heap.size 251 1 (.slice (some ⟨w.heap.size,0,none⟩) n n) n (A7 o)/\Ext w wr
def Qf (w:World)(n r:Nat)(e:Ending)(w':World):Prop:=∃ v,e=.returned (.tuple #[v,.int .u64 (r:Int)])/\Cz w' v n/\Ext w w'
set_option maxRecDepth 100000 in
def Ais (a:Option Addr)(ca d:Nat)(l:List Nat)(w:World)(T:Row w a (A7 l))(la:Low l)
 (sa:l.length<=10000000000000) (O:0<d) (hd:d<1000000000) :
 Calls prog 258 #[.slice a l.length ca,.int .u64 d] w (Qf w (val l/d) (val l%d)):=by
 obtain⟨i0,U,C,D,E⟩:=info_parts Tryz.info251;have Z:=Lib.hid U;have J:=Lib.hid C;have K:=Lib.hid D;have L:=Lib.hid E;clear U C D E;have Y:=Lib.hid T;have Q:=Lib.hid la;clear T la;obtain⟨n,W⟩:∃ n,n=l.length:=⟨_,rfl⟩;have y:=Lib.hid W;have a4:n<=10000000000001:=oV;have a5:l.length<=n:=oV;clear W
 go_enter func258,ntmps258
 go_wp2_with (at_make;refine wpList_make_full _ rfl _ _ 122 rfl w.heap.size 251 i0 (.int .u64 0) 1 Tryz.underlying122 Z.out J.out K.out .i64 .i64 _ _ n rfl rfl (by have:=y.out;omega) (by have:=y.out;omega) (by rw[L.out];omega) (by unfold maxLen;omega) (A0s _) ?_;intro w1 f g)
 rw[Lj]at f;have P:=Lib.hid f;have R:Hid (Ext w w1):=(Ext.refl w).grown g (fun k V=>by cases V);clear f g
 go_loopw [7,8] (Apm w l d n) (fun _ i _=>(intOf i+1).toNat)
 case atStart=>exact⟨l.length,_,0,oV,rfl,rfl,Io.start _ _ O,by rw[<-y.out];exact P.out,R.out⟩
 case round =>
  obtain⟨k,o,F,V,rfl,rfl,h,f,u⟩:=hrel;have z:=Lib.hid h;have H:=Lib.hid f;have I:=Lib.hid u;have a6:=h.rest;have a3:n<=o.length:=by have:=y.out;have:=h.len;omega
  clear h f u P R;rcases k with _|k
  ·have m:=z.out.len;have q:=Lib.hid (Row.of_owns H.out);have B:=Lib.hid (D0 (cap:=n) (n:=val l/d) z.out.low q.out z.out.done.1 oV);have HL:Hid (o.length=n):=by rw[m];exact y.out.symm
   clear m
   go_wp2_with fail
   ((with_reducible refine (G5 _ _ _ o _ HL.out oV oV q.out).mono ?_);rintro e w' ⟨rfl,rfl⟩)
   go_wp2_with fail
   go_ret2
   exact⟨_,by rw[z.out.done.2];rfl,B.out,I.out⟩
  rw[show ((k+1:Nat):Int)-1=k by omega];have A:k<l.length:=oV;obtain⟨x,u⟩:∃ x,x=l.getD k 0:=⟨_,rfl⟩;have a7:x<1000000000:=by rw[u];exact Q.out.getD k
  obtain⟨ba,X,rfl,N⟩:=(Y.out.ext I.out).at A;rw[<-u]at N;have a0:=Pv H.out (j:=k) oV;have a2:=H.out.frozenAt k;have XX:=Lib.hid u;clear u;have a1:((d:Int)==0)=false:=gV
  go_wp2_with fail
  go_region
  go_wp2_with fail
  rw[show ((F:Int)*1000000000+x)%d=(((F*1000000000+x)%d:Nat):Int) by simp,show ((F:Int)*1000000000+x)/d=(((F*1000000000+x)/d:Nat):Int) by simp];have hs:=z.out.step Q.out A XX.out;have t:=S1 k ((F*1000000000+x)/d) H.out I.out;exact⟨⟨k,_,_,oV,rfl,rfl,hs,t.1.drew,t.2.drew⟩,by simp only[intOf];omega⟩
def Q2 (g:Value)(m d:Nat)(w:World)(j:Cz w g m)(t:nl m<=10000000000000)(f:0<d)(k:d<1000000000) :
 Calls prog 258 #[g,.int .u64 d] w (Qf w (m/d) (m%d)):=by
 obtain⟨a,h,rfl,_,q⟩:=j;have:=Ais a h d (Aa m) w q (Ar _) t f k;rw[Al]at this;exact this
end
section
variable {U V p top u2 v1 v2:Nat}
structure Aab (v1 v2 u2 top p V U:Nat):Prop where
 v:∃ v',v' < p/\V=(v1*1000000000+v2)*p+v'
 u:∃ u',u' < p/\U=(top*1000000000+u2)*p+u'
 v1pos:500000000<=v1
 v1low:v1<1000000000
 v2low:v2<1000000000
 u2low:u2<1000000000
 top1:top<=v1*1000000000+999999999
 less:U<1000000000*V
def Aab.pos (h:Aab v1 v2 u2 top p V U):0<V:=by
 rcases A1p V with h0|h0
 ·have:=h.less;rw[h0]at this;omega
 exact h0
structure Q5 (v1 top V U q r:Nat):Prop where
 eq:q*v1+r=top
 ge:U/V<=q
 low:1000000000<=q->r<1000000000
 qle:q<=2000000000
def Q5.start (h:Aab v1 v2 u2 top p V U):Q5 v1 top V U (top/v1) (top%v1):=by
 have z:=h.v1pos;have g:=A2u top v1;have B:=A2l top (show 0<v1 by omega);have C:=h.v1low;refine⟨by rw[A1r];exact g,?_,fun _=>oV,?_⟩
 ·obtain⟨E,n,f⟩:=h.v;obtain⟨D,k,e⟩:=h.u;have a:=h.pos;have m:=h.u2low;rw[A4h oV];have A:U/V*V<=U:=A63 U V;generalize U/V=q at *
  have j:0<p:=oV;have t:q*v1*1000000000*p<=q*V:=by
   rw[f,A1o,A1o];refine A19 _ ?_;rw[<-A1o,A1m];omega
  have x:U<(top*1000000000+u2+1)*p:=by rw[e,A1m _ 1,A27];omega
  have d:q*v1*1000000000*p<(top*1000000000+u2+1)*p:=oV;have y:=A6v d;omega
 rw[<-Nat.lt_succ_iff,A2o oV];have:=h.top1;omega
def Q5.step {v1 v2 u2 top p V U q r:Nat}(h:Aab v1 v2 u2 top p V U)(t:Q5 v1 top V U q r)
 (f:1000000000<=q\/r*1000000000+u2<q*v2):0<q/\Q5 v1 top V U (q-1) (r+v1):=by
 have a:=h.pos;have d:U/V<q:=by
  rcases f with f|f
  ·have:U/V<1000000000:=by rw[A2o a];exact h.less
   omega
  rw[A2o a];obtain⟨H,n,C⟩:=h.v;obtain⟨F,m,B⟩:=h.u;have x:q*((v1*1000000000+v2)*p)<=q*V:=A19 _ oV;have y:q*((v1*1000000000+v2)*p)=((q*v1)*1000000000+q*v2)*p:=by
   rw[<-A1o,A1z,<-A1o]
  have z:(top*1000000000+u2+1)*p<=((q*v1)*1000000000+q*v2)*p:=by
   refine A1x _ ?_;have:=t.eq;omega
  have A:(top*1000000000+u2+1)*p=(top*1000000000+u2)*p+p:=by rw[A1m _ 1,A27]
  omega
 have j:0<q:=A2i (A1c _) d;refine⟨j,?_,Nat.le_sub_one_of_lt d,fun g=>?_,by have:=t.qle;omega⟩
 ·obtain⟨k,rfl⟩:∃ k,q=k+1:=⟨q-1,oV⟩;have:=t.eq;rw[A1m,A27]at this;simp only[A5h];omega
 have e:=t.eq;have E:=h.top1;obtain⟨k,rfl⟩:∃ k,q=1000000000+1+k:=⟨q-1000000001,oV⟩;have:(1000000000+1+k)*v1=1000000000*v1+v1+k*v1:=by rw[A1m,A1m,A27]
 have D:0<=k*v1:=A1c _;rw[this]at e;omega
def Q5.done {v1 v2 u2 top p V U q r:Nat}(h:Aab v1 v2 u2 top p V U)(t:Q5 v1 top V U q r)
 (j:¬ (r<1000000000/\(1000000000<=q\/r*1000000000+u2<q*v2))):q<1000000000/\U/V<=q/\q<=U/V+1:=by
 have n:q<1000000000:=by
  rcases A16 q 1000000000 with a|a
  ·exact a
  exact absurd ⟨t.low a,Or.inl a⟩ j
 have e:q*v2<=r*1000000000+u2:=by
  rcases A16 (r*1000000000+u2) (q*v2) with a|a
  ·rcases A16 r 1000000000 with g|g
   ·exact absurd ⟨g,Or.inr a⟩ j
   have:q*v2<=999999999*999999999:=A2p oV (by have:=h.v2low;omega);omega
  exact a
 refine⟨n,t.ge,?_⟩;rcases A1p q with h0|h0
 ·rw[h0];exact A1c _
 obtain⟨k,rfl⟩:∃ k,q=k+1:=⟨q-1,oV⟩
 suffices k<=U/V by omega
 have d:=h.pos;rw[A4h d];obtain⟨m,y,f⟩:=h.v;obtain⟨F,x,E⟩:=h.u;have z:(k+1)*V=(((k+1)*v1)*1000000000+(k+1)*v2)*p+(k+1)*m:=by
  rw[f,A1z,<-A1o,A1z,<-A1o]
 have A:(((k+1)*v1)*1000000000+(k+1)*v2)*p<=(top*1000000000+u2)*p:=by
  refine A1x _ ?_;have:=t.eq;omega
 have B:(k+1)*m<=1000000000*p:=A2p oV oV;have C:1000000000*p<=V:=by
  rw[f];have:1000000000*p<=(v1*1000000000+v2)*p:=A1x _ (by have:=h.v1pos;omega);omega
 have D:(k+1)*V=k*V+V:=by rw[A1m,A27]
 omega
structure Mj (full v:List Nat)(off q k:Nat)(o:List Nat)(c:Nat):Prop where
 len:o.length=full.length
 low:Low o
 carry:c<=1000000000
 sum:val ((o.drop off).take k)+q*val (v.take k)=val ((full.drop off).take k)+1000000000^k*c
 same:∀ j,j<off\/off+k<=j->o.getD j 0=full.getD j 0
def E4 (l:List Nat)(a k:Nat):(l.drop a).getD k 0=l.getD (a+k) 0:=by
 simp[A0j,A3m]
def Nw (l:List Nat)(j k d:Nat)(h:k<=j):(l.set j d).take k=l.take k:=by
 rw[A61 h]
def Mj.start (a v:List Nat)(d q:Nat)(h:Low a):Mj a v d q 0 a 0 :=
 ⟨rfl,h,oV,by simp[val],fun _ _=>rfl⟩
def Mj.step {f v o:List Nat}{a q k c x y d e:Nat}(h:Mj f v a q k o c)(z:a+k<f.length)
 (A:x=v.getD k 0) (B:y=o.getD (a+k) 0) (t:d<1000000000) (u:e<=1000000000) (g:d+q*x+c=y+1000000000*e) :
 Mj f v a q (k+1) (o.set (a+k) d) e:=by
 refine⟨by simp[h.len],h.low.set _ t,u,?_,fun j E=>?_⟩
 ·rw[A5,A5,A5,E4,E4];have m:((o.set (a+k) d).drop a).take k=(o.drop a).take k:=by
   rw[A9w,if_neg oV,Nw _ _ _ _ oV]
  have n:(o.set (a+k) d).getD (a+k) 0=d:=by
   simp[A0j,h.len,z]
  rw[m,n,<-A,<-h.same (a+k) (Or.inr (A0s _)),<-B,A1w];have F:=h.sum;generalize 1000000000^k=p at *
  have C:p*d+p*(q*x)+p*c=p*y+p*1000000000*e:=by
   rw[A1o,<-A1z,<-A1z,<-A1z,g]
  have D:q*(val (List.take k v)+p*x)=q*val (List.take k v)+p*(q*x):=by
   rw[A1z];congr 1;rw[<-A1o,A1r q,A1o]
  omega
 rw[Ga _ _ oV];exact h.same j oV
structure Nm (full v:List Nat)(off k:Nat)(o:List Nat)(c:Nat):Prop where
 len:o.length=full.length
 low:Low o
 carry:c<=1
 sum:val ((o.drop off).take k)+1000000000^k*c=val ((full.drop off).take k)+val (v.take k)
 same:∀ j,j<off\/off+k<=j->o.getD j 0=full.getD j 0
def Nm.start (a v:List Nat)(d:Nat)(h:Low a):Nm a v d 0 a 0 :=
 ⟨rfl,h,oV,by simp[val],fun _ _=>rfl⟩
def Nm.step {d v o:List Nat}{a k c x y:Nat}(h:Nm d v a k o c)(u:Low v)(t:a+k<d.length)
 (e:x=v.getD k 0) (f:y=o.getD (a+k) 0) :
 Nm d v a (k+1) (o.set (a+k) ((y+x+c)%1000000000)) ((y+x+c)/1000000000):=by
 have n:=u.getD k;have q:=h.low.getD (a+k);have z:=h.carry;rw[<-e]at n;rw[<-f]at q;refine⟨by simp[h.len],h.low.set _ oV,oV,?_,fun j A=>?_⟩
 ·rw[A5,A5,A5,E4,E4];have g:((o.set (a+k) ((y+x+c)%1000000000)).drop a).take k=(o.drop a).take k:=by
   rw[A9w,if_neg oV,Nw _ _ _ _ oV]
  have m:(o.set (a+k) ((y+x+c)%1000000000)).getD (a+k) 0=(y+x+c)%1000000000:=by
   simp[A0j,h.len,t]
  rw[g,m,<-e,<-h.same (a+k) (Or.inr (A0s _)),<-f,A1w,A21,Hz,A1z,A1z];have B:=h.sum;omega
 rw[Ga _ _ oV];exact h.same j oV
end
section
variable {A V j m n:Nat}{qs u:List Nat}
def Ab3 (l:List Nat)(n:Nat):val (l.take (n+2))=val (l.take n)+1000000000^n*(l.getD n 0+1000000000*l.getD (n+1) 0):=by
 rw[A5,A5,A1w,A1z,A1o];omega
def Gj {l:List Nat}(h:Low l)(k:Nat):val (l.take k)<1000000000^k :=
 A12 (Ku (h.take k)) (A1h oV (by rw[A0q];omega))
def Aid {a v:List Nat}{d n:Nat}(C:v.length=n+2)(e:Low a)(f:Low v)(g:500000000<=v.getD (n+1) 0)
 (q:val ((a.drop d).take (n+3))<1000000000*val v) :
 Aab (v.getD (n+1) 0) (v.getD n 0) (a.getD (d+n) 0) (a.getD (d+(n+2)) 0*1000000000+a.getD (d+(n+1)) 0) (1000000000^n) (val v) (val ((a.drop d).take (n+3))):=by
 have k:val v=(v.getD (n+1) 0*1000000000+v.getD n 0)*1000000000^n+val (v.take n):=by
  have:=Ab3 v n;rw[<-C,A05]at this;rw[this,A1r (v.getD (n+1) 0*1000000000+v.getD n 0),A1r (v.getD (n+1) 0),A8x (v.getD n 0),A8x]
 have h:val ((a.drop d).take (n+3))=((a.getD (d+(n+2)) 0*1000000000+a.getD (d+(n+1)) 0)*1000000000+a.getD (d+n) 0)*1000000000^n+val ((a.drop d).take n):=by
  rw[A5,Ab3,E4,E4,E4,A4k,A1r _ (1000000000^n)];generalize 1000000000^n=p;rw[show (1000000000:Nat)^2=1000000000*1000000000 by rfl,A1o p,A21 (val _),<-A1z,A8x (val _)]
  congr 2
  omega
 have t:=f.getD (n+1);have z:=f.getD n;have B:=e.getD (d+n);have J:=e.getD (d+(n+1));have K:=e.getD (d+(n+2));have D:=Gj f n;have l2:=Gj (e.drop d) n;refine⟨⟨_,D,k⟩,⟨_,l2,h⟩,g,t,z,B,?_,q⟩;rw[h,k]at q;generalize v.getD (n+1) 0=v1 at *
 generalize v.getD n 0=v2 at *
 generalize a.getD (d+n) 0=u2 at *
 generalize a.getD (d+(n+1)) 0=u1 at *
 generalize a.getD (d+(n+2)) 0=u0 at *
 generalize val ((a.drop d).take n)=x at *
 generalize val (v.take n)=y at *
 generalize 1000000000^n=p at *
 have:(u0*1000000000*1000000000)*p<((v1+1)*1000000000*1000000000)*p:=by
  have E:(u0*1000000000*1000000000)*p<=((u0*1000000000+u1)*1000000000+u2)*p:=A1x _ oV;have F:1000000000*((v1*1000000000+v2)*p+y)<=1000000000*((v1*1000000000+v2+1)*p):=by
   refine A19 _ ?_;rw[A1m _ 1,A27];omega
  have H:1000000000*((v1*1000000000+v2+1)*p)=(1000000000*(v1*1000000000+v2+1))*p:=by rw[A1o]
  have I:(1000000000*(v1*1000000000+v2+1))*p<=((v1+1)*1000000000*1000000000)*p:=A1x _ oV;omega
 have:=A6v this;omega
def Hp (l:List Nat)(a n:Nat):val ((l.drop a).take (n+1))=val ((l.drop a).take n)+1000000000^n*l.getD (a+n) 0:=by
 rw[A5,E4]
def Aeo (o:List Nat)(a n d:Nat)(h:a+n<o.length):val (((o.set (a+n) d).drop a).take (n+1))=val ((o.drop a).take n)+1000000000^n*d:=by
 rw[Hp];have e:((o.set (a+n) d).drop a).take n=(o.drop a).take n:=by
  rw[A9w,if_neg oV,Nw _ _ _ _ oV]
 have f:(o.set (a+n) d).getD (a+n) 0=d:=by simp[A0j,h]
 rw[e,f]
structure Q9 (full:List Nat)(off n V:Nat)(o:List Nat):Prop where
 len:o.length=full.length
 low:Low o
 rest:val ((o.drop off).take (n+1))=val ((full.drop off).take (n+1))%V
 same:∀ j,j<off\/off+n<j->o.getD j 0=full.getD j 0
def Afu {e v o:List Nat}{f n q c:Nat}(C:v.length=n)(H:f+n<e.length)(h:Mj e v f q n o c)(F:Low e)
 (z:val ((e.drop f).take (n+1))/val v<=q) (g:0<val v) (L:c<=e.getD (f+n) 0) :
 q=val ((e.drop f).take (n+1))/val v/\Q9 e f n (val v) (o.set (f+n) (e.getD (f+n) 0-c)):=by
 have J:=h.sum;rw[<-C,A05,C]at J;have K:=Hp e f n;have k:=Aeo o f n (e.getD (f+n) 0-c) (by rw[h.len];exact H);have B:=F.getD (f+n);generalize O:e.getD (f+n) 0=u at *
 generalize t:val ((e.drop f).take (n+1))=U at *
 generalize val v=V at *
 generalize val ((e.drop f).take n)=x at *
 generalize val ((o.drop f).take n)=y at *
 have I:1000000000^n*u=1000000000^n*c+1000000000^n*(u-c):=by rw[<-A1z];congr 1;omega
 have E:U=q*V+(y+1000000000^n*(u-c)):=by
  generalize 1000000000^n*(u-c)=a at *
  generalize 1000000000^n*c=b at *
  generalize 1000000000^n*u=d at *
  omega
 have D:q=U/V:=by
  refine A78 ?_ z;rw[A4h g];omega
 refine⟨D,by simp[h.len],h.low.set _ oV,?_,fun j N=>?_⟩
 ·rw[k,t];have:=A2u U V;rw[<-D,A1r]at this;generalize 1000000000^n*(u-c)=a at *
  omega
 rw[Ga _ _ oV];exact h.same j oV
def Al0 {e v o E:List Nat}{g n q c C:Nat}(N:v.length=n)(Y:g+n<e.length)(h:Mj e v g q n o c)
 (J:q<=val ((e.drop g).take (n+1))/val v+1) (t:0<val v) (hv:val v<1000000000^n) (hc:e.getD (g+n) 0<c) (B:Nm o v g n E C) :
 q=val ((e.drop g).take (n+1))/val v+1/\e.getD (g+n) 0+C=c/\Q9 e g n (val v) (E.set (g+n) 0):=by
 have Q:=h.sum;have L:=B.sum;rw[<-N,A05,N]at Q L;have hU:=Hp e g n;have D:=Aeo E g n 0 (by rw[B.len,h.len];exact Y);have hy:=Gj (h.low.drop g) n;have hz:=Gj (B.low.drop g) n;have T:=A2u (val ((e.drop g).take (n+1))) (val v);have a0:=A2l (val ((e.drop g).take (n+1))) t;generalize e.getD (g+n) 0=u at *
 generalize H:val ((e.drop g).take (n+1))=U at *
 generalize val v=V at *
 generalize val ((e.drop g).take n)=x at *
 generalize val ((o.drop g).take n)=y at *
 generalize val ((E.drop g).take n)=z at *
 have R:=B.carry;obtain⟨k,rfl⟩:∃ k,c=u+1+k:=⟨c-u-1,oV⟩;have Z:1000000000^n*(u+1+k)=1000000000^n*u+1000000000^n+1000000000^n*k:=by rw[A1z,A1z,A5u]
 have X:1000000000^n*0<=1000000000^n*k:=A19 _ (A1c _);rw[Z]at Q;generalize hP:1000000000^n=P at *
 have K:U<q*V:=by
  generalize P*u=a at *
  generalize P*k=b at *
  omega
 have O:q=U/V+1:=by
  refine A78 J ?_;exact (A2o t).2 K
 have a1:q*V=V*(U/V)+V:=by rw[O,A1m,A27,A1r]
 have F:z+P*C=U%V+P+P*k:=by
  generalize P*u=a at *
  generalize P*k=b at *
  generalize P*C=d at *
  generalize V*(U/V)=f at *
  omega
 have I:C=1:=by
  rcases A1p C with h0|h0
  ·subst h0;rw[A29]at F;generalize P*k=b at *
   omega
  omega
 subst I;rw[A5u]at F;have W:k=0:=by
  rcases A1p k with h0|h0
  ·exact h0
  have:P*1<=P*k:=A19 _ h0;generalize P*k=b at *
  omega
 subst W;refine⟨O,oV,by simp[B.len,h.len],B.low.set _ oV,?_,fun j hj=>?_⟩
 ·rw[D,H,A29,A2w];rw[A29]at F;omega
 rw[Ga _ _ oV,B.same j oV];exact h.same j oV
structure Nd (A V n m:Nat)(j:Nat)(u qs:List Nat):Prop where
 ulen:u.length=m+n
 qlen:qs.length=m
 ulow:Low u
 qlow:Low qs
 less:val (u.drop j)<V
 sum:val u+1000000000^j*(val (qs.drop j)*V)=A
 zero:∀ k,j+n<=k->u.getD k 0=0
def Ho {j k:Nat}(h:∀ i,j+k<=i->u.getD i 0=0):val ((u.drop j).take k)=val (u.drop j):=by
 have g:val ((u.drop j).drop k)=0:=by
  have:∀ (l:List Nat),(∀ i,l.getD i 0=0)->val l=0:=by
   intro l;induction l with
   |nil=>intro _;rfl
   |cons d l ih =>
    intro a;have h0:d=0:=by simpa using a 0
    have e:=ih (fun i=>by simpa using a (i+1));simp[val,h0,e]
  refine this _ (fun i=>?_);rw[E4,E4];exact h _ oV
 by_cases f:k<=(u.drop j).length
 ·have:=Gi (u.drop j) k f;rw[g]at this;omega
 rw[A00 oV]
def Ae5 (a:j<u.length):val (u.drop j)=u.getD j 0+1000000000*val (u.drop (j+1)):=by
 rw[Cq u j a];rfl
def Nd.before (h:Nd A V n m (j+1) u qs)(d:j<m) :
 val ((u.drop j).take (n+1))<1000000000*V:=by
 rw[Ho (fun i a=>h.zero i oV),Ae5 (by have:=h.ulen;omega)];have:=h.less;have:=h.ulow.getD j;omega
def Nd.step {A V n m j:Nat}{u f qs:List Nat}(h:Nd A V n m (j+1) u qs)(F:j<m)(N:0<V)(O:V<1000000000^n)
 (t:Q9 u j n V f) (P:val ((u.drop j).take (n+1))/V<1000000000) :
 Nd A V n m j f (qs.set j (val ((u.drop j).take (n+1))/V)):=by
 have g:=t.rest;have E:=A2l (val ((u.drop j).take (n+1))) N;have B:f.getD (j+n) 0=0:=by
  have:=Hp f j n;rcases A1p (f.getD (j+n) 0) with h0|h0
  ·exact h0
  have:1000000000^n*1<=1000000000^n*f.getD (j+n) 0:=A19 _ h0;omega
 have d:∀ k,j+n<=k->f.getD k 0=0:=by
  intro k R;by_cases e:k=j+n
  ·rw[e];exact B
  rw[t.same k oV];exact h.zero k oV
 have z:val (f.drop j)=val ((u.drop j).take (n+1))%V:=by
  rw[<-g,Ho (fun i D=>d i oV)]
 refine⟨by rw[t.len];exact h.ulen,by simp[h.qlen],t.low,h.qlow.set _ P,by rw[z];exact E,?_,d⟩;have a:=h.sum;have H:=Gi u j (by have:=h.ulen;omega);have I:=Gi f j (by have:=h.ulen;have:=t.len;omega);have J:f.take j=u.take j:=by
  apply A4m;intro i;rw[A3f,A3f];split
  ·rename_i D;have:=t.same i (Or.inl D);have Q:i<f.length:=by have:=h.ulen;have:=t.len;omega
   have l2:i<u.length:=by have:=h.ulen;omega
   simp[A0j,Q,l2]at this⊢;exact this
  rfl
 have K:val ((u.drop j).take (n+1))=val (u.drop j):=Ho (fun i D=>h.zero i oV);have L:val ((qs.set j (val ((u.drop j).take (n+1))/V)).drop j)=val ((u.drop j).take (n+1))/V+1000000000*val (qs.drop (j+1)):=by
  rw[Cq _ j (by simp[h.qlen,F]),A49 oV];have:(qs.set j (val ((u.drop j).take (n+1))/V)).getD j 0=val ((u.drop j).take (n+1))/V:=by
   simp[A0j,h.qlen,F]
  rw[this];rfl
 rw[L,I,J,z,K];rw[H,A1w]at a;have C:=A2u (val (u.drop j)) V;generalize val (u.drop j)/V=q at *
 generalize val (u.drop j)%V=r at *
 generalize val (u.take j)=x at *
 generalize val (qs.drop (j+1))=y at *
 generalize 1000000000^j=p at *
 rw[<-C]at a;rw[<-a,A1m,A1z,A1z,A1r V q];rw[show p*1000000000*(y*V)=p*(1000000000*y*V) by rw[A1o,A1o]];omega
def Nd.done (h:Nd A V n m 0 u qs)(e:0<V):val qs=A/V/\val u=A%V:=by
 have d:=h.sum;have a:=h.less;simp only[A4v,A8y,A27]at d a;rw[<-d];constructor
 ·rw[Nat.add_mul_div_right _ _ e,A4i a,A2e]
 rw[Nat.add_mul_mod_self_right,A52 a]
end
section
variable {a b w wr:World}{base g n:Nat}{e:TypeId}{o:List Nat}{r:Option Nat}
def W3 (w:World)(r:Option Nat):w.grownBy w r:=⟨rfl,rfl,rfl,A0s _,fun _ _ _=>rfl⟩
def Uj {a b c:World}(h:a.grownBy b r)(k:b.grownBy c r):a.grownBy c r :=
 ⟨k.os.trans h.os,k.tape.trans h.tape,k.output.trans h.output,A0l h.size k.size,fun i d f=>(k.block i (A12 d h.size) f).trans (h.block i d f)⟩
def Afj (h:a.grownBy b r)(n:Nat):a.grownBy (b.drewN n) r:=by
 obtain⟨d,f,j,k,m⟩:=h;exact⟨d,f,j,k,m⟩
def F4 (w:World)(g:Nat)(a:Option Addr)(cs:List Value):Prop:=Row w a cs/\∀ b off,a=some ⟨b,off,none⟩->b≠g
def F4.grown {w w':World}{a:Option Addr}{cs:List Value}(h:F4 w g a cs)(m:w.grownBy w' (some g)):F4 w' g a cs:=by
 refine⟨fun j q=>?_,h.2⟩;obtain⟨b,d,f,k⟩:=h.1 j q;exact⟨b,d,f,m.cell k (by simp;exact h.2 b d f)⟩
def Aub (w:World)(base g N:Nat)(full:List Nat)(off n V:Nat)(e:Ending)(w':World):Prop :=
 ∃ o,e=.returned (.int .u64 ((val ((full.drop off).take (n+1))/V:Nat):Int))/\Q9 full off n V o /\
  w'.ownsRow base 251 1 (.slice (some ⟨g,0,none⟩) N N) N (A7 o)/\w.grownBy w' (some g)
def Aoh (w:World)(v1 top V U:Nat)(q r:Value)(wr:World):Prop :=
 ∃ qq rr:Nat,q=.int .u64 (qq:Int)/\r=.int .u64 (rr:Int)/\Q5 v1 top V U qq rr/\rr<2000000000/\∃ d,wr=w.drewN d
def As4 (w:World)(base g N:Nat)(full m:List Nat)(off q n:Nat)(c i:Value)(wr:World):Prop :=
 ∃ (k:Nat) (o:List Nat) (cc:Nat),k<=n/\i=.int .i64 k/\c=.int .u64 (cc:Int)/\Mj full m off q k o cc /\
  wr.ownsRow base 251 1 (.slice (some ⟨g,0,none⟩) N N) N (A7 o)/\w.grownBy wr (some g)
def Auj (w:World)(base g N:Nat)(full m:List Nat)(off n:Nat)(c i:Value)(wr:World):Prop :=
 ∃ (k:Nat) (o:List Nat) (cc:Nat),k<=n/\i=.int .i64 k/\c=.int .u64 (cc:Int)/\Nm full m off k o cc /\
  wr.ownsRow base 251 1 (.slice (some ⟨g,0,none⟩) N N) N (A7 o)/\w.grownBy wr (some g)
def Gv {n j:Nat}(h:wr.ownsRow base e 1 (.slice (some ⟨g,0,none⟩) n n) n (A7 o))(k:j<o.length) :
 wr.cell? ⟨g,j,none⟩=some (.int .u64 (o.getD j 0:Nat)):=by
 obtain⟨b,m,f,d⟩:=(Row.of_owns h).at k;obtain⟨rfl,rfl⟩:=f;rw[A2e]at d;exact d
def Mm (j d:Nat)(h:wr.ownsRow base e 1 (.slice (some ⟨g,0,none⟩) n n) n (A7 o))(x:w.grownBy wr (some g)) :
 (wr.setCell ⟨g,j,none⟩ (.int .u64 (d:Int))).ownsRow base e 1 (.slice (some ⟨g,0,none⟩) n n) n (A7 (o.set j d)) /\
  w.grownBy (wr.setCell ⟨g,j,none⟩ (.int .u64 (d:Int))) (some g):=by
 have:=h.stored j (.int .u64 (d:Int));rw[Yu]at this;exact⟨this.1,Uj x this.2⟩
def Anj {u c b:Nat}(h:u+c=b):IntKind.u64.wrap ((u:Int)+IntKind.u64.wrap ((c:Int)-b))=((0:Nat):Int):=by
 have e:∀ n:Int,IntKind.u64.wrap n=n%18446744073709551616:=fun n=>by simp[IntKind.wrap,IntKind.signed,IntKind.bits]
 rw[e,e];omega
set_option maxRecDepth 100000 in
def Aml (base g N f n cu:Nat)(b:Option Addr)(cb:Nat)(h m:List Nat)(w:World)
 (t:w.ownsRow base 251 1 (.slice (some ⟨g,0,none⟩) N N) N (A7 h)) (hv:F4 w g b (A7 m)) (ai:h.length=N)
 (lf:Low h) (lm:Low m) (hm:m.length=n+2) (hN:f+(n+2)<N) (ay:N<=30000000000000) (b8:n+3<=cu)
 (al:500000000<=m.getD (n+1) 0) (hU:val ((h.drop f).take (n+3))<1000000000*val m) :
 Calls prog 259 #[.slice (some ⟨g,f,none⟩) (n+3) cu,.slice b (n+2) cb] w (Aub w base g N h f (n+2) (val m)):=by
 have hp:=Aid hm lf lm al hU;obtain⟨bv,ov,rfl,a7⟩:=hv.1.at (j:=n+1) oV;have a8:w.cell? ⟨bv,ov+n,none⟩=some (.int .u64 (m.getD n 0:Nat)):=by
  obtain⟨b',ac,h1,h2⟩:=hv.1.at (j:=n) oV;simp only[A0u,Addr.mk.injEq,and_true]at h1;obtain⟨rfl,rfl⟩:=h1;exact h2
 have a4:=Gv t (j:=f+(n+2)) oV;have a5:=Gv t (j:=f+(n+1)) oV;have a6:=Gv t (j:=f+n) oV;obtain⟨v1,U⟩:∃ x,x=m.getD (n+1) 0:=⟨_,rfl⟩;obtain⟨v2,V⟩:∃ x,x=m.getD n 0:=⟨_,rfl⟩;obtain⟨W,D⟩:∃ x,x=h.getD (f+(n+2)) 0:=⟨_,rfl⟩;obtain⟨u1,I⟩:∃ x,x=h.getD (f+(n+1)) 0:=⟨_,rfl⟩;obtain⟨u2,T⟩:∃ x,x=h.getD (f+n) 0:=⟨_,rfl⟩;rw[<-U,<-V,<-D,<-I,<-T]at hp;rw[<-U]at a7 al;rw[<-V]at a8;rw[<-D]at a4;rw[<-I]at a5;rw[<-T]at a6;have b1:=hp.v1low;have b2:=hp.v2low;have b3:=hp.u2low;have b4:W<1000000000:=by rw[D];exact lf.getD _
 have b5:u1<1000000000:=by rw[I];exact lf.getD _
 have b6:((v1:Int)==0)=false:=gV;have HP:=Lib.hid hp;have HO:=Lib.hid t;have HV:=Lib.hid hv;have LF:=Lib.hid lf;have LM:=Lib.hid lm;have HM:=Lib.hid hm;have K:=Lib.hid ai;have E0:=Lib.hid D;clear hp t hv lf lm hm ai U V D I T hU
 go_enter func259,ntmps259
 go_wp2_with fail
 go_quiet (fail)
 go_wp2_with fail
 go_quiet (fail)
 go_wp2_with fail
 rw[show ((W:Int)*1000000000+u1)/v1=(((W*1000000000+u1)/v1:Nat):Int) by simp,show ((W:Int)*1000000000+u1)%v1=(((W*1000000000+u1)%v1:Nat):Int) by simp]
 go_loopw [7,8] (Aoh w v1 (W*1000000000+u1) (val m) (val ((h.drop f).take (n+3)))) (fun _ r _=>(1000000000-intOf r).toNat)
 case atStart =>
  have a1:=A2l (W*1000000000+u1) (show 0<v1 by omega);exact⟨_,_,rfl,rfl,Q5.start HP.out,oV,_,World.drewN_drewN _ _ _⟩
 case round =>
  obtain⟨J,rr,rfl,rfl,ht,bf,d,rfl⟩:=hrel;have HT:=Lib.hid ht;have bd:=ht.qle;clear ht;obtain⟨p,hp⟩:∃ p,p=J*v2:=⟨_,rfl⟩;have ao:p<=2000000000*999999999:=by rw[hp];exact A2p oV oV
  have O:((J:Int)*v2)=p:=by rw[hp];exact (A3x _ _).symm
  have PP:=Lib.hid hp;clear hp;by_cases B:rr<1000000000/\(1000000000<=J\/rr*1000000000+u2<p)
  ·have F:=HT.out.step HP.out (by rw[<-PP.out];exact B.2);have ae:=Lib.hid F;have ba:=F.1;clear F;obtain⟨az,ah⟩:=B;have d1:decide ((rr:Int)<1000000000)=true:=gV;by_cases b0:1000000000<=J
   ·have d2:decide ((1000000000:Int)<=J)=true:=gV;clear ah
    go_wp2_with fail
    go_quiet (fail)
    go_wp2_with fail
    exact⟨⟨J-1,rr+v1,by go_num,by go_num,ae.out.2,oV,_,rfl⟩,by simp only[intOf];omega⟩
   have d2:decide ((1000000000:Int)<=J)=false:=gV;have d3:decide ((rr:Int)*1000000000+u2<p)=true:=gV;clear ah
   go_wp2_with fail
   go_quiet (fail)
   go_wp2_with fail
   exact⟨⟨J-1,rr+v1,by go_num,by go_num,ae.out.2,oV,_,rfl⟩,by simp only[intOf];omega⟩
  have Q:=HT.out.done HP.out (by rw[<-PP.out];exact B);have HF:=Lib.hid Q;have be:=Q.1;clear Q;have a2:(decide ((rr:Int)<1000000000)=false)\/(decide ((rr:Int)<1000000000)=true/\decide ((1000000000:Int)<=J)=false/\decide ((rr:Int)*1000000000+u2<p)=false):=by
   simp only[decide_eq_false_iff_not,decide_eq_true_eq];omega
  clear B;rcases a2 with d1|⟨d1,d2,d3⟩;all_goals
   go_wp2_with fail
   go_quiet (fail)
   go_wp2_with fail
   go_loopw [9,80] (As4 w base g N h m f J (n+2)) (fun _ i _=>(n+2)-(intOf i).toNat)
   case atStart=>exact⟨0,h,0,oV,rfl,rfl,Mj.start _ _ _ _ LF.out,Pk HO.out _,Afj (W3 _ _) _⟩
   case round =>
    obtain⟨k,o,C,hk,rfl,rfl,a3,t,aj⟩:=hrel;have X:=Lib.hid a3;have Z:=Lib.hid t;have HG:=Lib.hid aj;have b7:=a3.carry;have b9:N<=o.length:=by have:=a3.len;have:=K.out;omega
    clear a3 t aj d1 a7 a8 a4 a5 a6 O ao;by_cases a1:k<n+2
    ·obtain⟨x,hx⟩:∃ x,x=m.getD k 0:=⟨_,rfl⟩;obtain⟨y,hy⟩:∃ y,y=o.getD (f+k) 0:=⟨_,rfl⟩;have aq:x<1000000000:=by rw[hx];exact LM.out.getD k
     have ar:y<1000000000:=by rw[hy];exact X.out.low.getD _
     have am:wr.cell? ⟨bv,ov+k,none⟩=some (.int .u64 (x:Int)):=by
      obtain⟨b',ac,h1,h2⟩:=(HV.out.grown HG.out).1.at (j:=k) (by rw[HM.out];exact a1);simp only[A0u,Addr.mk.injEq,and_true]at h1;obtain⟨rfl,rfl⟩:=h1;rw[hx];exact h2
     have u:=Gv Z.out (j:=f+k) oV;have a0:=Z.out.frozenAt (f+k);rw[<-hy]at u;have XX:=Lib.hid hx;have YY:=Lib.hid hy;clear hx hy;obtain⟨E,O⟩:∃ E,E=J*x:=⟨_,rfl⟩;have aw:E<=999999999*999999999:=by rw[O];exact A2p oV oV
     have ax:((J:Int)*x)=E:=by rw[O];exact (A3x _ _).symm
     have ag:=Lib.hid O;clear O;by_cases bg:y<(E+C)%1000000000
     ·have d4:decide ((y:Int)<((E:Int)+C)%1000000000)=true:=gV
      go_wp2_with fail
      rw[show (y:Int)+1000000000=((y+1000000000:Nat):Int) by omega,show ((y+1000000000:Nat):Int)-((E:Int)+C)%1000000000=((y+1000000000-(E+C)%1000000000:Nat):Int) by omega,show ((E:Int)+C)/1000000000+1=(((E+C)/1000000000+1:Nat):Int) by omega];have ak:=Mm (f+k) (y+1000000000) Z.out HG.out;have q:=Mm (f+k) (y+1000000000-(E+C)%1000000000) ak.1 ak.2;rw[A5i]at q;refine⟨⟨k+1,_,_,oV,by go_num,rfl,?_,q.1,q.2⟩,by simp only[intOf];omega⟩;exact X.out.step (by have:=K.out;omega) XX.out YY.out oV oV (by rw[<-ag.out];omega)
     have d4:decide ((y:Int)<((E:Int)+C)%1000000000)=false:=gV
     go_wp2_with fail
     rw[show (y:Int)-((E:Int)+C)%1000000000=((y-(E+C)%1000000000:Nat):Int) by omega,show ((E:Int)+C)/1000000000=(((E+C)/1000000000:Nat):Int) by omega];have q:=Mm (f+k) (y-(E+C)%1000000000) Z.out HG.out;refine⟨⟨k+1,_,_,oV,by go_num,rfl,?_,q.1,q.2⟩,by simp only[intOf];omega⟩;exact X.out.step (by have:=K.out;omega) XX.out YY.out oV oV (by rw[<-ag.out];omega)
    obtain rfl:k=n+2:=oV;have u:=Gv Z.out (j:=f+(n+2)) oV;have a0:=Z.out.frozenAt (f+(n+2));rw[X.out.same _ (Or.inr (A0s _)),<-E0.out]at u;have A:=HP.out.pos;by_cases an:C<=W
    ·have hd:=Afu HM.out (by rw[K.out];exact hN) X.out LF.out HF.out.2.1 A (by rw[<-E0.out];exact an);rw[<-E0.out]at hd;have HD:=Lib.hid hd;clear hd A
     go_wp2_with fail
     go_ret
     rw[show (W:Int)-C=((W-C:Nat):Int) by omega];have q:=Mm (f+(n+2)) (W-C) Z.out HG.out;exact⟨_,by rw[<-HD.out.1];rfl,HD.out.2,q.1,q.2⟩
    have aa:=X.out.low;have LO:=Lib.hid aa;have VP:=Lib.hid A;clear aa A u a0;obtain⟨wo,ap⟩:∃ wo:World,wo=wr:=⟨_,rfl⟩;subst ap;have u:=Gv Z.out (j:=f+(n+2)) oV;rw[X.out.same _ (Or.inr (A0s _)),<-E0.out]at u
    go_wp2_with fail
    go_loopw [14,132] (Auj w base g N o m f (n+2)) (fun _ i _=>(n+2)-(intOf i).toNat)
    case atStart=>exact⟨0,o,0,oV,rfl,rfl,Nm.start _ _ _ LO.out,Z.out,HG.out⟩
    case round =>
     obtain⟨k,o2,P,hk,rfl,rfl,H,R,a9⟩:=hrel;have Y:=Lib.hid H;have L:=Lib.hid R;have ad:=Lib.hid a9;have au:=H.carry;have av:N<=o2.length:=by have:=H.len;omega
     clear H R a9 u;by_cases a1:k<n+2
     ·obtain⟨x,hx⟩:∃ x,x=m.getD k 0:=⟨_,rfl⟩;obtain⟨y,hy⟩:∃ y,y=o2.getD (f+k) 0:=⟨_,rfl⟩;have aq:x<1000000000:=by rw[hx];exact LM.out.getD k
      have ar:y<1000000000:=by rw[hy];exact Y.out.low.getD _
      have am:wr.cell? ⟨bv,ov+k,none⟩=some (.int .u64 (x:Int)):=by
       obtain⟨b',ac,h1,h2⟩:=(HV.out.grown ad.out).1.at (j:=k) (by rw[HM.out];exact a1);simp only[A0u,Addr.mk.injEq,and_true]at h1;obtain⟨rfl,rfl⟩:=h1;rw[hx];exact h2
      have u:=Gv L.out (j:=f+k) oV;have a0:=L.out.frozenAt (f+k);rw[<-hy]at u;have XX:=Lib.hid hx;have YY:=Lib.hid hy;clear hx hy
      go_wp2_with fail
      rw[show ((y:Int)+x+P)%1000000000=(((y+x+P)%1000000000:Nat):Int) by omega,show ((y:Int)+x+P)/1000000000=(((y+x+P)/1000000000:Nat):Int) by omega];have q:=Mm (f+k) ((y+x+P)%1000000000) L.out ad.out;refine⟨⟨k+1,_,_,oV,by go_num,rfl,?_,q.1,q.2⟩,by simp only[intOf];omega⟩;exact Y.out.step LM.out (by have:=K.out;have:=X.out.len;omega) XX.out YY.out
     obtain rfl:k=n+2:=oV;have hb:=Al0 HM.out (by rw[K.out];exact hN) X.out HF.out.2.2 VP.out (by have:=Ku LM.out;rw[HM.out]at this;exact this) (by rw[<-E0.out];omega) Y.out;rw[<-E0.out]at hb;have ab:=hb.2.1;have u:=Gv L.out (j:=f+(n+2)) oV;have a0:=L.out.frozenAt (f+(n+2));rw[Y.out.same _ (Or.inr (A0s _)),X.out.same _ (Or.inr (A0s _)),<-E0.out]at u;have bb:1<=J:=by rw[hb.1];exact Nat.le_add_left 1 _
     have HB:=Lib.hid hb;have af:=Lib.hid ab;clear hb ab
     go_wp2_with fail
     go_ret
     rw[Anj af.out];have q:=Mm (f+(n+2)) 0 L.out ad.out;refine⟨_,?_,HB.out.2.2,q.1,q.2⟩;refine congrArg (fun z:Int=>Ending.returned (.int .u64 z)) (a₁:=(J:Int)-1) ?_;have:=HB.out.1;omega
end
section
variable {f k m n:Nat}
structure As6 (n k f:Nat):Prop where
 len:nl n=k+2
 pos:1<=f
 low:f<1000000000
 vlen:nl (n*f)=k+2
 vtop:500000000<=(Aa (n*f)).getD (k+1) 0
 fle:f*1000000000^(k+1)<=n*f
def Aj5 (n k:Nat)(h:nl n=k+2):n=val ((Aa n).take (k+1))+1000000000^(k+1)*(Aa n).getD (k+1) 0:=by
 have:=A5 (Aa n) (k+1);rw[A00 (show (Aa n).length<=k+1+1 from Nat.le_of_eq h),Al]at this;exact this
def As1 (n k:Nat)(h:nl n=k+2):1<=(Aa n).getD (k+1) 0:=by
 have a:n≠0:=by intro e;rw[e,Ux]at h;omega
 have:=Pj a;have d:(Aa n).length=k+2:=h;rw[d]at this;simp only[A5h,show k+2-1=k+1 from rfl]at this;omega
def As6.make (h:nl n=k+2):As6 n k (1000000000/((Aa n).getD (k+1) 0+1)):=by
 have H:=As1 n k h;have Q:=(Ar n).getD (k+1);have U:=Aj5 n k h;have L:=Gj (Ar n) (k+1);generalize (Aa n).getD (k+1) 0=b at *
 have a:=A2u 1000000000 (b+1);have N:=A2l 1000000000 (show 0<b+1 by omega);generalize T:1000000000/(b+1)=f at *
 generalize 1000000000%(b+1)=r at *
 have d:1<=f:=by
  rcases A1p f with h0|h0
  ·rw[h0,A29]at a;omega
  exact h0
 have q:f<1000000000:=by
  have:(1+1)*f<=(b+1)*f:=A1x _ oV;omega
 have J:b*f+f+r=1000000000:=by rw[A1m,A27]at a;exact a
 have D:b+f<=b*f+1:=by
  obtain⟨x,rfl⟩:∃ x,b=x+1:=⟨b-1,oV⟩;obtain⟨y,rfl⟩:∃ y,f=y+1:=⟨f-1,oV⟩;rw[A1m,A1z,A27,A5u];have:0<=x*y:=A1c _;omega
 have E:500000000<=b*f:=oV;generalize V:val ((Aa n).take (k+1))=x at *
 generalize g:1000000000^(k+1)=P at *
 have j:P<=n:=by
  have:P*1<=P*b:=A19 _ H;omega
 have u:n*f<P*1000000000:=by
  have A:n<P*(b+1):=by rw[A1z,A5u];omega
  have F:n*f<P*(b+1)*f:=A6p A oV;have B:P*(b+1)*f<=P*1000000000:=by rw[A1o];exact A19 _ oV
  omega
 have K:P<=n*f:=by
  have:n*1<=n*f:=A19 _ d;omega
 have e:nl (n*f)=k+2:=by
  refine A78 (A8 (by rw[show k+2=k+1+1 from rfl,A1w,g];exact u)) ?_;rcases A16 (nl (n*f)) (k+2) with C|C
  ·have R:=C2 (n*f);have I:1000000000^nl (n*f)<=1000000000^(k+1):=A1h oV oV;rw[g]at I;omega
  exact C
 refine⟨h,d,q,e,?_,?_⟩
 ·have O:=Aj5 (n*f) k e;have z:=Gj (Ar (n*f)) (k+1);rw[g]at O z;generalize (Aa (n*f)).getD (k+1) 0=t at *
  have A:P*(b*f)<=n*f:=by
   rw[<-A1o];exact A1x _ oV
  have F:n*f<P*(t+1):=by rw[A1z,A5u];omega
  have B:P*(b*f)<P*(t+1):=oV;have:=A8t B;omega
 rw[A1r n];exact A19 _ (by rw[g];exact j)
def Nd.start {m n k f M:Nat}(h:As6 n k f)(u:nl m+1=M+(k+2)) :
 Nd (m*f) (n*f) (k+2) M M (Aa (m*f)++List.replicate (M+(k+2)-nl (m*f)) 0) (List.replicate M 0):=by
 have D:nl (m*f)<=M+(k+2):=by
  rw[<-u];refine A0l (Gp m f) (Nat.add_le_add_left ?_ _);exact A8 (by simpa using h.low)
 have d:(Aa (m*f)++List.replicate (M+(k+2)-nl (m*f)) 0).length=M+(k+2):=by
  rw[A03,A2z];unfold nl at *;omega
 have a:val (Aa (m*f)++List.replicate (M+(k+2)-nl (m*f)) 0)=m*f:=by
  rw[Pz,Abb,Al];omega
 refine⟨d,mV,(Ar _).append (Low.zeros _),Low.zeros _,?_,?_,?_⟩
 ·have z:=Gi (Aa (m*f)++List.replicate (M+(k+2)-nl (m*f)) 0) M oV;rw[a]at z;generalize val ((Aa (m*f)++List.replicate (M+(k+2)-nl (m*f)) 0).drop M)=y at *
  generalize val ((Aa (m*f)++List.replicate (M+(k+2)-nl (m*f)) 0).take M)=x at *
  have g:=C2 m;rw[show nl m=M+(k+1) by omega,A4k]at g;have e:=h.fle;have q:=h.pos;generalize 1000000000^(k+1)=P at *
  generalize 1000000000^M=Q at *
  have A:m*f<Q*P*f:=A6p g oV;have B:Q*P*f=Q*(f*P):=by rw[A1o,A1r P]
  have t:Q*y<Q*(f*P):=oV;have:=A8t t;omega
 ·rw[a,A11 mV];simp[val]
 intro j C;have:(Aa (m*f)++List.replicate (M+(k+2)-nl (m*f)) 0)[j]?=none:=A1k oV;rw[A0j,this];rfl
def Ae7 (a:0<f):m*f/(n*f)=m/n/\m*f%(n*f)=(m%n)*f :=
 ⟨Nat.mul_div_mul_right m n a,Nat.mul_mod_mul_right f m n⟩
end
section
variable {N base g k n:Nat}{e:TypeId}{w w':World}{xs:List Value}
def U5 (w:World)(m n:Nat)(e:Ending)(w':World):Prop:=∃ u v,e=.returned (.tuple #[u,v])/\Cz w' u m/\Cz w' v n/\Ext w w'
def Aiv {m n:Nat}(h:n<=m):0<=sgn ((m:Int)-n):=by
 rcases A16 n m with a|a
 ·rw[Db oV];omega
 rw[show (m:Int)-n=0 by omega,R7];omega
set_option maxRecDepth 100000 in
def Ad2 (a d:Value)(m n:Nat)(w:World)(f:Cz w a m)(u:Cz w d n)(y:nl m<=10000000000000)(sb:nl n<=10000000000000)(x:m<n) :
 Calls prog 227 #[a,d] w (U5 w 0 m):=by
 have j:=Lib.hid f;have h:=Gl a d m n w f u y sb;rw[En oV]at h;have t:=Lib.hid h
 go_enter func227,ntmps227
 go_wp2_with fail
 refine t.out.mono ?_;rintro e w' ⟨rfl,q,rfl⟩
 go_wp2_with fail
 go_ret2
 exact⟨_,_,rfl,Cz.zero _ _ _,j.out.ext ((Ext.refl w).drewN q),(Ext.refl w).drewN q⟩
def E1 {d:Nat}(h0:d≠0)(h:d<1000000000):Aa d = [d]:=by
 rw[Gf h0,show d/1000000000=0 by omega,Bn,show d%1000000000=d by omega]
def Ak3 (a:World)(r:Nat):Row (a.alloc (Obj.cells #[Value.int IntKind.u64 (r:Int)] 251)) (some ⟨a.heap.size,0,none⟩) (A7 [r]):=by
 intro j d;obtain rfl:j=0:=by simp_all
 exact⟨_,_,rfl,by simp[A7]⟩
set_option maxRecDepth 100000 in
def Ac8 (x D:Value)(m n:Nat)(w:World)(F:Cz w x m)(H:Cz w D n)(K:nl m<=10000000000000)(f:0<n)(J:n<1000000000)(A:n<=m) :
 Calls prog 227 #[x,D] w (U5 w (m/n) (m%n)):=by
 have I:=E1 oV J;have L:=Lib.hid F;have R:=Gl x D m n w F H K (by unfold nl;rw[I];simp);obtain⟨s,T⟩:∃ s,s=sgn ((m:Int)-n):=⟨_,rfl⟩;have U:0<=s:=by rw[T];exact Aiv A
 have E:=Lib.hid R;obtain⟨b,Y,rfl,_,a⟩:=H;rw[I]at a E⊢;obtain⟨X,Z,rfl,z⟩:=a.at (j:=0) mV;simp only[A2w]at z
 go_enter func227,ntmps227
 go_wp2_with fail
 refine E.out.mono ?_;rintro e w' ⟨rfl,q,rfl⟩
 go_wp2_with fail
 have t:=Q2 x m n _ (L.out.ext ((Ext.refl w).drewN q)) K f J;obtain⟨r,u⟩:∃ r,r=m%n:=⟨_,rfl⟩;rw[<-u]at t;have B:r<1000000000:=by rw[u];have:=A2l m f;omega
 have O:=Lib.hid u;clear u;refine t.mono ?_;rintro e y ⟨v,rfl,V,W⟩;have P:=Lib.hid V;have Q:=Lib.hid W
 go_wp2_with fail
 have a:Row (y.alloc (Obj.cells #[Value.int IntKind.u64 (r:Int)] 251)) (some ⟨y.heap.size,0,none⟩) (A7 [r]):=Ak3 y r;refine (G5 _ _ _ [r] _ rfl mV mV a).mono ?_;rintro e w' ⟨rfl,rfl⟩;have h:=D0 (cap:=1) (Low.cons B Low.nil) a (n:=r) (by simp[val]) mV;have d:=Lib.hid h
 go_wp2_with fail
 go_ret2
 have C:=(((Ext.refl w).drewN q).trans Q.out).alloc (Obj.cells #[Value.int IntKind.u64 (r:Int)] 251);exact⟨_,_,rfl,P.out.ext ((Ext.refl y).alloc _),by rw[<-O.out];exact d.out,C⟩
def Abs (n:Nat):Array Value:=(A7 (List.replicate n 0)).toArray
def Wf (W:World)(N:Int)(n:Nat)(h:N=n)(q:n<=30000000000000) :
 (Instr.makeSlice 122 (.int .i64 N) (.int .i64 N)).run prog W=.ok (.slice (some ⟨W.heap.size,0,none⟩) n n) (W.alloc (.cells (Abs n) 251)):=by
 subst h;obtain⟨m,j,a,d,f⟩:=info_parts Tryz.info251;have:=run_make (P:=prog) W 122 251 m (.int .u64 0) Tryz.underlying122 j a .i64 .i64 n n oV oV (by rw[f];omega) oV;rw[this,A2r,d];have e:madeCells (Value.int .u64 0).cells (n*1)=Abs n:=by
  apply A6q;rw[Lj];rfl
 rw[e]
def Xi (W:World)(base n:Nat)(a:base<=W.heap.size)(d:n<=30000000000000) :
 (W.alloc (.cells (Abs n) 251)).ownsRow base 251 1 (.slice (some ⟨W.heap.size,0,none⟩) n n) n (A7 (List.replicate n 0)):=by
 have:=World.ownsRow_lit (e:=251) (size:=1) (base:=base) W (Abs n) n a (by unfold maxLen;omega) (by simp[Abs]);exact this
def Abf (w:World)(B N V:Nat)(u v:Value)(wx:World):Prop :=
 ∃ g av nv cv,u=.slice (some ⟨g,0,none⟩) N N/\v=.slice av nv cv/\nv=nl V/\wx.ownsRow B 251 1 (.slice (some ⟨g,0,none⟩) N N) N (A7 (List.replicate N 0)) /\
  F4 wx g av (A7 (Aa V))/\Ext w wx/\w.heap.size<=g
def Ext.grownBy (h:Ext w w')(r:Option Nat):w.grownBy w' r:=⟨h.os,h.tape,h.output,h.size,fun k a _=>Below.block h k a⟩
def Xy {size g n cap k:Nat}(h:w.ownsRow base e size (.slice (some ⟨g,0,none⟩) n cap) k xs)(x:Ext w w') :
 w'.ownsRow base e size (.slice (some ⟨g,0,none⟩) n cap) k xs:=h.kept (x.grownBy none) (Or.inr (by simp[Value.ownBlock]))
def Axw {a d:World}{N V m cap:Nat}(t:N<=30000000000000)(h:Cz d (.slice (some ⟨(a.alloc (.cells (Abs N) 251)).drew.heap.size,0,none⟩) m cap) V)
 (j:Ext (a.alloc (.cells (Abs N) 251)).drew d) :
 Abf a a.heap.size N V (.slice (some ⟨a.heap.size,0,none⟩) N N) (.slice (some ⟨a.heap.size+1,0,none⟩) m cap) d:=by
 have y:(a.alloc (.cells (Abs N) 251)).drew.heap.size=a.heap.size+1:=mV
 rw[y]at h;obtain⟨A,B,f,_,x⟩:=h;simp only[Value.slice.injEq]at f;obtain⟨rfl,q,rfl⟩:=f;refine⟨a.heap.size,_,_,_,rfl,rfl,q,Xy (World.ownsRow.drew (Xi a _ N (A0s _) t)) j,⟨x,?_⟩,(((Ext.refl a).alloc _).drew).trans j,A0s _⟩;intro b z u;simp only[A0u,Addr.mk.injEq]at u;omega
def Ayg {a d:World}{N V t cap:Nat}(z:N<=30000000000000)(H:0<V)(C:Cz d (.slice (some ⟨a.drew.heap.size,0,none⟩) t cap) V)(D:Ext a.drew d) :
 Abf a a.heap.size N V (.slice (some ⟨d.heap.size,0,none⟩) N N) (.slice (some ⟨a.heap.size,0,none⟩) t cap) (d.alloc (.cells (Abs N) 251)):=by
 have I:a.drew.heap.size=a.heap.size:=rfl;obtain⟨E,F,m,_,q⟩:=C;simp only[Value.slice.injEq]at m;obtain⟨rfl,u,rfl⟩:=m;have B:a.heap.size<d.heap.size:=by
  obtain⟨b,h,x,y⟩:=q.at (j:=0) (by
   have:Aa V≠[]:=fun e=>by have:=Gk.1 e;omega
   exact A4o.2 this)
  simp only[A0u,Addr.mk.injEq]at x;have:=block_lt_of_cell y;simp only at this;omega
 have f:Ext a d:=((Ext.refl a).drew).trans D;refine⟨d.heap.size,_,_,_,rfl,rfl,u,Xi d _ N f.size z,⟨q.ext ((Ext.refl d).alloc _),?_⟩,f.alloc _,f.size⟩;intro b h A;simp only[A0u,Addr.mk.injEq]at A;omega
theorem Py (h:w.ownsRow base e 1 (.slice (some ⟨g,0,none⟩) n n) n xs) :
 w.heap[g]?=some (.cells xs.toArray e (0,0))/\base<=g:=by
 rcases h.2 with ⟨f,_⟩|⟨u,d,j,f,m,q,_,_,t,a⟩
 ·grind
 obtain⟨rfl,rfl⟩:=f;rw[A00 gV]at a;rw[<-a];exact⟨by simpa using q,m⟩
def Ag4 (h:w.heap[g]?=some (.cells xs.toArray e (0,0)))(a:base<=g)(f:xs.length=n)(d:n<=30000000000000) :
 w.ownsRow base e 1 (.slice (some ⟨g,0,none⟩) n n) n xs:=by
 refine⟨oV,Or.inr ⟨g,n,xs.toArray,rfl,a,h,A0s _,by unfold maxLen;omega,gV,?_⟩⟩;rw[A00 gV]
def Abj (w:World)(g:Nat)(cs:Array Value):w.grownBy (w.setRow g cs) (some g) :=
 ⟨rfl,rfl,rfl,mV,fun k _ a=>setRow_other w g k _ (fun e=>a (by simp[e]))⟩
def Awb {l:List Nat}(h:w.ownsRow base 251 1 (.slice (some ⟨g,0,none⟩) N N) N (A7 (List.replicate N 0)))(j:l.length<=N)(f:N<=30000000000000) :
 (w.setRow g ((A7 (List.replicate N 0)).toArray.toList.take 0++(A7 l++(A7 (List.replicate N 0)).toArray.toList.drop (0+(A7 l).length))).toArray).ownsRow base 251 1 (.slice (some ⟨g,0,none⟩) N N) N
  (A7 (l++List.replicate (N-l.length) 0)):=by
 obtain⟨a,d⟩:=Py h;have e:(A7 (List.replicate N 0)).toArray.toList.take 0++(A7 l++(A7 (List.replicate N 0)).toArray.toList.drop (0+(A7 l).length))=A7 (l++List.replicate (N-l.length) 0):=by
  simp[A7]
 rw[e];exact Ag4 (setRow_heap w g _ _ _ _ a) d gV f
theorem Q0 {w:World}{y:Array Oper}{rest:List Oper}{o:Oper}{a:Act}{Q:Exit->Act->World->Prop}(A:o.guard=none)(d s:Operand)
 (O:o.op=.call { callee:=.builtin .copy,args:=#[d,s],argTypes:=#[122,122] })
 (base g N f t:Nat) (z:Addr) (l:List Nat) (J:a.eval d=.slice (some ⟨g,0,none⟩) N N) (P:a.eval s=.slice (some z) f t)
 (m:w.ownsRow base 251 1 (.slice (some ⟨g,0,none⟩) N N) N (A7 (List.replicate N 0))) (L:l.length=f) (I:N<=30000000000000) (D:l.length<=N)
 (u:Row w (some z) (A7 l))
 (h:∀ w',w'.ownsRow base 251 1 (.slice (some ⟨g,0,none⟩) N N) N (A7 (l++List.replicate (N-l.length) 0))->w.grownBy w' (some g)->wpList prog y Q rest (a.put o.dst (goInt (A7 l).length)) w') :
 wpList prog y Q (o::rest) a w:=by
 obtain⟨V,K,T,E,U⟩:=info_parts Tryz.info251;refine wpList_copy_own A d s _ _ O 251 Tryz.underlying122 (by rw[K];simp[E]) g 0 N N z f t J P (A7 (List.replicate N 0)).toArray 251 (Py m).1 (A7 l)
  (by rw[Uo,L];exact (A3o oV).symm) (fun j v B=>?_) gV (fun v R=>?_) (h _ (Awb m D I) (Abj _ _ _))
 ·have C:j<l.length:=by
   rcases A16 j l.length with h|h
   ·exact h
   rw[A1k (by simpa using h)]at B;cases B
  obtain⟨b',q,F,H⟩:=u j (by simpa using C);simp only[A0u]at F;subst F;have:(⟨b',q,none⟩:Addr).add j=⟨b',q+j,none⟩:=by
   unfold Addr.add;split
   ·grind
   rfl
  rw[this,H,A0j,B];rfl
 obtain⟨x,_,rfl⟩:=A0r.1 R;rfl
def Awg (w:World)(A V n M N g gq:Nat)(av:Option Addr)(i:Value)(wr:World):Prop :=
 ∃ (j:Nat) (u qs:List Nat),j<=M/\i=.int .i64 ((j:Int)-1)/\Nd A V n M j u qs /\
  wr.ownsRow w.heap.size 251 1 (.slice (some ⟨g,0,none⟩) N N) N (A7 u)/\wr.ownsRow w.heap.size 251 1 (.slice (some ⟨gq,0,none⟩) M M) M (A7 qs) /\
  F4 wr g av (A7 (Aa V))/\F4 wr gq av (A7 (Aa V))/\Ext w wr
def F4.ext {w w':World}{g:Nat}{a:Option Addr}{cs:List Value}(h:F4 w g a cs)(x:Ext w w'):F4 w' g a cs:=⟨h.1.ext x,h.2⟩
def F4.new {a:Option Addr}{cs:List Value}(h:F4 w g a cs)(q:0<cs.length)(x:Ext w w'):F4 w' w.heap.size a cs:=by
 refine⟨h.1.ext x,fun b t m=>?_⟩;obtain⟨b',f,d,j⟩:=h.1 0 q;have:=block_lt_of_cell j;rw[m]at d;simp only[A0u,Addr.mk.injEq]at d;simp only at this;omega
def At1 (h:w.ownsRow base e 1 (.slice (some ⟨g,0,none⟩) n n) k xs):g<w.heap.size:=(h.lt g rfl).2
def Ye {base e g d n k:Nat}(h:w.ownsRow base e 1 (.slice (some ⟨g,0,none⟩) n n) k xs)(f:w.grownBy w' (some d))(a:g≠d) :
 w'.ownsRow base e 1 (.slice (some ⟨g,0,none⟩) n n) k xs:=h.kept f (Or.inr (by simp[Value.ownBlock,a]))
set_option maxRecDepth 100000 in
def Afp (va vb:Value)(m n k:Nat)(w:World)(ha:Cz w va m)(hb:Cz w vb n)(sa:nl m<=5000000000000)(hn:nl n=k+2)(ay:n<=m) :
 Calls prog 227 #[va,vb] w (U5 w (m/n) (m%n)):=by
 obtain⟨i0,hi,bp,bq,br⟩:=info_parts Tryz.info251;have HI:=Lib.hid hi;have c7:=Lib.hid bp;have c8:=Lib.hid bq;have c9:=Lib.hid br;clear hi bp bq br;have ch:k+2<=nl m:=by rw[<-hn];exact Cl ay
 have hc:=Gl va vb m n w ha hb oV oV;obtain⟨s,hs⟩:∃ s,s=sgn ((m:Int)-n):=⟨_,rfl⟩;have cx:0<=s:=by rw[hs];exact Aiv ay
 rw[<-hs]at hc;have HC:=Lib.hid hc;have Q:Hid (0<n):=by
  rcases A1p n with h0|h0
  ·rw[h0,Ux]at hn;omega
  exact h0
 have HA:=Lib.hid ha;have HB:=Lib.hid hb;have d:=As6.make hn;obtain⟨a,ca,rfl,_,ac⟩:=ha;obtain⟨b,cb,rfl,_,a0⟩:=hb;have V:(Aa n).length=k+2:=hn;have H:(Aa m).length=nl m:=rfl;obtain⟨bb,ob,rfl,cd⟩:=a0.at (j:=k+1) oV;obtain⟨b1,a8⟩:∃ b1,b1=(Aa n).getD (k+1) 0:=⟨_,rfl⟩;have ck:b1<1000000000:=by rw[a8];exact (Ar n).getD _
 rw[<-a8]at cd d;rw[V]at HC HB⊢;rw[H]at HC HA⊢;obtain⟨f,hf⟩:∃ f,f=1000000000/(b1+1):=⟨_,rfl⟩;rw[<-hf]at d;obtain⟨L,hL⟩:∃ L,L=nl m:=⟨_,rfl⟩;rw[<-hL]at HC HA sa ch⊢;have cr:(1000000000:Int)/((b1:Int)+1)=(f:Int):=by rw[hf];simp
 have cq:=d.pos;have y:=d.low;have A:=Lib.hid d;have HL:=Lib.hid hL;have HF:=Lib.hid hf;have co:decide (s<0)=false:=gV;have cp:(((k:Int)+2)==1)=false:=gV;clear hc a0 ac hs V H d a8 hL hf hn
 go_enter func227,ntmps227
 go_wp2_with fail
 refine HC.out.mono ?_;rintro e w' ⟨rfl,q,rfl⟩
 go_upto_region 7 with fail
 have x2:Ext w ((w.drewN q).alloc (Obj.cells #[Value.int IntKind.u64 (f:Int)] 251)):=((Ext.refl w).drewN q).alloc _;have ar:Cz ((w.drewN q).alloc (Obj.cells #[Value.int IntKind.u64 (f:Int)] 251)) (.slice (some ⟨w.heap.size,0,none⟩) 1 1) f:=by
  refine⟨_,1,by rw[E1 oV y];rfl,by rw[E1 oV y];simp,?_⟩;rw[E1 oV y];exact Ak3 (w.drewN q) f
 have a9:((w.drewN q).alloc (Obj.cells #[Value.int IntKind.u64 (f:Int)] 251)).cell? ⟨w.heap.size,0,none⟩=some (.int .u64 (f:Int)):=World.cell?_alloc_new (w:=w.drewN q) _ _ _;generalize (w.drewN q).alloc (Obj.cells #[Value.int IntKind.u64 (f:Int)] 251)=W2 at *
 have X2:=Lib.hid x2;have ae:=Lib.hid ar;have bu:=Lib.hid a9;clear x2 ar a9 HC
 go_cut [9,10] (Abf W2 W2.heap.size (L+1) (n*f))
 case first =>
  have cw:=fun W:World=>Wf W ((L:Int)+1) (L+1) oV oV;have Y:=fun (W:World) (x:Ext W2 W)=>To _ _ n f W (HB.out.ext (X2.out.trans x)) (ae.out.ext x) (by rw[A.out.len];omega) (by unfold nl;rw[E1 oV y];simp);have HM:=Lib.hid Y;clear Y;have cy:IntKind.i64.wrap ((L:Int)+1)=(L:Int)+1:=IntWalk.i64_in _ oV
  go_region_with (first|(go_at_call 182;refine (HM.out _ ?_).mono ?_;(first|exact (Ext.refl _).drew|exact ((Ext.refl _).alloc _).drew|exact ((Ext.refl _).drew).alloc _);rintro e w3 ⟨kk,cap,rfl,hv,E⟩))
  all_goals (try go_wp2_with fail)
  all_goals go_meet
  ·exact Axw oV hv E
  exact Ayg oV (A5e Q.out oV) hv E
 case rest =>
  obtain⟨g,av,nv,cv,rfl,rfl,b3,Z,bm,E,hg⟩:=hcut;rw[A.out.vlen]at b3;subst b3;have HO:=Lib.hid Z;have HV:=Lib.hid bm;have HX:=Lib.hid E;clear Z bm E
  go_wp2_with fail
  refine (To _ _ m f _ (HA.out.ext (X2.out.trans HX.out)) (ae.out.ext HX.out) (by rw[<-HL.out];omega) (by unfold nl;rw[E1 oV y];simp)).mono ?_;rintro e w3 ⟨kk,cap,rfl,hv,E⟩;obtain⟨au,cu,e1,_,bd⟩:=hv;simp only[Value.slice.injEq]at e1;obtain⟨rfl,e2,rfl⟩:=e1;have b0:(Aa (m*f)).length<=L+1:=by
   have h1:=Gp m f;have h2:nl f<=1:=by unfold nl;rw[E1 oV y];simp
   rw[<-HL.out]at h1;unfold nl at h1 h2;omega
  have b4:=Xy HO.out E;have ag:=Lib.hid b4;have a5:=Lib.hid E;have bw:=Lib.hid b0;have bt:=Lib.hid e2;have R:=Lib.hid bd;clear b4 E b0 e2 bd;obtain⟨M,hM⟩:∃ M,M=L+1-(k+2):=⟨_,rfl⟩;have ap:L+1=M+(k+2):=oV;have af:=Lib.hid hM;have h:=Lib.hid ap;have cl:M<=L:=oV;clear hM ap
  go_wp2_with (first
   |(with_reducible refine Q0 rfl (.tmp 49) (.tmp 52) rfl W2.heap.size g (L+1) kk _ ⟨wc.heap.size,0,none⟩ (Aa (m*f)) rfl rfl ag.out bt.out.symm oV bw.out R.out ?_;intro w4 b5 aw;have a3:=Lib.hid b5;have a1:=Lib.hid aw;clear b5 aw;have X4:=Lib.hid ((HX.out.trans a5.out).grown a1.out (fun k' B=>by cases B;exact hg));have a4:=Lib.hid ((HV.out.ext a5.out).grown a1.out))
   |(at_make;refine wpList_make_full _ rfl _ _ 122 rfl W2.heap.size 251 i0 (.int .u64 0) 1 Tryz.underlying122 HI.out c7.out c8.out .i64 .i64 _ _ M rfl rfl (by have:=af.out;omega) (by have:=af.out;omega) (by rw[c9.out];omega) (by unfold maxLen;omega) X4.out.size ?_;intro w5 ab ax;rw[Lj]at ab;have ah:=Lib.hid ab;have X5:Hid (Ext w4 w5):=(Ext.refl w4).grown ax (fun k' B=>by cases B);clear ab ax))
  have az:g≠w4.heap.size:=by have:=At1 a3.out;omega
  have P:0<(A7 (Aa (n*f))).length:=by rw[Uo];have:=A.out.vlen;unfold nl at this;omega
  have am:=Lib.hid (a4.out.ext X5.out);have ai:=Lib.hid (a4.out.new P X5.out);have al:=Lib.hid (Xy a3.out X5.out);have ao:=Lib.hid (X4.out.trans X5.out);generalize w4.heap.size=gq at *
  clear HO HV ag a5 R a4 a3 a1 X4 X5 P
  go_loopw [12] (Awg W2 (m*f) (n*f) (k+2) M (L+1) g gq av) (fun i _=>(intOf i+1).toNat)
  case atStart =>
   have bi:=al.out;rw[show L+1-(Aa (m*f)).length=M+(k+2)-nl (m*f) by unfold nl;have:=h.out;omega]at bi;exact⟨M,_,_,A0s _,rfl,Nd.start A.out (by rw[<-HL.out];exact h.out),bi,ah.out,am.out,ai.out,ao.out⟩
  case round =>
   obtain⟨j,u,qs,hj,rfl,bg,b7,b6,bn,bl,E⟩:=hrel;have D:=Lib.hid bg;have HU:=Lib.hid b7;have HQ:=Lib.hid b6;have T:=Lib.hid bn;have an:=Lib.hid bl;have a7:=Lib.hid E;clear bg b7 b6 bn bl E am ai al ao ah;rcases j with _|j
   ·have t:=D.out.done (A5e Q.out oV);rw[(Ae7 (m:=m) (n:=n) (show 0<f by omega)).1,(Ae7 (m:=m) (n:=n) (show 0<f by omega)).2]at t;have O:u.length=L+1:=by rw[D.out.ulen];exact h.out.symm
    have K:=Row.of_owns HU.out;have J:=Row.of_owns HQ.out;have a9:=a7.out.cell bu.out;have bj:val (u.take (k+2))=(m%n)*f:=by
     rw[<-t.2];have:=Ho (u:=u) (j:=0) (k:=k+2) (fun i hi=>D.out.zero i hi);simpa using this
    have c5:=Lib.hid bj;have bs:=Lib.hid t;have R:=Lib.hid K;have ak:=Lib.hid J;have c4:=Lib.hid O;clear t O K J bj;have ad:Row wr (some ⟨g,0,none⟩) (A7 (u.take (k+2))):=by rw[<-Aae];exact R.out.take _
    have I:(u.take (k+2)).length=k+2:=by rw[A0q,c4.out];have:=h.out;omega
    obtain⟨X,hX⟩:∃ X,X=Value.slice (some ⟨g,0,none⟩) (Bz (u.take (k+2)) (u.take (k+2)).length) (L+1):=⟨_,rfl⟩;have aq:Cz wr X ((m%n)*f):=by
     rw[hX];exact D0 (D.out.ulow.take _) ad c5.out (by rw[I];have:=h.out;omega)
    have bh:∀ W,Ext wr W->Calls prog 191 #[.slice (some ⟨g,0,none⟩) (k+2) (L+1)] W fun e w'=>e=.returned X/\W=w':=fun W x=>by
     rw[hX];exact G5 _ _ _ _ W I oV (by have:=h.out;omega) (ad.ext x)
    have b2:nl ((m%n)*f)<=10000000000000:=by
     have h1:=Gp (m%n) f;have h2:nl f<=1:=by unfold nl;rw[E1 oV y];simp
     have h3:nl (m%n)<=nl m:=Cl (Nat.mod_le _ _);rw[<-HL.out]at h3;omega
    have bf:∀ W,Ext wr W->Calls prog 258 #[X,.int .u64 f] W (Qf W (m%n) 0):=fun W x=>by
     have:=Q2 X ((m%n)*f) f W (aq.ext x) b2 oV y;rw[Nat.mul_div_cancel _ oV,Nat.mul_mod_left]at this;exact this
    have c2:=Lib.hid bh;have c0:=Lib.hid bf;clear bh bf hX ad I aq b2;have cc:M<=9223372036854775807:=oV;have cj:HQ=HQ:=rfl;clear cj
    go_wp2_with fail
    go_region_with (first
     |(go_at_call 191;refine (c2.out _ ?_).mono ?_;(exact (Ext.refl _).drew);rintro e w7 ⟨rfl,rfl⟩)
     |(go_at_call 258;refine (c0.out _ ?_).mono ?_;(exact (Ext.refl _).drew);rintro e w7 ⟨v7,rfl,bk,bo⟩))
    all_goals
     have c6:=Lib.hid bk;have a6:Hid (Ext wr w7):=((Ext.refl wr).drew).trans bo;clear bk bo
     go_wp2_with fail
     refine (G5 _ _ _ qs _ D.out.qlen cc (A0s _) (ak.out.ext a6.out)).mono ?_;rintro e w8 ⟨rfl,rfl⟩
     go_wp2_with fail
     go_ret2
     have ci:=D0 (cap:=M) D.out.qlow (ak.out.ext a6.out) (n:=m/n) bs.out.1 (by rw[D.out.qlen];exact A0s _);exact⟨_,_,rfl,ci,c6.out,(X2.out.trans a7.out).trans a6.out⟩
   rw[show ((j+1:Nat):Int)-1=j by omega];have O:u.length=L+1:=by rw[D.out.ulen];exact h.out.symm
   have F:=D.out.before (show j<M by omega);have ba:val ((u.drop j).take (k+2+1))/(n*f)<1000000000:=by
    rw[A2o (A5e Q.out oV)];exact F
   have C:=Aml W2.heap.size g (L+1) j k (L+1-j) av cv u (Aa (n*f)) wr HU.out T.out O D.out.ulow (Ar _) A.out.vlen (by have:=h.out;omega) oV (by have:=h.out;omega) A.out.vtop (by rw[Al];exact F);rw[Al]at C;obtain⟨qd,b9⟩:∃ qd,qd=val ((u.drop j).take (k+2+1))/(n*f):=⟨_,rfl⟩;have aj:=Lib.hid b9;have c1:=Lib.hid C;have cg:=h.out;have ct:j+(k+2)+1<=L+1:=oV;have ce:j<M:=oV;have cn:L+1≠j:=oV;clear b9 C F O cg
   go_wp2_with fail
   rw[show j+(k+2)+1-j=k+3 by omega];refine c1.out.mono ?_;rintro e w6 ⟨o,rfl,be,b8,aa⟩;rw[<-aj.out];have U:=Ye HQ.out aa az.symm;have cm:=Gv U (j:=j) (by rw[D.out.qlen];omega);have cs:=U.frozenAt j;have bx:=Lib.hid U;have c3:=Lib.hid b8;have a2:=Lib.hid aa;have bz:=Lib.hid be;clear U b8 aa be
   go_wp2_with fail
   have z:=Mm j qd bx.out (W3 w6 (some gq));refine⟨⟨j,o,qs.set j qd,oV,rfl,?_,Ye c3.out z.2 az,z.1,?_,?_,?_⟩,by simp only[intOf];omega⟩
   ·rw[aj.out];exact D.out.step ce (A5e Q.out oV) (by have:=C2 (n*f);rw[A.out.vlen]at this;exact this) bz.out ba
   ·refine⟨?_,T.out.2⟩;exact (F4.grown ⟨(T.out.grown a2.out).1,an.out.2⟩ z.2).1
   ·exact F4.grown ⟨(T.out.grown a2.out).1,an.out.2⟩ z.2
   have x6:=a7.out.grown a2.out (fun k' B=>by cases B;exact hg);exact x6.grown z.2 (fun k' B=>by cases B;exact (Py HQ.out).2)
def Za (a d:Value)(m n:Nat)(w:World)(f:Cz w a m)(j:Cz w d n)(y:nl m<=5000000000000)(sb:nl n<=5000000000000)(x:0<n) :
 Calls prog 227 #[a,d] w (U5 w (m/n) (m%n)):=by
 rcases A16 m n with h|h
 ·rw[A4i h,A52 h];exact Ad2 a d m n w f j oV oV h
 rcases A16 n 1000000000 with q|q
 ·exact Ac8 a d m n w f j oV x q h
 have z:2<=nl n:=by
  rcases A16 (nl n) 2 with t|t
  ·have A:=C2 n;have u:1000000000^nl n<=1000000000^1:=A1h oV oV;rw[Nat.pow_one]at u;omega
  exact t
 exact Afp a d m n (nl n-2) w f j y oV h
end
section
variable {n:Nat}
def Amo (h:nl n<=2):n=(Aa n).getD 1 0*1000000000+(Aa n).getD 0 0:=by
 have a:=Ab3 (Aa n) 0;rw[A00 (show (Aa n).length<=0+2 from h),Al]at a;simp only[A5y,val,A8y,A27,A2e]at a;omega
set_option maxRecDepth 100000 in
def Adf (q:Value)(n:Nat)(w:World)(C:Cz w q n)(h:nl n<=2) :
 Calls prog 243 #[q] w fun e w'=>e=.returned (.int .u64 (n:Int))/\w=w':=by
 have d:=Amo h;obtain⟨a,c,rfl,_,j⟩:=C;have f:=V7 a c (Aa n) 1 w (by unfold nl at h;omega) oV j;have g:=V7 a c (Aa n) 0 w (by unfold nl at h;omega) oV j;rw[show (1:Int).toNat=1 by rfl]at f;rw[show (0:Int).toNat=0 by rfl]at g;have B:=(Ar n).getD 1;have A:=(Ar n).getD 0;obtain⟨x,k⟩:∃ x,x=(Aa n).getD 1 0:=⟨_,rfl⟩;obtain⟨y,m⟩:∃ y,y=(Aa n).getD 0 0:=⟨_,rfl⟩;rw[<-k]at f B d;rw[<-m]at g A d;have u:=Lib.hid f;have z:=Lib.hid g;have t:=Lib.hid d;clear f g d k m j
 go_enter func243,ntmps243
 go_wp2_with fail
 refine u.out.mono ?_;rintro e w' ⟨rfl,rfl⟩
 go_wp2_with fail
 refine z.out.mono ?_;rintro e w' ⟨rfl,rfl⟩
 go_wp2_with fail
 go_ret
 exact⟨As8 (by have:=t.out;omega),rfl⟩
def Aay (h:nl n<=2):n<1000000000000000000:=by
 have d:=C2 n;have a:1000000000^nl n<=1000000000^2:=A1h oV h;rw[show (1000000000:Nat)^2=1000000000000000000 by rfl]at a;omega
def V3 (m n:Nat):Nat.gcd n (m%n)=Nat.gcd m n:=by rw[A8z m n,Nat.gcd_rec n m,A8z]
end
section
variable {b:Bool}{g n:Nat}{s:Value}{t:TypeId}{w:World}
def Qr (w:World)(v:Value)(z:Int):Prop:=∃ a n c,v=.agg #[.bool (decide (z<0)),.slice a n c]/\Cz w (.slice a n c) z.natAbs
def Qr.ext {w w':World}{v:Value}{z:Int}(h:Qr w v z)(x:Ext w w'):Qr w' v z:=by
 obtain⟨a,n,c,d,e⟩:=h;exact⟨a,n,c,d,e.ext x⟩
def Ab8 (w:World)(z:Int)(e:Ending)(w':World):Prop:=∃ v,e=.returned v/\Qr w' v z/\Ext w w'
def Cc (neg:Bool)(n:Nat):Int:=if neg then -(n:Int) else n
def Ko (neg:Bool)(n:Nat):(Cc neg n).natAbs=n:=by unfold Cc;split<;>omega
def Yb (neg:Bool)(n:Nat):decide (Cc neg n<0)=(neg&&decide (0<n)):=by
 unfold Cc;cases neg<;>simp<;>omega
def Tb (z:Int):Cc (decide (z<0)) z.natAbs=z:=by
 unfold Cc;by_cases h:z<0<;>simp[h]<;>omega
def Acs {b neg:Bool}(e:b=(neg&&decide (0<n)))(d:Cz w s n):Qr w (.agg #[.bool b,s]) (Cc neg n):=by
 obtain⟨a,c,rfl,f⟩:=id d;exact⟨a,_,c,by rw[Yb,e],by rw[Ko];exact d⟩
def Au0 {z:Int}(e:b=decide (z<0))(d:Cz w s z.natAbs):Qr w (.agg #[.bool b,s]) z:=by
 obtain⟨a,c,rfl,f⟩:=id d;exact⟨a,_,c,by rw[e],d⟩
def C5 :0<(Aa n).length↔0<n:=by
 constructor
 ·intro h;rcases A1p n with h0|h0
  ·rw[h0,Bn]at h;simp at h
  exact h0
 intro h;exact A4o.2 (fun e=>by have:=Gk.1 e;omega)
def Pg (w:World)(a:Addr)(v:Value):w.grownBy (w.setCell a v) (some a.block) :=
 ⟨rfl,rfl,rfl,by simp[World.setCell],fun k _ d=>Below.heap_setCell _ _ _ _ (fun e=>d (by rw[e]))⟩
def Aox (w:World)(g:Nat):Prop:=∃ (cs:Array Value) (t:TypeId) (fr:Nat×Nat),w.heap[g]?=some (.cells cs t fr)/\∀ (j:Nat) (k:IntKind) (z:Int),cs[j]?≠some (Value.int k z)
def Cz.grown {w w':World}(h:Cz w s n)(B:Aox w g)(C:w.grownBy w' (some g)):Cz w' s n:=by
 obtain⟨a,c,y,z,A⟩:=h;refine⟨a,c,y,z,fun j u=>?_⟩;obtain⟨b,m,x,d⟩:=A j u;refine⟨b,m,x,C.cell d ?_⟩;simp only[ne_eq,A0u];intro e;obtain⟨cs,t,fr,q,k⟩:=B;rw[<-e]at q;rw[cell_of_row _ _ _ _ _ _ q]at d;have f:j<(Aa n).length:=by simpa using u
 refine k _ .u64 ((Aa n).getD j 0:Nat) (d.trans ?_);simp[A7,f]
def Aov {e f a d:Value}(h:w.heap[g]?=some (.cells #[e,f] t (0,0))) :
 ((w.setCell ⟨g,0,none⟩ a).setCell ⟨g,1,none⟩ d).heap[g]?=some (.cells #[a,d] t (0,0)):=by
 rw[heap_setCell_same _ _ _ _ _ _ (heap_setCell_same _ _ _ _ _ _ h)];rfl
def Axe (w:World)(g:Nat)(a d:Value):w.grownBy ((w.setCell ⟨g,0,none⟩ a).setCell ⟨g,1,none⟩ d) (some g) :=
 Uj (Pg _ _ _) (Pg _ _ _)
def A0a {a w:World}(h:Ext a w)(d:a.heap.size<=g)(e f:Value):Ext a ((w.setCell ⟨g,0,none⟩ e).setCell ⟨g,1,none⟩ f) :=
 (h.setCell (p:=⟨g,0,none⟩) d e).setCell (p:=⟨g,1,none⟩) d f
def Auq {a:Option Addr}{n c:Nat}(h:w.heap[g]?=some (.cells #[.bool b,.slice a n c] t (0,0))):Aox w g:=by
 refine⟨_,_,_,h,fun j k z e=>?_⟩
 match j with
 |0=>simp at e
 |1=>simp at e
 |j+2=>simp at e
def Tryz.size124:(prog.info? 124).map (·.size)=some 2:=kV
def Ack {fn:Func}{p:Tmp}{R:Ending->World->Prop}{a:Act}{w:World}{g:Nat}{d e:Value}(h:fn.results = #[.cell p 124])
 (hp:a.tmps.getD p undef=.pointer (some ⟨g,0,none⟩)) (k:w.heap[g]?=some (.cells #[d,e] 124 (0,0))) (j:a.defers = []) (f:R (.returned (.agg #[d,e])) w) :
 bodyPost prog fn R .ret a w :=
 ⟨j,_,results_cell_row h a.tmps w g _ _ _ _ hp k Tryz.underlying124 rfl Tryz.size124,f⟩
set_option maxRecDepth 100000 in
def Ag5 (neg:Bool)(s:Value)(n:Nat)(w:World)(h:Cz w s n)(f:nl n<=100000000000000) :
 Calls prog 181 #[.bool neg,s] w (Ab8 w (Cc neg n)):=by
 have H:=Lib.hid h;obtain⟨a,c,rfl,_,_⟩:=h;have j:(Aa n).length<=100000000000000:=f;by_cases hp:0<(Aa n).length
 ·have e:decide (0<((Aa n).length:Int))=true:=gV;have d:=C5.1 hp;cases neg
  ·go_enter func181,ntmps181
   go_wp2_with fail
   refine bodyPost_ret (v:=.agg #[.bool false,.slice a (Aa n).length c]) (by simp[results,Tryz.results181,go_sem]) rfl ⟨_,rfl,Acs rfl (H.out.ext ((Ext.refl w).alloc _)),(Ext.refl w).alloc _⟩
  go_enter func181,ntmps181
  go_wp2_with fail
  refine bodyPost_ret (v:=.agg #[.bool true,.slice a (Aa n).length c]) (by simp[results,Tryz.results181,go_sem]) rfl ⟨_,rfl,Acs (by simp[d]) (H.out.ext ((Ext.refl w).alloc _)),(Ext.refl w).alloc _⟩
 have e:decide (0<((Aa n).length:Int))=false:=by simp only[decide_eq_false_iff_not];omega
 have d:¬ 0<n:=fun h=>hp (C5.2 h);cases neg
 ·go_enter func181,ntmps181
  go_wp2_with fail
  refine bodyPost_ret (v:=.agg #[.bool false,.slice a (Aa n).length c]) (by simp[results,Tryz.results181,go_sem]) rfl ⟨_,rfl,Acs rfl (H.out.ext ((Ext.refl w).alloc _)),(Ext.refl w).alloc _⟩
 go_enter func181,ntmps181
 go_wp2_with fail
 refine bodyPost_ret (v:=.agg #[.bool false,.slice a (Aa n).length c]) (by simp[results,Tryz.results181,go_sem]) rfl ⟨_,rfl,Acs (by simp[d]) (H.out.ext ((Ext.refl w).alloc _)),(Ext.refl w).alloc _⟩
end
section
variable {g:Nat}{t:TypeId}{w:World}{y z:Int}
def Asw {x y:Value}(h:w.heap[g]?=some (.cells #[x,y] t (0,0))):w.cell? ⟨g,0,none⟩=some x:=by rw[cell_of_row _ _ _ _ _ _ h];rfl
def Atg {x y:Value}(h:w.heap[g]?=some (.cells #[x,y] t (0,0))):w.cell? ⟨g,1,none⟩=some y:=by rw[cell_of_row _ _ _ _ _ _ h];rfl
def Ae1 (y z:Int):Cc (!(decide (y<0)==decide (z<0))) (y.natAbs*z.natAbs)=y*z:=by
 unfold Cc;have e:((y.natAbs*z.natAbs:Nat):Int)=(y.natAbs:Int)*z.natAbs:=A3x _ _;rw[e];by_cases a:y<0<;>by_cases d:z<0<;>simp[a,d]
 ·rw[show (y.natAbs:Int) = -y by omega,show (z.natAbs:Int) = -z by omega,Int.neg_mul_neg]
 ·rw[show (y.natAbs:Int) = -y by omega,show (z.natAbs:Int)=z by omega,A8h,Ban]
 ·rw[show (y.natAbs:Int)=y by omega,show (z.natAbs:Int) = -z by omega,A9c,Ban]
 rw[show (y.natAbs:Int)=y by omega,show (z.natAbs:Int)=z by omega]
def Afo (a:decide (y<0)=decide (z<0)):Cc (decide (y<0)) (y.natAbs+z.natAbs)=y+z:=by
 unfold Cc;by_cases d:y<0<;>by_cases e:z<0<;>simp[d,e]at a⊢<;>omega
def Aad (a:decide (y<0)≠decide (z<0))(h:z.natAbs<=y.natAbs):Cc (decide (y<0)) (y.natAbs-z.natAbs)=y+z:=by
 unfold Cc;by_cases d:y<0<;>by_cases e:z<0<;>simp[d,e]at a⊢<;>omega
def Aaz (a:decide (y<0)≠decide (z<0))(h:y.natAbs<z.natAbs):Cc (decide (z<0)) (z.natAbs-y.natAbs)=y+z:=by
 unfold Cc;by_cases d:y<0<;>by_cases e:z<0<;>simp[d,e]at a⊢<;>omega
end
section
variable {y z:Int}
def Aci {y z q r:Int}(h:y=z*q+r)(h0:0<=r)(g:r<z.natAbs):y/z=q/\y%z=r:=by
 have d:z≠0:=by intro e;subst e;simp at g;omega
 have a:y%z=r:=by
  rw[h,Int.add_comm,Int.add_mul_emod_self_left];rcases A95 d with j|j
  ·rw[<-Int.emod_neg];exact Int.emod_eq_of_lt h0 oV
  exact Int.emod_eq_of_lt h0 oV
 refine⟨?_,a⟩;have:=A9h y z;rw[a,h]at this;have f:z*((z*q+r)/z)=z*q:=oV;rw[h];exact A8u d f
def Zb (d:¬ y<0)(g:z≠0):Cc (!(decide (y<0)==decide (z<0))) (y.natAbs/z.natAbs)=y/z/\Cc false (y.natAbs%z.natAbs)=y%z:=by
 have e:=A2u y.natAbs z.natAbs;have f:=A2l y.natAbs (show 0<z.natAbs by omega);generalize y.natAbs/z.natAbs=q at *
 generalize y.natAbs%z.natAbs=r at *
 have a:(z.natAbs:Int)*q+r=y.natAbs:=by rw[<-e];simp
 have:=Aci (y:=y) (z:=z) (q:=Cc (!(decide (y<0)==decide (z<0))) q) (r:=(r:Int)) (by
  unfold Cc;by_cases h:z<0
  ·rw[show (!(decide (y<0)==decide (z<0)))=true by simp[d,h],if_pos rfl,A9c];rw[show (z.natAbs:Int) = -z by omega,A8h]at a;omega
  rw[show (!(decide (y<0)==decide (z<0)))=false by simp[d,h],if_neg mV];rw[show (z.natAbs:Int)=z by omega]at a;omega) oV oV
 exact⟨this.1.symm,by rw[this.2];rfl⟩
def Y4 (e:y<0)(g:z≠0)(f:y.natAbs%z.natAbs=0):Cc (!(decide (y<0)==decide (z<0))) (y.natAbs/z.natAbs)=y/z/\Cc false (y.natAbs%z.natAbs)=y%z:=by
 have d:=A2u y.natAbs z.natAbs;rw[f]at d⊢;generalize y.natAbs/z.natAbs=q at *
 have a:(z.natAbs:Int)*q=y.natAbs:=by rw[<-d];simp
 have:=Aci (y:=y) (z:=z) (q:=Cc (!(decide (y<0)==decide (z<0))) q) (r:=0) (by
  unfold Cc;by_cases h:z<0
  ·rw[show (!(decide (y<0)==decide (z<0)))=false by simp[e,h],if_neg mV];rw[show (z.natAbs:Int) = -z by omega,A8h]at a;omega
  rw[show (!(decide (y<0)==decide (z<0)))=true by simp[e,h],if_pos rfl,A9c];rw[show (z.natAbs:Int)=z by omega]at a;omega) oV oV
 exact⟨this.1.symm,by rw[this.2];rfl⟩
def Ac4 (d:y<0)(j:z≠0)(g:0<y.natAbs%z.natAbs):Cc (!(decide (y<0)==decide (z<0))) (y.natAbs/z.natAbs+1)=y/z/\Cc false (z.natAbs-y.natAbs%z.natAbs)=y%z:=by
 have e:=A2u y.natAbs z.natAbs;have f:=A2l y.natAbs (show 0<z.natAbs by omega);generalize y.natAbs/z.natAbs=q at *
 generalize y.natAbs%z.natAbs=r at *
 have a:(z.natAbs:Int)*q+r=y.natAbs:=by rw[<-e];simp
 have:=Aci (y:=y) (z:=z) (q:=Cc (!(decide (y<0)==decide (z<0))) (q+1)) (r:=((z.natAbs-r:Nat):Int)) (by
  unfold Cc;by_cases h:z<0
  ·rw[show (!(decide (y<0)==decide (z<0)))=false by simp[d,h],if_neg mV];rw[show (z.natAbs:Int) = -z by omega,A8h]at a;rw[Int.natCast_add,Bao];omega
  rw[show (!(decide (y<0)==decide (z<0)))=true by simp[d,h],if_pos rfl];rw[show (z.natAbs:Int)=z by omega]at a;rw[A9c,Int.natCast_add,Bao];omega) oV oV
 exact⟨this.1.symm,by rw[this.2];rfl⟩
end
section
variable {n:Int}
def Ah9 (h:n<0)(a:-9223372036854775808<=n):IntKind.u64.wrap (-(IntKind.u64.wrap n))=((n.natAbs:Nat):Int):=by
 have e:∀ n:Int,IntKind.u64.wrap n=n%18446744073709551616:=fun n=>by simp[IntKind.wrap,IntKind.signed,IntKind.bits]
 rw[e,e];omega
def Ah6 (h:0<=n)(a:n<=9223372036854775807):IntKind.u64.wrap n=((n.natAbs:Nat):Int):=by
 have e:∀ n:Int,IntKind.u64.wrap n=n%18446744073709551616:=fun n=>by simp[IntKind.wrap,IntKind.signed,IntKind.bits]
 rw[e];omega
end
def Wv (w:World)(v:Value)(q:Rat):Prop :=
 ∃ a n c a' n' c',v=.agg #[.bool (decide (q.num<0)),.slice a n c,.bool false,.slice a' n' c']/\Cz w (.slice a n c) q.num.natAbs/\Cz w (.slice a' n' c') q.den
def Wv.num {w:World}{b b':Bool}{a e:Option Addr}{n j c f:Nat}{q:Rat}(h:Wv w (.agg #[.bool b,.slice a n c,.bool b',.slice e j f]) q):Qr w (.agg #[.bool b,.slice a n c]) q.num:=by
 obtain⟨_,_,_,_,_,_,d,g,k⟩:=h;simp only[Value.agg.injEq,A5b,A3b,Value.bool.injEq,Value.slice.injEq,and_true]at d;obtain⟨rfl,⟨rfl,rfl,rfl⟩,rfl,rfl,rfl,rfl⟩:=d;exact⟨_,_,_,rfl,g⟩
def Wv.den {w:World}{b b':Bool}{a d:Option Addr}{n g c e:Nat}{q:Rat}(h:Wv w (.agg #[.bool b,.slice a n c,.bool b',.slice d g e]) q):Qr w (.agg #[.bool b',.slice d g e]) q.den:=by
 obtain⟨_,_,_,_,_,_,f,k,j⟩:=h;simp only[Value.agg.injEq,A5b,A3b,Value.bool.injEq,Value.slice.injEq,and_true]at f;obtain⟨rfl,⟨rfl,rfl,rfl⟩,rfl,rfl,rfl,rfl⟩:=f;refine⟨_,_,_,?_,by rw[A1e];exact j⟩;rw[show decide (((q.den:Nat):Int)<0)=false by simp only[decide_eq_false_iff_not];omega]
def S9:nl 1<=1:=by unfold nl;rw[E1 oV oV];simp
def T6 {d:Nat}:(sgn ((d:Int)-1)==0)=decide (d=1):=by
 rcases A4b ((d:Int)-1) 0 with h|h|h
 ·rw[En h,decide_eq_false oV];rfl
 ·rw[h,R7,decide_eq_true oV];rfl
 rw[Db h,decide_eq_false oV];rfl
set_option maxRecDepth 100000 in
def Afv (v:Value)(q:Rat)(w:World)(e:Wv w v q) :
 Calls prog 177 #[v] w (Ab8 w q.num):=by
 have d:=Lib.hid e;obtain⟨a,n,c,f,h,g,rfl,_,_⟩:=e;obtain⟨p,hp⟩:∃ p,p=decide (q.num<0):=⟨_,rfl⟩;rw[<-hp]at d⊢;clear hp
 go_enter func177,ntmps177
 go_wp2_with fail
 refine Ack rfl rfl (heap_alloc2_new _ _ _) rfl ⟨_,rfl,d.out.num.ext (((Ext.refl w).alloc _).alloc _),((Ext.refl w).alloc _).alloc _⟩
set_option maxRecDepth 100000 in
def Adu (v:Value)(q:Rat)(w:World)(e:Wv w v q) :
 Calls prog 175 #[v] w (Ab8 w q.den):=by
 have d:=Lib.hid e;obtain⟨a,n,c,f,h,g,rfl,_,_⟩:=e;obtain⟨p,hp⟩:∃ p,p=decide (q.num<0):=⟨_,rfl⟩;rw[<-hp]at d⊢;clear hp
 go_enter func175,ntmps175
 go_wp2_with fail
 refine Ack rfl rfl (heap_alloc2_new _ _ _) rfl ⟨_,rfl,d.out.den.ext (((Ext.refl w).alloc _).alloc _),((Ext.refl w).alloc _).alloc _⟩
section
variable {y z:Int}
theorem M5 (y z:Int):Rat.divInt (-y) (-z)=Rat.divInt y z:=by
 rw[A3l,A3l,A6e,A6e];by_cases h:(z:Rat)=0
 ·rw[h];simp[A5v]
 have:-(z:Rat)≠0:=by grind
 grind
def V9 (d:0<z)(a:Nat.gcd y.natAbs z.natAbs=1):(Rat.divInt y z).num=y/\(Rat.divInt y z).den=z.natAbs:=by
 have e:(z:Int)=((z.natAbs:Nat):Int):=oV
 rw[e,A7w,Rat.mkRat_def,dif_neg oV,Rat.normalize_eq];simp only[A1e,a];simp
def Xr {G:Nat}(d:0<z)(a:G=Nat.gcd y.natAbs z.natAbs):(Rat.divInt y z).num=y/G/\(Rat.divInt y z).den=z.natAbs/G:=by
 have e:(z:Int)=((z.natAbs:Nat):Int):=oV
 rw[e,A7w,Rat.mkRat_def,dif_neg oV,Rat.normalize_eq];subst a;constructor<;>simp
end
def Sz (q:Rat)(k:Nat):Prop:=nl q.num.natAbs<=k/\nl q.den<=k
def Ano {q r:Rat}(a:q.den=1)(d:r.den=1):((q.num*r.num:Int):Rat)=q*r:=by
 rw[Rat.mul_def',a,d,A27,Rat.mkRat_one]
def Ada (q r:Rat):Rat.divInt (q.num*r.num) ((q.den:Int)*(r.den:Int))=q*r:=by
 rw[Rat.mul_def',<-A7w,A3x]
theorem Acy (q r:Rat):Rat.divInt (q.num*(r.den:Int)) ((q.den:Int)*r.num)=q/r:=by
 rw[A3l,A1v,A1v];have f:q=(q.num:Rat)/((q.den:Int):Rat):=by rw[<-A3l,A6f]
 have e:r=(r.num:Rat)/((r.den:Int):Rat):=by rw[<-A3l,A6f]
 have g:((q.den:Int):Rat)≠0:=by have:=q.den_nz;simp;exact this
 have j:((r.den:Int):Rat)≠0:=by have:=r.den_nz;simp;exact this
 by_cases h:(r.num:Rat)=0
 ·have:r=0:=by rw[e,h];simp[A5v]
  rw[h,this];simp[A5v]
 generalize (q.num:Rat)=a at *
 generalize (r.num:Rat)=b at *
 generalize ((q.den:Int):Rat)=c at *
 generalize ((r.den:Int):Rat)=d at *
 rw[f,e];grind
def B5 {y z:Int}{k:Nat}(a:nl y.natAbs<=k)(d:nl z.natAbs<=k):nl (y*z).natAbs<=2*k:=by
 rw[A2t];have:=Gp y.natAbs z.natAbs;omega
end Go.Proofs.YtdgncafgglafjaaGreatDoor
