import Derived.Test.YtemmheaocgmebaaGreatDoorV02
import Derived.Deep.LoopGhost
import Derived.WalkKit
import Derived.Lib.Hide
import Derived.Test.YtemmheaocgmebaaGreatDoorProg
import Derived.Deep.QuietTactic
import Derived.BigQuiet
import Derived.RegionTactic
import Derived.ChangeAlike
import Derived.Outline
import Derived.Deep.RegionWith
import Derived.Deep.DeepCutAuto
import Derived.Laws.CopyOwn
import Derived.Deep.RegionHeld3
set_option linter.defProp false
set_option linter.unusedVariables false
set_option linter.unusedSimpArgs false
set_option linter.unusedSectionVars false
set_option maxHeartbeats 16000000
namespace Go.Proofs.YtemmheaocgmebaaGreatDoor
open Go.Proofs.Tryz
open Go.RowKit
def A2w:=@Nat.zero_add
def A2g:=@List.map_set
def A5g:=@List.map_take
def A6d:=@Int.eq_ofNat_of_zero_le
def A23:=@Int.toNat_natCast
def A4q:=@Int.lt_trichotomy
def A2a:=@Nat.eq_zero_or_pos
def A3z:=@Nat.mul_zero
def A8h:=@Nat.le_antisymm
def A50:=@Nat.mul_one
def A4h:=@List.take_append_drop
def A5z:=@List.drop_eq_getElem_cons
def A2j:=@List.set_cons_succ
def A6b:=@List.getD_cons_succ
def A7c:=@List.mem_or_eq_of_mem_set
def A6e:=@List.getElem?_replicate
def A25:=@Nat.mul_le_mul
def A29:=@Nat.mod_lt
def A16:=@Nat.add_mul
def A53:=@List.take_zero
def A1t:=@Nat.zero_le
def A13:=@Nat.mul_le_mul_right
def A3h:=@Nat.div_add_mod
def A5a:=@List.drop_zero
def A49:=@Nat.div_eq_of_lt
def A5i:=@Nat.mod_eq_of_lt
def A4t:=@List.set_append_right
def A4i:=@Nat.sub_self
def A2p:=@List.set_cons_zero
def A42:=@List.replicate_zero
def A1x:=@List.append_nil
def A2b:=@List.drop_of_length_le
def A5u:=@Nat.lt_trichotomy
def A8i:=@Nat.le_of_lt
def A4d:=@Int.natCast_mul
def A4u:=@Nat.le_div_iff_mul_le
def A69:=@Nat.div_mul_le_self
def A3i:=@Nat.one_mul
def A60:=@Nat.lt_of_mul_lt_mul_right
def A93:=@List.drop_set
def A89:=@Nat.add_comm
def A4g:=@List.ext_getElem?
def A8j:=@Nat.pow_zero
def A6r:=@List.set_set
def A6w:=@Nat.mul_lt_mul_of_pos_right
def A84:=@Nat.lt_of_mul_lt_mul_left
def A1d:=@List.length_append
def A3k:=@List.length_replicate
def A51:=@Nat.mul_pos
def A9a:=@Nat.gcd_comm
def A8u:=@Int.neg_mul
def Ba1:=@Int.neg_neg
def A9n:=@Int.mul_neg
def Bac:=@Int.lt_or_gt_of_ne
def A9q:=@Int.mul_ediv_add_emod
def A5j:=@Array.mk.injEq
def A1s:=@Int.natAbs_natCast
def A37:=@Rat.divInt_eq_div
def A8k:=@Rat.intCast_neg
def A8v:=@Rat.div_def
def A75:=@Rat.divInt_ofNat
def A3c:=@Rat.intCast_mul
def A7h:=@Rat.num_divInt_den
def A26:=@Int.natAbs_mul
def A8l:=@Int.mul_ne_zero
section
variable {B:List (Nat×Blk)}{T:List (Nat×SV)}
variable [Cl] [Co] [Pu]
def Alc (d:Nat):List (Nat×SV)->SV
 |[]=>.junk
 |(e,x)::l=>cond (Nat.beq d e) x (Alc d l)
def Y0 (d:Nat):List (Nat×Blk)->Option Blk
 |[]=>none
 |(e,x)::l=>cond (Nat.beq d e) (some x) (Y0 d l)
def S.of (n:Nat)(T:List (Nat×SV))(B:List (Nat×Blk)):S:={ n:=n,tm:=fun d=>Alc d T,hp:=fun k=>Y0 k B }
def Aqg (B:List (Nat×Blk)):SV->Bool
 |.p k _=>B.any fun q=>Nat.beq q.1 k
 |_=>true
def Up (T:List (Nat×SV))(B:List (Nat×Blk)):Bool:=T.all (fun p=>Aqg B p.2)&&B.all (fun q=>q.2.cells.all (Aqg B))
structure Cov (N:Nat)(s:S)(T:List (Nat×SV))(B:List (Nat×Blk)):Prop where
 n:s.n=N
 t:T.map (fun p=>s.tm p.1)=T.map (·.2)
 b:B.map (fun p=>s.hp p.1)=B.map (fun p=>some p.2)
def T7 {d:Nat}{x:SV}:∀ {T:List (Nat×SV)},Alc d T=x->x≠.junk->(d,x)∈T
 |[],h,hx=>absurd h.symm hx
 |(e,y)::l,h,hx=>by
  unfold Alc at h;cases hb:Nat.beq d e with
  |true=>simp[hb]at h;have:=A1y hb;subst this;subst h;simp
  |false=>simp[hb]at h;exact A2f _ (T7 h hx)
def O5 {d:Nat}{x:Blk}:∀ {B:List (Nat×Blk)},Y0 d B=some x->(d,x)∈B
 |[],h=>by cases h
 |(e,y)::l,h=>by
  unfold Y0 at h;cases hb:Nat.beq d e with
  |true=>simp[hb]at h;have:=A1y hb;subst this;subst h;simp
  |false=>simp[hb]at h;exact A2f _ (O5 h)
def Nc {k:Nat}:∀ {B:List (Nat×Blk)},B.any (fun q=>Nat.beq q.1 k)=true->Y0 k B≠none
 |[],h=>by simp at h
 |(e,y)::l,h=>by
  unfold Y0;cases hb:Nat.beq k e with
  |true=>simp
  |false =>
   simp only[cond_false];refine Nc ?_;simp only[List.any_cons,A4b]at h;rcases h with h|h
   ·have:=A1y h;subst this;simp at hb
   exact h
def Au0 {n:Nat}(h:Up T B=true):On (S.of n T B):=by
 unfold Up at h;simp only[A1m,A1o]at h;refine⟨fun d k off a=>?_,fun j b k off e f=>?_⟩
 ·have:=h.1 _ (T7 a mV);exact Nc this
 have:=h.2 _ (O5 e) _ f;exact Nc this
def Rel.cov {c:Cx}{s:S}{u m:PH}{ρ:Nat->Nat}{a:Act}{w:World}(h:Rel c s u m ρ a w){N:Nat}(f:Cov N s T B)(E:Up T B=true):Rel c (S.of N T B) u m ρ a w:=by
 have F:∀ d x,(d,x)∈T->s.tm d=x:=by
  intro d x g;have:=f.t;rw[List.map_inj_left]at this;exact this _ g
 have A:∀ d x,(d,x)∈B->s.hp d=some x:=by
  intro d x g;have:=f.b;rw[List.map_inj_left]at this;exact this _ g
 refine⟨h.sz.trans f.n,fun d C=>?_,h.df,fun k b e=>h.box k b (A k b (O5 e)),fun k j e D=>?_,Au0 E,h.gd,h.gr⟩
 ·have:=F d _ (T7 rfl C);have y:=h.tm d (by rw[this];exact C);rw[this]at y;exact y
 have q:∀ k,(S.of N T B).hp k≠none->s.hp k≠none:=by
  intro k e;cases hq:Y0 k B with
  |none=>exact absurd hq e
  |some b=>rw[A k b (O5 hq)];simp
 exact h.inj k j (q k e) (q j D)
def Ap0 (st:List KI×S):Bool:=match st.1 with|.code (.loop _)::_=>true|_=>false
def Aqa (st:List KI×S)(J:S->PH->PH->Prop)(T:List (Nat×SV))(B:List (Nat×Blk)):List KI×S:=match st.1 with
 |.code (.loop c)::k=>(.code c::.lp J::k,S.of st.2.n T B)
 |_=>st
def Ayk:List KI->Option (S->PH->PH->Prop)
 |.lp J::_=>some J
 |_=>none
section rules
variable {P:Program} [A6 P] {fn:Func} {Post:Ce} {st:List KI×S} {u m:PH}
def G.back {J:S->PH->PH->Prop}(h:Ayk (adv P st).1=some J)(e:J (adv P st).2 u m):G P fn Post st u m:=by
 refine G.stp ?_;generalize adv P st=st' at h e;obtain⟨j,s⟩:=st'
 match j,h with
 |.lp J'::k,h =>
  simp only[Ayk,A1f]at h;subst h;exact⟨fun c ρ a w f g=>⟨s,u,m,ρ,g,e⟩⟩
def G.loop {ι:Type}(T:ι->List (Nat×SV))(B:ι->List (Nat×Blk))(q:ι->PH->PH->Prop)(μ:ι->Nat)(t:ι)(h:Ap0 (adv P st)=true)(K:∀ i,Up (T i) (B i)=true)(h0:Cov (adv P st).2.n (adv P st).2 (T t) (B t))(R:q t u m)
 (I:∀ (J:S->PH->PH->Prop) (i:ι),(∀ g y f j,Cov (adv P st).2.n y (T g) (B g)->PH.le u f->q g f j->μ g < μ i->J y f j)->∀ f j,PH.le u f->q i f j->G P fn Post (Aqa (adv P st) J (T i) (B i)) f j):G P fn Post st u m:=by
 refine G.stp ?_;generalize adv P st=st' at h h0 I;obtain⟨V,s⟩:=st'
 match V,h with
 |.code (.loop x)::k,_ =>
  refine⟨?_⟩;intro c ρ a w A U;show (Code.loop x).wp P (It P fn Post c k) a w;refine wp_loop_ghost (fun n a w=>∃ i f j H,Rel c (S.of s.n (T i) (B i)) f j H a w/\PH.le u f/\q i f j/\μ i=n) (μ t) ⟨t,u,m,ρ,U.cov h0 (K t),PH.le_refl _,R,rfl⟩ ?_;rintro n a w ⟨i,f,j,H,N,O,Q,rfl⟩;have:=(I (fun y f j=>∃ g,Cov s.n y (T g) (B g)/\PH.le u f/\q g f j/\μ g < μ i) i (fun g y f j C D E F=>⟨g,C,D,E,F⟩) f j O Q).out c H a w A N;refine wp_mono this fun e a w L=>?_;cases e with
  |normal =>
   obtain⟨y,Y,W,Z,X,g,C,D,E,F⟩:=L;exact⟨_,F,g,Y,W,Z,X.cov C (K g),D,E,rfl⟩
  |_=>exact L
end rules
end
section
def cS {α:Type}{a b:α}(h:a=b:=by kernel_rfl):some a=some b:=congrArg some h
variable [Cl] [Pu]
variable {P:Program} [A6 P] {fn:Func} {Post:Ce} {st:List KI×S} {u m:PH}
def G.z (v:Value)(hp:Post.post v u m:=by exact⟨rfl,rfl⟩)(h:Ay3 P fn (adv P st)=some v:=by kernel_rfl):G P fn Post st u m:=G.ret v h hp
end
section
variable [Cl] [Pu] [Co]
variable {P:Program} [A6 P] {fn:Func} {Post:Ce} {st:List KI×S} {u m:PH}
def cV {N:Nat}{s:S}{T:List (Nat×SV)}{B:List (Nat×Blk)}(a:s.n=N:=by kernel_rfl)(b:T.map (fun p=>s.tm p.1)=T.map (·.2):=by kernel_rfl)(c:B.map (fun p=>s.hp p.1)=B.map (fun p=>some p.2):=by kernel_rfl):Cov N s T B:=⟨a,b,c⟩
def G.c {f:Nat}{args:List Value}{R:Value->PH->Prop}(hc:∀ args w,(callFunc f args).run P w=.ok (.enter f args) w)(c:Fn0 P f args u R)(k:∀ v u',PH.le u u'->R v u'->G P fn Post (nx (adv P st) v) u' m)(h:Aj P (adv P st)=.call f args:=by kernel_rfl):G P fn Post st u m:=G.call0 f args h hc c k
def G.eT (x y:Int)(k:G P fn Post (nx (adv P st) (.bool true)) u m)(h:Aj P (adv P st)=.bin .eql (.int .i64 x) (.int .i64 y):=by kernel_rfl)(hb:x=y:=by omega):G P fn Post st u m:=G.eqlT x y h hb k
def G.eF (x y:Int)(k:G P fn Post (nx (adv P st) (.bool false)) u m)(h:Aj P (adv P st)=.bin .eql (.int .i64 x) (.int .i64 y):=by kernel_rfl)(hb:¬ (x=y):=by omega):G P fn Post st u m:=G.eqlF x y h hb k
def G.nT (x y:Int)(k:G P fn Post (nx (adv P st) (.bool true)) u m)(h:Aj P (adv P st)=.bin .neq (.int .i64 x) (.int .i64 y):=by kernel_rfl)(hb:x≠y:=by omega):G P fn Post st u m:=G.neqT x y h hb k
def G.nF (x y:Int)(k:G P fn Post (nx (adv P st) (.bool false)) u m)(h:Aj P (adv P st)=.bin .neq (.int .i64 x) (.int .i64 y):=by kernel_rfl)(hb:¬ (x≠y):=by omega):G P fn Post st u m:=G.neqF x y h hb k
def G.lT (x y:Int)(k:G P fn Post (nx (adv P st) (.bool true)) u m)(h:Aj P (adv P st)=.bin .lss (.int .i64 x) (.int .i64 y):=by kernel_rfl)(hb:x<y:=by omega):G P fn Post st u m:=G.lssT x y h hb k
def G.lF (x y:Int)(k:G P fn Post (nx (adv P st) (.bool false)) u m)(h:Aj P (adv P st)=.bin .lss (.int .i64 x) (.int .i64 y):=by kernel_rfl)(hb:¬ (x<y):=by omega):G P fn Post st u m:=G.lssF x y h hb k
def G.kT (x y:Int)(k:G P fn Post (nx (adv P st) (.bool true)) u m)(h:Aj P (adv P st)=.bin .leq (.int .i64 x) (.int .i64 y):=by kernel_rfl)(hb:x<=y:=by omega):G P fn Post st u m:=G.leqT x y h hb k
def G.kF (x y:Int)(k:G P fn Post (nx (adv P st) (.bool false)) u m)(h:Aj P (adv P st)=.bin .leq (.int .i64 x) (.int .i64 y):=by kernel_rfl)(hb:¬ (x<=y):=by omega):G P fn Post st u m:=G.leqF x y h hb k
def G.gT (x y:Int)(k:G P fn Post (nx (adv P st) (.bool true)) u m)(h:Aj P (adv P st)=.bin .gtr (.int .i64 x) (.int .i64 y):=by kernel_rfl)(hb:x>y:=by omega):G P fn Post st u m:=G.gtrT x y h hb k
def G.gF (x y:Int)(k:G P fn Post (nx (adv P st) (.bool false)) u m)(h:Aj P (adv P st)=.bin .gtr (.int .i64 x) (.int .i64 y):=by kernel_rfl)(hb:¬ (x>y):=by omega):G P fn Post st u m:=G.gtrF x y h hb k
def G.hT (x y:Int)(k:G P fn Post (nx (adv P st) (.bool true)) u m)(h:Aj P (adv P st)=.bin .geq (.int .i64 x) (.int .i64 y):=by kernel_rfl)(hb:x≥y:=by omega):G P fn Post st u m:=G.geqT x y h hb k
def G.hF (x y:Int)(k:G P fn Post (nx (adv P st) (.bool false)) u m)(h:Aj P (adv P st)=.bin .geq (.int .i64 x) (.int .i64 y):=by kernel_rfl)(hb:¬ (x≥y):=by omega):G P fn Post st u m:=G.geqF x y h hb k
def G.eT' (x y:Int)(hb:x=y)(k:G P fn Post (nx (adv P st) (.bool true)) u m)(h:Aj P (adv P st)=.bin .eql (.int .i64 x) (.int .i64 y):=by kernel_rfl):G P fn Post st u m:=G.eqlT x y h hb k
def G.eF' (x y:Int)(hb:¬ (x=y))(k:G P fn Post (nx (adv P st) (.bool false)) u m)(h:Aj P (adv P st)=.bin .eql (.int .i64 x) (.int .i64 y):=by kernel_rfl):G P fn Post st u m:=G.eqlF x y h hb k
def G.nT' (x y:Int)(hb:x≠y)(k:G P fn Post (nx (adv P st) (.bool true)) u m)(h:Aj P (adv P st)=.bin .neq (.int .i64 x) (.int .i64 y):=by kernel_rfl):G P fn Post st u m:=G.neqT x y h hb k
def G.nF' (x y:Int)(hb:¬ (x≠y))(k:G P fn Post (nx (adv P st) (.bool false)) u m)(h:Aj P (adv P st)=.bin .neq (.int .i64 x) (.int .i64 y):=by kernel_rfl):G P fn Post st u m:=G.neqF x y h hb k
def G.lT' (x y:Int)(hb:x<y)(k:G P fn Post (nx (adv P st) (.bool true)) u m)(h:Aj P (adv P st)=.bin .lss (.int .i64 x) (.int .i64 y):=by kernel_rfl):G P fn Post st u m:=G.lssT x y h hb k
def G.lF' (x y:Int)(hb:¬ (x<y))(k:G P fn Post (nx (adv P st) (.bool false)) u m)(h:Aj P (adv P st)=.bin .lss (.int .i64 x) (.int .i64 y):=by kernel_rfl):G P fn Post st u m:=G.lssF x y h hb k
def G.kT' (x y:Int)(hb:x<=y)(k:G P fn Post (nx (adv P st) (.bool true)) u m)(h:Aj P (adv P st)=.bin .leq (.int .i64 x) (.int .i64 y):=by kernel_rfl):G P fn Post st u m:=G.leqT x y h hb k
def G.kF' (x y:Int)(hb:¬ (x<=y))(k:G P fn Post (nx (adv P st) (.bool false)) u m)(h:Aj P (adv P st)=.bin .leq (.int .i64 x) (.int .i64 y):=by kernel_rfl):G P fn Post st u m:=G.leqF x y h hb k
def G.gT' (x y:Int)(hb:x>y)(k:G P fn Post (nx (adv P st) (.bool true)) u m)(h:Aj P (adv P st)=.bin .gtr (.int .i64 x) (.int .i64 y):=by kernel_rfl):G P fn Post st u m:=G.gtrT x y h hb k
def G.gF' (x y:Int)(hb:¬ (x>y))(k:G P fn Post (nx (adv P st) (.bool false)) u m)(h:Aj P (adv P st)=.bin .gtr (.int .i64 x) (.int .i64 y):=by kernel_rfl):G P fn Post st u m:=G.gtrF x y h hb k
def G.hT' (x y:Int)(hb:x≥y)(k:G P fn Post (nx (adv P st) (.bool true)) u m)(h:Aj P (adv P st)=.bin .geq (.int .i64 x) (.int .i64 y):=by kernel_rfl):G P fn Post st u m:=G.geqT x y h hb k
def G.hF' (x y:Int)(hb:¬ (x≥y))(k:G P fn Post (nx (adv P st) (.bool false)) u m)(h:Aj P (adv P st)=.bin .geq (.int .i64 x) (.int .i64 y):=by kernel_rfl):G P fn Post st u m:=G.geqF x y h hb k
def G.i (i:Nat)(k:G P fn Post (nx (adv P st) (.int .i64 ((i+1:Nat):Int))) u m)(h:Aj P (adv P st)=.bin .add (.int .i64 (i:Int)) (.int .i64 1):=by kernel_rfl)(h2:((i+1:Nat):Int)<=9223372036854775807:=by omega):G P fn Post st u m:=G.add (i:Int) 1 ((i+1:Nat):Int) h (by omega) (by omega) h2 k
def G.p (x y z:Int)(k:G P fn Post (nx (adv P st) (.int .i64 z)) u m)(h:Aj P (adv P st)=.bin .add (.int .i64 x) (.int .i64 y):=by kernel_rfl)(hz:x+y=z:=by omega)(h1:-9223372036854775808<=z:=by omega)(h2:z<=9223372036854775807:=by omega):G P fn Post st u m:=G.add x y z h hz h1 h2 k
def G.s (x y z:Int)(k:G P fn Post (nx (adv P st) (.int .i64 z)) u m)(h:Aj P (adv P st)=.bin .sub (.int .i64 x) (.int .i64 y):=by kernel_rfl)(hz:x-y=z:=by omega)(h1:-9223372036854775808<=z:=by omega)(h2:z<=9223372036854775807:=by omega):G P fn Post st u m:=G.sub x y z h hz h1 h2 k
def G.b {J:S->PH->PH->Prop}(hj:J (adv P st).2 u m)(h:Ayk (adv P st).1=some J:=by kernel_rfl):G P fn Post st u m:=G.back h hj
def G.l {ι:Type}(T:ι->List (Nat×SV))(B:ι->List (Nat×Blk))(Inv:ι->PH->PH->Prop)(μ:ι->Nat)(i0:ι)(hI:Inv i0 u m)
    (hR:∀ (J:S->PH->PH->Prop) (i:ι),(∀ i' s' u' m',Cov (adv P st).2.n s' (T i') (B i')->PH.le u u'->Inv i' u' m'->μ i' < μ i->J s' u' m')->∀ u' m',PH.le u u'->Inv i u' m'->G P fn Post (Aqa (adv P st) J (T i) (B i)) u' m') (h:Ap0 (adv P st)=true:=by kernel_rfl) (hl:∀ i,Up (T i) (B i)=true:=by exact fun _=>by kernel_rfl) (h0:Cov (adv P st).2.n (adv P st).2 (T i0) (B i0):=by exact cV):G P fn Post st u m:=G.loop T B Inv μ i0 h hl h0 hI hR
end
section
variable [Cl] [Pu]
variable {P:Program} [A6 P] {fn:Func} {Post:Ce} {st:List KI×S} {u m:PH}
def G.r (v:Value)(hp:Post.post v u m)(h:Ay3 P fn (adv P st)=some v:=by kernel_rfl):G P fn Post st u m:=G.ret v h hp
def Fn0.o {R:Value->PH->Prop}{f:FuncId}{args:List Value}(hf:P.funcs[f]?=some fn)(h:G P fn ⟨fun v u' m'=>m'=PH.mt/\R v u',PH.mt⟩ (st0 fn args) u PH.mt)(hb:fn.body.isSome=true:=by kernel_rfl)(hn:Nat.ble args.length fn.ntmps=true:=by kernel_rfl):Fn0 P f args u R:=Fn0.of hf hb hn h
def Ag.o {PostV:Value->PH->PH->Prop}{f:FuncId}{args:List Value}(hf:P.funcs[f]?=some fn)(h:G P fn ⟨PostV,m⟩ (st0 fn args) u m)(hb:fn.body.isSome=true:=by kernel_rfl)(hn:Nat.ble args.length fn.ntmps=true:=by kernel_rfl):Ag P f args u m PostV:=Ag.of hf hb hn h
end
section
variable {a:zP}{cs:zV}{w:World}
def Ext (w w':World):Prop:=Below w.heap.size w w'
def Ext.refl (w:World):Ext w w:=Below.refl _ _
def Ext.trans {a b c:World}(h:Ext a b)(k:Ext b c):Ext a c:=Below.trans h (Below.mono k h.size)
def Ext.alloc {a w:World}(h:Ext a w)(o:Obj):Ext a (w.alloc o):=Below.alloc h h.size o
def Ext.drew {a w:World}(h:Ext a w):Ext a w.drew:=Below.drew h
def Ext.cell {w w':World}(h:Ext w w'){p:Addr}{v:Value}(hp:w.cell? p=some v):w'.cell? p=some v:=by
 rw[Below.cell h (block_lt_of_cell hp)];exact hp
def Ext.size {w w':World}(h:Ext w w'):w.heap.size<=w'.heap.size:=Below.size h
def Ext.setCell {a w:World}(h:Ext a w){p:Addr}(hp:a.heap.size<=p.block)(u:Value):Ext a (w.setCell p u):=Below.setCell h hp u
def Ext.grown {a w w':World}{row:Option Nat}(h:Ext a w)(e:w.grownBy w' row)(f:∀ k,row=some k->a.heap.size<=k):Ext a w' :=
 Below.grown h e h.size f
def Row (w:World)(a:zP)(cs:zV):Prop :=
 ∀ j,j<cs.length->∃ b off,a=some ⟨b,off,none⟩/\w.cell? ⟨b,off+j,none⟩=some (cs.getD j zL)
def Row.ext {w w':World}(h:Row w a cs)(x:Ext w w'):Row w' a cs:=by
 intro j g;obtain⟨b,off,e,f⟩:=h j g;exact⟨b,off,e,x.cell f⟩
def Row.nil (w:World)(a:zP):Row w a []:=fun j e=>absurd e mV
def Row.take (h:Row w a cs)(k:Nat):Row w a (cs.take k):=by
 intro j g;rw[A1e]at g;obtain⟨b,off,e,f⟩:=h j oV;refine⟨b,off,e,?_⟩;rw[f,A02,A02,A3y,if_pos oV]
def Row.of_owns {w:World}{base:Nat}{e:TypeId}{size:Nat}{g n cap:Nat}{xs:zV}
 (h:w.ownsRow base e size (zG g n cap) n xs):Row w (zA g) xs:=by
 intro j f;refine⟨g,0,rfl,?_⟩;rw[h.1]at f;have:=h.cellAt j f;rw[A2w,this,A02];have k:j<xs.length:=by rw[h.1];exact f
 rw[A01 k];rfl
def A8 (l:zK):zV:=l.map fun (n:Nat)=>Value.int .u64 (n:Int)
@[simp] theorem Us (l:zK):(A8 l).length=l.length:=by simp[A8]
def Row.at {l:zK}(h:Row w a (A8 l)){j:Nat}(e:j<l.length) :
 ∃ b off,a=some ⟨b,off,none⟩/\w.cell? ⟨b,off+j,none⟩=some (.int .u64 (l.getD j 0:Nat)):=by
 obtain⟨b,off,f,g⟩:=h j (by simpa[A8] using e);exact⟨b,off,f,by rw[g];simp[A8,e]⟩
def Xa (l:zK)(j n:Nat):(A8 l).set j (.int .u64 (n:Int))=A8 (l.set j n):=by simp[A8,A2g]
def Aba (l:zK)(k:Nat):(A8 l).take k=A8 (l.take k):=by simp[A8,A5g]
def Ahe (n:Nat):List.replicate n (Value.int .u64 0)=A8 (List.replicate n 0):=by simp[A8]
def Y7 (w:World)(v:Value)(l:zK):Prop:=∃ a cap,v=.slice a l.length cap/\l.length<=cap/\Row w a (A8 l)
def C8 (w:World)(v:Value)(n:Nat):Prop:=Y7 w v (Aa n)
def Y7.ext {w w':World}{v:Value}{l:zK}(h:Y7 w v l)(x:Ext w w'):Y7 w' v l:=by
 obtain⟨a,cap,e,f,g⟩:=h;exact⟨a,cap,e,f,g.ext x⟩
def C8.ext {w w':World}{v:Value}{n:Nat}(h:C8 w v n)(x:Ext w w'):C8 w' v n:=Y7.ext h x
def C8.zero (w:World)(a:zP)(cap:Nat):C8 w (.slice a 0 cap) 0:=by
 refine⟨a,cap,by rw[A7];rfl,by rw[A7];simp,?_⟩;rw[A7];simp[A8];exact Row.nil _ _
end
def Aax {a:zP}{m n c:Nat}(h:m=n):Ending.returned (.slice a m c)=.returned (.slice a n c):=by rw[h]
def Atm {k:IntKind}{a b:Int}(h:a=b):Ending.returned (.int k a)=.returned (.int k b):=by rw[h]
def Arc (a:zP)(cap:Nat)(l:zK)(w:World)(t:l.length<=9223372036854775807)(q:l.length<=cap)
 (m:Row w a (A8 l)) :
 Calls prog 193 #[.slice a l.length cap] w fun e w'=>e=.returned (.slice a (Bz l l.length) cap)/\w=w':=by
 have y:=Lib.hid m;clear m
 go_enter func193,ntmps193
 go_wp2
 go_loop [3] (fun n=>∃ k:Nat,k<=l.length/\n=zI k/\Bz l l.length=Bz l k) (fun n=>(intOf n).toNat)
 case atStart=>exact⟨l.length,oV,rfl,rfl⟩
 case round =>
  obtain⟨k,C,rfl,u⟩:=hrel;have f:=Lib.hid u;clear u;rcases k with _|k
  ·go_wp2
   go_ret
   exact⟨Aax (by rw[f.out];rfl),rfl⟩
  obtain⟨b,off,rfl,A⟩:=y.out.at (j:=k) oV;obtain⟨x,g⟩:∃ x,x=l.getD k 0:=⟨_,rfl⟩;rw[<-g]at A;have h:=Lib.hid g;clear g;by_cases h0:x=0
  ·subst h0
   go_wp2
   go_round
   case rel=>exact⟨k,oV,rfl,by rw[f.out];simp only[Bz,<-h.out,if_true]⟩
   case measure=>simp[intOf]
  have B:((x:Int)==0)=false:=gV
  go_wp2
  go_ret
  exact⟨Aax (by rw[f.out];simp only[Bz,<-h.out,if_neg h0]),rfl⟩
def Wn (a:zP)(cap:Nat)(l:zK)(i:Int)(w:World)(m:l.length<=9223372036854775807)(hi:0<=i)
 (h:Row w a (A8 l)) :
 Calls prog 271 #[.slice a l.length cap,zI i] w fun e w'=>e=.returned (.int .u64 (l.getD i.toNat 0:Nat))/\w=w':=by
 obtain⟨k,rfl⟩:=A6d hi;rw[A23];have g:=Lib.hid h;clear h;by_cases q:k<l.length
 ·obtain⟨b,off,rfl,f⟩:=g.out.at (j:=k) q;obtain⟨x,n⟩:∃ x,x=l.getD k 0:=⟨_,rfl⟩;rw[<-n]at f⊢;clear g n
  go_enter func271,ntmps271
  go_wp2
  go_ret
  exact⟨rfl,rfl⟩
 have f:l.getD k 0=0:=by
  have:l[k]?=none:=A1v oV;simp[this]
 rw[f];clear g f
 go_enter func271,ntmps271
 go_wp2
 go_ret
 exact⟨rfl,rfl⟩
def sgn (n:Int):Int:=if n<0 then -1 else if 0<n then 1 else 0
def Asn (n:Int)(w:World) :
 Calls prog 275 #[zI n] w fun e w'=>e=.returned (zI (sgn n))/\w=w':=by
 rcases A4q n 0 with h|h|h
 ·have a:sgn n = -1:=by simp[sgn,h]
  rw[a];clear a
  go_enter func275,ntmps275
  go_wp2
  go_ret
  exact⟨rfl,rfl⟩
 ·subst h
  go_enter func275,ntmps275
  go_wp2
  go_ret
  exact⟨rfl,rfl⟩
 have a:sgn n=1:=by simp[sgn,h];omega
 rw[a];clear a;have f:¬ n<0:=oV
 go_enter func275,ntmps275
 go_wp2
 go_ret
 exact⟨rfl,rfl⟩
def G5 (a:zP)(cap n:Nat)(l:zK)(w:World)(j:l.length=n)(g:n<=9223372036854775807)(f:n<=cap)
 (h:Row w a (A8 l)) :
 Calls prog 193 #[.slice a n cap] w fun e w'=>e=.returned (.slice a (Bz l l.length) cap)/\w=w':=by
 subst j;exact Arc a cap l w g f h
section
variable {a b o ys:zK}{c d i k r x y:Nat}
def Is (p t:Nat):p*(t%1000000000)+p*1000000000*(t/1000000000)=p*t:=by
 rw[A17,<-A2o,Nat.mod_add_div]
structure L8 (a b:zK)(k:Nat)(ys:zK)(c:Nat):Prop where
 len:ys.length=k
 low:Low ys
 carry:c<=1
 sum:val ys+1000000000^k*c=val (a.take k)+val (b.take k)
def L8.start (a b:zK):L8 a b 0 [] 0:=⟨rfl,Low.nil,oV,by simp[val]⟩
def L8.step (h:L8 a b k ys c)(m:Low a)(n:Low b)(e:x=a.getD k 0)(f:y=b.getD k 0) :
 L8 a b (k+1) (ys++[(x+y+c)%1000000000]) ((x+y+c)/1000000000):=by
 have g:=m.getD k;have j:=n.getD k;have q:=h.carry;rw[<-e]at g;rw[<-f]at j;refine⟨by simp[h.len],h.low.append (Low.cons oV Low.nil),oV,?_⟩;rw[Ki,A5,A5,h.len,<-e,<-f,A2d,A3p,Is];have:=h.sum;rw[A2o,A2o];omega
def L8.done (h:L8 a b (max a.length b.length+1) ys c)(n:Low a)(q:Low b):val ys=val a+val b:=by
 have e:=h.sum;rw[A1j oV,A1j oV]at e;have f:=K8 n;have g:=K8 q;have j:1000000000^a.length<=1000000000^max a.length b.length:=A10 oV oV;have m:1000000000^b.length<=1000000000^max a.length b.length:=A10 oV oV;rw[A2d]at e;have u:=A2s f j;have A:=A2s g m;have t:=h.carry;clear f g j m h;generalize 1000000000^max a.length b.length=p at *
 rcases A2a c with h0|h0
 ·subst h0;rw[A3z,A3s]at e;exact e
 have f:c=1:=A8h t h0;subst f;rw[A50]at e;omega
structure Lv (a b:zK)(k:Nat)(ys:zK)(c:Nat):Prop where
 len:ys.length=k
 low:Low ys
 carry:c<=1
 sum:val ys+val (b.take k)=val (a.take k)+1000000000^k*c
def Lv.start (a b:zK):Lv a b 0 [] 0:=⟨rfl,Low.nil,oV,by simp[val]⟩
def Lv.step (h:Lv a b k ys c)(n:Low a)(q:Low b)(e:x=a.getD k 0)(f:y=b.getD k 0) :
 Lv a b (k+1) (ys++[(x+1000000000-y-c)%1000000000]) (1-(x+1000000000-y-c)/1000000000):=by
 have j:=n.getD k;have m:=q.getD k;have B:=h.carry;rw[<-e]at j;rw[<-f]at m;refine⟨by simp[h.len],h.low.append (Low.cons oV Low.nil),oV,?_⟩;rw[Ki,A5,A5,h.len,<-e,<-f,A2d];have C:=h.sum;generalize 1000000000^k=p at *
 obtain⟨t,u⟩:∃ t,t=x+1000000000-y-c:=⟨_,rfl⟩;rw[<-u];have g:t%1000000000+y+c=x+1000000000*(1-t/1000000000):=oV
 have A:p*(t%1000000000)+p*y+p*c=p*x+p*1000000000*(1-t/1000000000):=by
  rw[A17,<-A2o,<-A2o,<-A2o,g]
 omega
def Lv.done (h:Lv a b a.length ys c)(g:b.length<=a.length)(j:val b<=val a):val ys=val a-val b:=by
 have e:=h.sum;rw[A1j (A08 _),A1j g]at e;have f:=K8 h.low;rw[h.len]at f;rcases A2a c with h0|h0
 ·subst h0;simp at e;omega
 have:1000000000^a.length*1<=1000000000^a.length*c:=A2h _ h0;omega
def Gz (l:zK)(k:Nat)(e:k<=l.length):val l=val (l.take k)+1000000000^k*val (l.drop k):=by
 have:=Qm (l.take k) (l.drop k);rw[A4h,A1e,A4a e]at this;exact this
def Cs (l:zK)(k:Nat)(e:k<l.length):l.drop k=l.getD k 0::l.drop (k+1):=by
 rw[A5z e];simp[e]
def G9 {a b:zK}{k:Nat}(n:a.length=b.length)(m:k<a.length)(g:Low a)(j:a.drop (k+1)=b.drop (k+1))
 (h:a.getD k 0<b.getD k 0):val a<val b:=by
 rw[Gz a k oV,Gz b k oV,Cs a k m,Cs b k oV,j];simp only[val];have f:=K8 (g.take k);rw[A1e,A4a oV]at f;generalize 1000000000^k=p at *
 generalize val (List.drop (k+1) b)=q;have:p*(a.getD k 0+1+1000000000*q)<=p*(b.getD k 0+1000000000*q):=A2h _ oV;have e:p*(a.getD k 0+1+1000000000*q)=p*(a.getD k 0+1000000000*q)+p:=by
  rw[show a.getD k 0+1+1000000000*q=(a.getD k 0+1000000000*q)+1 by omega,A2o,A50]
 omega
def Ku {m n:Nat}(h:nl m<nl n):m<n:=by
 rcases A2e m n with e|e
 ·exact e
 have:=C4 e;omega
structure Gt (a b:zK)(i k:Nat)(o:zK)(c:Nat):Prop where
 len:o.length=a.length+b.length
 low:Low o
 carry:c<1000000000
 sum:val o+1000000000^(i+k)*c=val (a.take i)*val b+1000000000^i*(a.getD i 0*val (b.take k))
 high:∀ j,i+b.length<=j->o.getD j 0=0
def Ama (l:zK)(j d:Nat)(e:j<l.length):val (l.set j d)+1000000000^j*l.getD j 0=val l+1000000000^j*d:=by
 induction l generalizing j with
 |nil=>simp at e
 |cons x l ih =>
  cases j with
  |zero=>simp[val];omega
  |succ j =>
   have:=ih j (by simpa using e);simp only[A2j,val,A6b,A2d];have f:1000000000^j*1000000000*l.getD j 0=1000000000*(1000000000^j*l.getD j 0):=by rw[A19 (1000000000^j),A17]
   have g:1000000000^j*1000000000*d=1000000000*(1000000000^j*d):=by rw[A19 (1000000000^j),A17]
   rw[f,g];omega
def Low.set {l:zK}(h:Low l)(j:Nat)(f:d<1000000000):Low (l.set j d):=by
 intro x e;rcases A7c e with e|rfl
 ·exact h x e
 exact f
def Gy (l:zK){i j:Nat}(d:Nat)(h:i≠j):(l.set i d).getD j 0=l.getD j 0:=by
 simp[A02,h]
def Gt.start (a b:zK):Gt a b 0 0 (List.replicate (a.length+b.length) 0) 0:=by
 refine⟨mV,Low.zeros _,oV,by simp[Aa1,val],fun j _=>?_⟩;rw[A02,A6e];split<;>rfl
def Gt.step {a b o:zK}{i k c x y z t:Nat}(h:Gt a b i k o c)(B:Low a)(C:Low b)(N:k<b.length)(hi:i<a.length)
 (f:x=a.getD i 0) (m:y=b.getD k 0) (n:z=o.getD (i+k) 0) (F:t=z+x*y+c) :
 Gt a b i (k+1) (o.set (i+k) (t%1000000000)) (t/1000000000):=by
 have q:=B.getD i;have u:=C.getD k;have A:=h.low.getD (i+k);have K:=h.carry;rw[<-f]at q;rw[<-m]at u;rw[<-n]at A;have I:x*y<=999999999*999999999:=A25 oV oV;refine⟨by simp[h.len],h.low.set _ (A29 _ oV),oV,?_,fun j D=>?_⟩
 ·have H:=Ama o (i+k) (t%1000000000) (by have:=h.len;omega);rw[<-n]at H;have g:=h.sum;rw[<-f]at g;have E:val (a.take i)*val b+1000000000^i*(x*val (b.take (k+1)))=val o+1000000000^(i+k)*c+1000000000^i*(x*(1000000000^k*y)):=by
   rw[g,A5,<-m,A2o x,A2o (1000000000^i),A3p]
  rw[<-f,E];rw[show i+(k+1)=i+k+1 by omega,A2d];have L:=Is (1000000000^(i+k)) t;have e:1000000000^i*(x*(1000000000^k*y))=1000000000^(i+k)*(x*y):=by
   rw[A4k,A17];congr 1;rw[<-A17,A19 x,A17]
  rw[e];generalize 1000000000^(i+k)=p at *
  have J:p*t=p*z+p*(x*y)+p*c:=by rw[F,A2o,A2o]
  omega
 rw[Gy _ _ oV];exact h.high j D
def Gt.next (h:Gt a b i b.length o c)(hi:i<a.length) :
 o.getD (i+b.length) 0=0/\Gt a b (i+1) 0 (o.set (i+b.length) c) 0:=by
 have h0:=h.high (i+b.length) (A08 _);refine⟨h0,by simp[h.len],h.low.set _ h.carry,oV,?_,fun j m=>?_⟩
 ·have f:=Ama o (i+b.length) c (by have:=h.len;omega);rw[h0]at f;have g:=h.sum;rw[A1j (A08 _)]at g;rw[A5,A16];have e:1000000000^i*a.getD i 0*val b=1000000000^i*(a.getD i 0*val b):=A17 _ _ _;rw[e,<-g];rw[A3z,A3s]at f;rw[A53,val,A3z,A3z,A3z,A3s,A3s];exact f
 rw[Gy _ _ oV];exact h.high j oV
def Gt.done (h:Gt a b a.length 0 o 0):val o=val a*val b:=by
 have e:=h.sum;rw[A1j (A08 _)]at e;simpa[val] using e
structure I9 (a:zK)(d k:Nat)(o:zK)(r:Nat):Prop where
 len:o.length=a.length
 low:Low o
 rest:r<d
 sum:val (a.drop k)=d*val (o.drop k)+r
def I9.start (a:zK)(d:Nat)(e:0<d):I9 a d a.length (List.replicate a.length 0) 0 :=
 ⟨mV,Low.zeros _,e,by simp[val]⟩
def I9.step (h:I9 a d (k+1) o r)(u:Low a)(e:k<a.length)(g:x=a.getD k 0) :
 I9 a d k (o.set k ((r*1000000000+x)/d)) ((r*1000000000+x)%d):=by
 have f:0<d:=A22 (A1t _) h.rest;have t:=u.getD k;rw[<-g]at t;have B:(r*1000000000+x)/d<1000000000:=by
  rw[A3b f];have:(r+1)*1000000000<=d*1000000000:=A13 _ h.rest;rw[A19 1000000000 d];omega
 refine⟨by simp[h.len],h.low.set _ B,A29 _ f,?_⟩;have j:=Cs a k e;have m:=Cs (o.set k ((r*1000000000+x)/d)) k (by simp[h.len,e]);rw[j,m,A67 oV];simp only[val,<-g];have n:(o.set k ((r*1000000000+x)/d)).getD k 0=(r*1000000000+x)/d:=by
  simp[A02,h.len,e]
 rw[n];have C:=h.sum;have A:=A3h (r*1000000000+x) d;generalize (r*1000000000+x)/d=q at *
 generalize (r*1000000000+x)%d=s at *
 rw[C,A2o,A2o,show d*(1000000000*val (List.drop (k+1) o))=1000000000*(d*val (List.drop (k+1) o)) by rw[<-A17,A19 d,A17]];omega
def I9.done (h:I9 a d 0 o r):val o=val a/d/\r=val a%d:=by
 have e:=h.sum;simp only[A5a]at e;have f:0<d:=A22 (A1t _) h.rest;rw[e];constructor
 ·rw[Nat.mul_add_div f,A49 h.rest];rfl
 rw[Nat.mul_add_mod,A5i h.rest]
end
def Ye (w:World)(n:Nat)(e:Ending)(w':World):Prop:=∃ v,e=.returned v/\C8 w' v n/\Ext w w'
def Tryz.info246:(prog.info? 246).map (fun i=>(i.zero,i.size,i.bytes))=some (some (.int .u64 0),1,8):=kV
def Lp (n:Nat):(madeCells (Value.int .u64 0).cells (n*1)).toList=A8 (List.replicate n 0):=by
 rw[A50];exact (toList_madeCells_one _ _).trans (Ahe n)
def D3 {w:World}{a:zP}{l:zK}{cap n:Nat}(g:Low l)(k:Row w a (A8 l))(j:val l=n)(m:l.length<=cap) :
 C8 w (.slice a (Bz l l.length) cap) n:=by
 have h:=Ke g;rw[j]at h;have f:=Mi l l.length;have e:(Aa n).length=Bz l l.length:=by rw[h,A1e,A4a f]
 refine⟨a,cap,by rw[e],oV,?_⟩;rw[h,<-Aba];exact k.take _
def Ayy (w:World)(l m:zK)(n:Nat)(c i:Value)(wr:World):Prop :=
 ∃ (k:Nat) (ys:zK) (cc:Nat),k<=n/\i=zI k/\c=.int .u64 (cc:Int)/\L8 l m k ys cc /\
  wr.ownsRow w.heap.size 246 1 (.slice (some ⟨w.heap.size,0,none⟩) n n) n (A8 (ys++List.replicate (n-k) 0))/\Ext w wr
def Z4 {w a:World}{e:TypeId}{n k:Nat}{ys:zK}{d:Nat}(q:k<n)(g:ys.length=k)
 (h:a.ownsRow w.heap.size e 1 (.slice (some ⟨w.heap.size,0,none⟩) n n) n (A8 (ys++List.replicate (n-k) 0))) (x:Ext w a) :
 (a.setCell ⟨w.heap.size,k,none⟩ (.int .u64 (d:Int))).ownsRow w.heap.size e 1 (.slice (some ⟨w.heap.size,0,none⟩) n n) n (A8 ((ys++[d])++List.replicate (n-(k+1)) 0)) /\
  Ext w (a.setCell ⟨w.heap.size,k,none⟩ (.int .u64 (d:Int))):=by
 obtain⟨f,m⟩:=h.stored k (.int .u64 (d:Int));refine⟨?_,x.setCell (A08 _) _⟩;rw[Xa]at f;have e:(ys++List.replicate (n-k) 0).set k d=(ys++[d])++List.replicate (n-(k+1)) 0:=by
  rw[A4t _ _ oV,g,A4i];obtain⟨r,j⟩:∃ r,n-k=r+1:=⟨n-k-1,oV⟩;rw[j,show n-(k+1)=r by omega,A68,A2p,A2k];rfl
 rw[e]at f;exact f
set_option maxRecDepth 100000 in
def Asj (a b:zP)(ca cb:Nat)(l m:zK)(w:World)(ha:Row w a (A8 l))(hb:Row w b (A8 m))(la:Low l)(lb:Low m)
 (sa:l.length<=10000000000000) (sb:m.length<=10000000000000) :
 Calls prog 239 #[.slice a l.length ca,.slice b m.length cb] w (Ye w (val l+val m)):=by
 obtain⟨i0,hi,H,I,J⟩:=info_parts Tryz.info246;have HI:=Lib.hid hi;have O:=Lib.hid H;have P:=Lib.hid I;have Q:=Lib.hid J;clear hi H I J;have HA:=Lib.hid ha;have HB:=Lib.hid hb;have R:=Lib.hid la;have T:=Lib.hid lb;clear ha hb la lb;obtain⟨n,hn⟩:∃ n,n=max l.length m.length+1:=⟨_,rfl⟩;have N:=Lib.hid hn;have a1:n<=10000000000001:=oV;clear hn;rcases A2e l.length m.length with U|U;all_goals
  go_enter func239,ntmps239
  go_wp2_with (at_make;refine wpList_make_full _ rfl _ _ 139 rfl w.heap.size 246 i0 (.int .u64 0) 1 Tryz.underlying139 HI.out O.out P.out .i64 .i64 _ _ n rfl rfl (by have:=N.out;omega) (by have:=N.out;omega) (by rw[Q.out];omega) (by unfold maxLen;omega) (A08 _) ?_;intro w1 f j)
  rw[Lp]at f;have X:=Lib.hid f;have Y:Hid (Ext w w1):=(Ext.refl w).grown j (fun k hk=>by cases hk);clear f j
  go_loopw [6,18] (Ayy w l m n) (fun _ i _=>n-(intOf i).toNat)
  case atStart=>exact⟨0,[],0,A1t _,rfl,rfl,L8.start _ _,by simpa using X.out,Y.out⟩
  case round =>
   obtain⟨k,ys,D,hk,rfl,rfl,A,f,C⟩:=hrel;have B:=Lib.hid A;have K:=Lib.hid f;have L:=Lib.hid C;have a0:=A.carry;clear A f C X Y;by_cases V:k<n
   ·obtain⟨x,C⟩:∃ x,x=l.getD k 0:=⟨_,rfl⟩;obtain⟨y,W⟩:∃ y,y=m.getD k 0:=⟨_,rfl⟩;have a2:x<1000000000:=by rw[C];exact R.out.getD k
    have a3:y<1000000000:=by rw[W];exact T.out.getD k
    have Z:=Lib.hid C;have YY:=Lib.hid W;clear C W;have hf:=K.out.frozenAt k;have E:∃ u,wr.cell? ⟨w.heap.size,k,none⟩=some u:=by
     obtain⟨b,off,h1,h2⟩:=Row.of_owns K.out k (by simp[B.out.len];omega);simp only[A1f,Addr.mk.injEq,and_true]at h1;obtain⟨rfl,rfl⟩:=h1;rw[A2w]at h2;exact⟨_,h2⟩
    obtain⟨u,E⟩:=E
    go_wp2_with fail
    refine (Wn _ _ _ _ _ oV oV (HA.out.ext L.out)).mono ?_;rw[A23,<-Z.out];rintro e w' ⟨rfl,rfl⟩
    go_wp2_with fail
    refine (Wn _ _ _ _ _ oV oV (HB.out.ext L.out)).mono ?_;rw[A23,<-YY.out];rintro e w' ⟨rfl,rfl⟩
    go_wp2
    rw[show ((x:Int)+y+D)%1000000000=(((x+y+D)%1000000000:Nat):Int) by omega,show ((x:Int)+y+D)/1000000000=(((x+y+D)/1000000000:Nat):Int) by omega];have hs:=B.out.step R.out T.out Z.out YY.out;have g:=Z4 (d:=(x+y+D)%1000000000) V B.out.len K.out L.out;exact⟨⟨k+1,_,_,oV,by go_num,rfl,hs,g.1,g.2⟩,by simp only[intOf];omega⟩
   obtain rfl:k=n:=oV;have q:=B.out.len;have f:=K.out;rw[A4i,A42,A1x]at f;have t:=Lib.hid (Row.of_owns f);have F:=Lib.hid (D3 (cap:=k) (n:=val l+val m) B.out.low t.out (by have h:=B.out;rw[N.out]at h;exact h.done R.out T.out) oV);have HL:=Lib.hid q;clear f q
   go_wp2_with fail
   ((with_reducible refine (G5 _ _ _ ys _ HL.out oV oV t.out).mono ?_);rintro e w' ⟨rfl,rfl⟩)
   go_wp2
   go_ret
   exact⟨_,rfl,F.out,L.out⟩
def Ai9 (e f:Value)(m n:Nat)(w:World)(j:C8 w e m)(k:C8 w f n)(t:nl m<=10000000000000)(sb:nl n<=10000000000000) :
 Calls prog 239 #[e,f] w (Ye w (m+n)):=by
 obtain⟨a,g,rfl,_,ra⟩:=j;obtain⟨b,h,rfl,_,q⟩:=k;have:=Asj a b g h (Aa m) (Aa n) w ra q (Ao _) (Ao _) t sb;rw[Am,Am]at this;exact this
section
variable {n:Int}{v:Value}{w:World}
def Ext.drewN {a w:World}(h:Ext a w)(n:Nat):Ext a (w.drewN n):=by
 obtain⟨e,f,g,j,k⟩:=h;exact⟨e,f,g,j,k⟩
def Row.drewN {w:World}{a:zP}{cs:zV}(h:Row w a cs)(n:Nat):Row (w.drewN n) a cs:=h.ext ((Ext.refl w).drewN n)
def Px {base:Nat}{e:TypeId}{size:Nat}{n:Nat}{xs:zV}(h:w.ownsRow base e size v n xs)(k:Nat):(w.drewN k).ownsRow base e size v n xs:=h
def Ayb (w:World)(l m:zK)(n:Nat)(c i:Value)(wr:World):Prop :=
 ∃ (k:Nat) (ys:zK) (cc:Nat),k<=n/\i=zI k/\c=.int .u64 (cc:Int)/\Lv l m k ys cc /\
  wr.ownsRow w.heap.size 246 1 (.slice (some ⟨w.heap.size,0,none⟩) n n) n (A8 (ys++List.replicate (n-k) 0))/\Ext w wr
set_option maxRecDepth 100000 in
def Ap7 (a b:zP)(ca Y:Nat)(l m:zK)(w:World)(ha:Row w a (A8 l))(hb:Row w b (A8 m))(la:Low l)(lb:Low m)
 (sa:l.length<=10000000000000) (sb:m.length<=l.length) (J:val m<=val l) :
 Calls prog 240 #[.slice a l.length ca,.slice b m.length Y] w (Ye w (val l-val m)):=by
 obtain⟨i0,hi,N,O,P⟩:=info_parts Tryz.info246;have HI:=Lib.hid hi;have V:=Lib.hid N;have W:=Lib.hid O;have X:=Lib.hid P;clear hi N O P;have HA:=Lib.hid ha;have HB:=Lib.hid hb;have LA:=Lib.hid la;have LB:=Lib.hid lb;have LE:=Lib.hid J;clear ha hb la lb J;obtain⟨n,hn⟩:∃ n,n=l.length:=⟨_,rfl⟩;have E:=Lib.hid hn;have a3:n<=10000000000001:=oV;clear hn
 go_enter func240,ntmps240
 go_wp2_with (at_make;refine wpList_make_full _ rfl _ _ 139 rfl w.heap.size 246 i0 (.int .u64 0) 1 Tryz.underlying139 HI.out V.out W.out .i64 .i64 _ _ n rfl rfl (by have:=E.out;omega) (by have:=E.out;omega) (by rw[X.out];omega) (by unfold maxLen;omega) (A08 _) ?_;intro w1 f j)
 rw[Lp]at f;have HO:=Lib.hid f;have X1:Hid (Ext w w1):=(Ext.refl w).grown j (fun k hk=>by cases hk);clear f j
 go_loopw [6,14] (Ayb w l m n) (fun _ i _=>n-(intOf i).toNat)
 case atStart=>exact⟨0,[],0,A1t _,rfl,rfl,Lv.start _ _,by simpa using HO.out,X1.out⟩
 case round =>
  obtain⟨k,ys,F,hk,rfl,rfl,B,f,C⟩:=hrel;have D:=Lib.hid B;have Q:=Lib.hid f;have R:=Lib.hid C;have a2:=B.carry;clear B f C HO X1;by_cases K:k<l.length
  ·have a0:k<n:=by rw[E.out];exact K
   obtain⟨x,C⟩:∃ x,x=l.getD k 0:=⟨_,rfl⟩;obtain⟨y,T⟩:∃ y,y=m.getD k 0:=⟨_,rfl⟩;have a4:x<1000000000:=by rw[C];exact LA.out.getD k
   have a5:y<1000000000:=by rw[T];exact LB.out.getD k
   obtain⟨ba,a1,rfl,Z⟩:=(HA.out.ext R.out).at K;rw[<-C]at Z;have H:∀ q,Calls prog 271 #[.slice b m.length Y,zI k] (wr.drewN q) fun e w'=>e=.returned (.int .u64 (y:Int))/\w'=wr.drewN q:=fun q=>by
    have:=Wn b Y m k (wr.drewN q) oV oV ((HB.out.ext R.out).drewN q);rw[A23,<-T]at this;exact this.mono fun _ _ h=>⟨h.1,h.2.symm⟩
   have U:=Lib.hid H;have XX:=Lib.hid C;have YY:=Lib.hid T;clear C T H;have hf:=Q.out.frozenAt k;have I:∃ u,wr.cell? ⟨w.heap.size,k,none⟩=some u:=by
    obtain⟨b,off,h1,h2⟩:=Row.of_owns Q.out k (by simp[D.out.len];omega);simp only[A1f,Addr.mk.injEq,and_true]at h1;obtain⟨rfl,rfl⟩:=h1;rw[A2w]at h2;exact⟨_,h2⟩
   obtain⟨u,I⟩:=I
   go_wp2_with fail
   go_quiet ((go_at_call 271;exact Calls.quiet_of_same (U.out _)))
   go_wp2
   rw[show ((x:Int)+1000000000-y-F)%1000000000=(((x+1000000000-y-F)%1000000000:Nat):Int) by omega,show 1-((x:Int)+1000000000-y-F)/1000000000=((1-(x+1000000000-y-F)/1000000000:Nat):Int) by omega];have hs:=D.out.step LA.out LB.out XX.out YY.out;have g:=Z4 (d:=(x+1000000000-y-F)%1000000000) a0 D.out.len (Px Q.out nq) (R.out.drewN nq);exact⟨⟨k+1,_,_,oV,by go_num,rfl,hs,g.1,g.2⟩,by simp only[intOf];omega⟩
  obtain rfl:k=n:=by have:=E.out;omega
  have t:=D.out.len;have f:=Q.out;rw[A4i,A42,A1x]at f;have A:=Lib.hid (Row.of_owns f);have L:=Lib.hid (D3 (cap:=k) (n:=val l-val m) D.out.low A.out (by have h:=D.out;rw[E.out]at h;exact h.done sb LE.out) oV);have HL:=Lib.hid t;clear f t
  go_wp2_with fail
  ((with_reducible refine (G5 _ _ _ ys _ HL.out oV oV A.out).mono ?_);rintro e w' ⟨rfl,rfl⟩)
  go_wp2
  go_ret
  exact⟨_,rfl,L.out,R.out⟩
def Ahz (f g:Value)(m n:Nat)(w:World)(k:C8 w f m)(q:C8 w g n)(u:nl m<=10000000000000)(e:n<=m) :
 Calls prog 240 #[f,g] w (Ye w (m-n)):=by
 obtain⟨a,h,rfl,_,ra⟩:=k;obtain⟨b,j,rfl,_,t⟩:=q;have:=Ap7 a b h j (Aa m) (Aa n) w ra t (Ao _) (Ao _) u (C4 e) (by rw[Am,Am];exact e);rw[Am,Am]at this;exact this
def Axw (w:World)(l m:zK)(i:Value)(wr:World):Prop :=
 ∃ k:Nat,k<=l.length/\i=zI ((k:Int)-1)/\l.drop k=m.drop k/\∃ q,wr=w.drewN q
def C5 (h:0<n):sgn n=1:=by unfold sgn;rw[if_neg oV,if_pos h]
def Ep (h:n<0):sgn n = -1:=by unfold sgn;rw[if_pos h]
def Ra:sgn 0=0:=by simp[sgn]
def S5 (w:World)(v:Value)(e:Ending)(w':World):Prop:=e=.returned v/\∃ q,w'=w.drewN q
def S5.ext {e:Ending}{w':World}(h:S5 w v e w'):e=.returned v/\Ext w w':=by
 obtain⟨a,q,rfl⟩:=h;exact⟨a,(Ext.refl w).drewN q⟩
set_option maxRecDepth 100000 in
def Acu (a b:zP)(T U:Nat)(l m:zK)(w:World)(F:Row w a (A8 l))(H:Row w b (A8 m))(la:Low l)(K:Low m)
 (Y:l.length<=10000000000000) (sb:m.length=l.length) :
 Calls prog 246 #[.slice a l.length T,.slice b l.length U] w (S5 w (zI (sgn ((val l:Int)-val m)))):=by
 have O:=Lib.hid F;have P:=Lib.hid H;have Q:=Lib.hid la;have R:=Lib.hid K;have SB:=Lib.hid sb;clear F H la K sb
 go_enter func246,ntmps246
 go_wp2_with fail
 go_loopw [5] (Axw w l m) (fun i _=>(intOf i+1).toNat)
 case atStart=>exact⟨l.length,oV,rfl,by rw[A2b (A08 _),A2b (by rw[SB.out];exact A08 _)],0,rfl⟩
 case round =>
  obtain⟨k,X,rfl,I,q,rfl⟩:=hrel;have f:=Lib.hid I;clear I;rcases k with _|k
  ·go_wp2_with fail
   have h0:(val l:Int)-val m=0:=by have:=f.out;simp only[A5a]at this;rw[this];omega
   go_ret
   refine⟨?_,q,rfl⟩;rw[h0,Ra];rfl
  rw[show ((k+1:Nat):Int)-1=k by omega];have e:k<l.length:=oV;obtain⟨V,L,rfl,t⟩:=O.out.at e;obtain⟨W,N,rfl,u⟩:=P.out.at (j:=k) (by rw[SB.out];exact e);obtain⟨x,D⟩:∃ x,x=l.getD k 0:=⟨_,rfl⟩;obtain⟨y,E⟩:∃ y,y=m.getD k 0:=⟨_,rfl⟩;rw[<-D]at t;rw[<-E]at u;have g:=Lib.hid D;have h:=Lib.hid E;clear D E;rcases A5u x y with C|A|B
  ·go_wp2_with fail
   go_quiet (fail)
   go_wp2_with fail
   have h0:(val l:Int)-val m<0:=by
    have:=G9 SB.out.symm e Q.out f.out (by rw[<-g.out,<-h.out];exact C);omega
   go_ret
   refine⟨?_,_,World.drewN_drewN _ _ _⟩;rw[Ep h0];rfl
  ·subst A
   go_wp2_with fail
   go_quiet (fail)
   go_wp2_with fail
   go_quiet (fail)
   go_wp2_with fail
   refine⟨⟨k,oV,by go_num,?_,_,rfl⟩,by simp only[intOf];omega⟩;rw[Cs l k e,Cs m k (by rw[SB.out];exact e),f.out,<-g.out,<-h.out]
  have J:¬ x<y:=oV
  go_wp2_with fail
  go_quiet (fail)
  go_wp2_with fail
  go_quiet (fail)
  go_wp2_with fail
  have h0:0<(val l:Int)-val m:=by
   have:=G9 SB.out (by rw[SB.out];exact e) R.out f.out.symm (by rw[<-g.out,<-h.out];exact B);omega
  go_ret
  refine⟨?_,_,by rw[World.drewN_drewN,World.drewN_drewN]⟩;rw[C5 h0];rfl
set_option maxRecDepth 100000 in
def Aiv (a b:zP)(g h m n:Nat)(w:World)(k:m<=10000000000000)(sb:n<=10000000000000)(f:m≠n) :
 Calls prog 246 #[.slice a m g,.slice b n h] w (S5 w (zI (sgn ((m:Int)-n)))):=by
 have j:((m:Int) != n)=true:=by rw[bne_iff_ne];omega
 clear f
 go_enter func246,ntmps246
 go_wp2_with fail
 refine (Asn _ _).mono ?_;rintro e w' ⟨rfl,rfl⟩
 go_wp2_with fail
 go_ret
 exact⟨rfl,0,rfl⟩
def Aoq {a b c d:Nat}(f:a<b↔c<d)(g:b<a↔d<c):sgn ((a:Int)-b)=sgn ((c:Int)-d):=by
 rcases A5u a b with h|h|h
 ·have:=f.1 h;rw[Ep oV,Ep oV]
 ·have j:¬ c<d:=fun e=>by have:=f.2 e;omega
  have k:¬ d<c:=fun e=>by have:=g.2 e;omega
  rw[show (a:Int)-b=0 by omega,show (c:Int)-d=0 by omega]
 have:=g.1 h;rw[C5 oV,C5 oV]
def Hl (q t:Value)(m n:Nat)(w:World)(u:C8 w q m)(x:C8 w t n)(k:nl m<=10000000000000)(sb:nl n<=10000000000000) :
 Calls prog 246 #[q,t] w (S5 w (zI (sgn ((m:Int)-n)))):=by
 obtain⟨a,g,rfl,_,ra⟩:=u;obtain⟨b,j,rfl,_,y⟩:=x;by_cases h:(Aa n).length=(Aa m).length
 ·have:=Acu a b g j (Aa m) (Aa n) w ra y (Ao _) (Ao _) k h;rw[Am,Am]at this;rw[h];exact this
 have:=Aiv a b g j (Aa m).length (Aa n).length w k sb (fun e=>h e.symm);rw[Aoq (a:=(Aa m).length) (b:=(Aa n).length) (c:=m) (d:=n)]at this
 ·exact this
 ·constructor
  ·exact fun f=>Ku f
  intro f;have:=C4 (A8i f);unfold nl at this;omega
 constructor
 ·exact fun f=>Ku f
 intro f;have:=C4 (A8i f);unfold nl at this;omega
end
section
variable {e:TypeId}{n:Nat}{o:zK}{w wr:World}
def Axh (w:World)(l m:zK)(n:Nat)(i:Value)(wr:World):Prop :=
 ∃ (k:Nat) (o:zK),k<=l.length/\i=zI k/\Gt l m k 0 o 0 /\
  wr.ownsRow w.heap.size 246 1 (.slice (some ⟨w.heap.size,0,none⟩) n n) n (A8 o)/\Ext w wr
def Av9 (w:World)(l m:zK)(n j:Nat)(c i:Value)(wr:World):Prop :=
 ∃ (k:Nat) (o:zK) (cc:Nat),k<=m.length/\i=zI k/\c=.int .u64 (cc:Int)/\Gt l m j k o cc /\
  wr.ownsRow w.heap.size 246 1 (.slice (some ⟨w.heap.size,0,none⟩) n n) n (A8 o)/\Ext w wr
def Qg {n j:Nat}(h:wr.ownsRow w.heap.size e 1 (.slice (some ⟨w.heap.size,0,none⟩) n n) n (A8 o))(g:j<o.length) :
 wr.cell? ⟨w.heap.size,j,none⟩=some (.int .u64 (o.getD j 0:Nat)):=by
 obtain⟨b,off,a,f⟩:=(Row.of_owns h).at g;simp only[A1f,Addr.mk.injEq,and_true]at a;obtain⟨rfl,rfl⟩:=a;rw[A2w]at f;exact f
def S9 (j d:Nat)(h:wr.ownsRow w.heap.size e 1 (.slice (some ⟨w.heap.size,0,none⟩) n n) n (A8 o))(x:Ext w wr) :
 (wr.setCell ⟨w.heap.size,j,none⟩ (.int .u64 (d:Int))).ownsRow w.heap.size e 1 (.slice (some ⟨w.heap.size,0,none⟩) n n) n (A8 (o.set j d)) /\
  Ext w (wr.setCell ⟨w.heap.size,j,none⟩ (.int .u64 (d:Int))):=by
 refine⟨?_,x.setCell (A08 _) _⟩;have:=(h.stored j (.int .u64 (d:Int))).1;rw[Xa]at this;exact this
def Ag5 (w:World)(n:Nat)(e:Ending)(w':World):Prop:=∃ k cap,e=.returned (.slice (some ⟨w.heap.size,0,none⟩) k cap)/\C8 w' (.slice (some ⟨w.heap.size,0,none⟩) k cap) n/\Ext w w'
set_option maxRecDepth 100000 in
def Ass (a b:zP)(ca cb:Nat)(l m:zK)(w:World)(ha:Row w a (A8 l))(hb:Row w b (A8 m))(la:Low l)(lb:Low m)
 (sa:l.length<=10000000000000) (sb:m.length<=10000000000000) :
 Calls prog 199 #[.slice a l.length ca,.slice b m.length cb] w (Ag5 w (val l*val m)):=by
 obtain⟨i0,hi,V,K,W⟩:=info_parts Tryz.info246;have HI:=Lib.hid hi;have a1:=Lib.hid V;have a2:=Lib.hid K;have a3:=Lib.hid W;clear hi V K W;have HA:=Lib.hid ha;have HB:=Lib.hid hb;have LA:=Lib.hid la;have LB:=Lib.hid lb;clear ha hb la lb;obtain⟨n,hn⟩:∃ n,n=l.length+m.length:=⟨_,rfl⟩;have N:=Lib.hid hn;have ad:n<=20000000000001:=oV;have ae:l.length+m.length<=n:=oV;clear hn
 go_enter func199,ntmps199
 go_wp2_with (at_make;refine wpList_make_full _ rfl _ _ 139 rfl w.heap.size 246 i0 (.int .u64 0) 1 Tryz.underlying139 HI.out a1.out a2.out .i64 .i64 _ _ n rfl rfl (by have:=N.out;omega) (by have:=N.out;omega) (by rw[a3.out];omega) (by unfold maxLen;omega) (A08 _) ?_;intro w1 f t)
 rw[Lp]at f;have HO:=Lib.hid f;have X1:Hid (Ext w w1):=(Ext.refl w).grown t (fun k hk=>by cases hk);clear f t
 go_loopw [20] (Axh w l m n) (fun i _=>l.length-(intOf i).toNat)
 case atStart=>exact⟨0,_,A1t _,rfl,Gt.start _ _,by rw[<-N.out];exact HO.out,X1.out⟩
 case round =>
  obtain⟨j,o,hk,rfl,T,f,J⟩:=hrel;have O:=Lib.hid T;have HW:=Lib.hid f;have X:=Lib.hid J;clear T f J HO X1;by_cases I:j<l.length
  ·obtain⟨x,J⟩:∃ x,x=l.getD j 0:=⟨_,rfl⟩;have ah:x<1000000000:=by rw[J];exact LA.out.getD j
   obtain⟨ba,a9,rfl,Q⟩:=(HA.out.ext X.out).at I;rw[<-J]at Q;have XX:=Lib.hid J;clear J
   go_wp2_with fail
   obtain⟨wo,a7⟩:∃ wo:World,wo=wr:=⟨_,rfl⟩;subst a7
   go_loopw [8,27] (Av9 w l m n j) (fun _ i _=>m.length-(intOf i).toNat)
   case atStart=>exact⟨0,_,0,A1t _,rfl,rfl,O.out,HW.out,X.out⟩
   case round =>
    obtain⟨k,o2,L,ac,rfl,rfl,h,A,U⟩:=hrel;have P:=Lib.hid h;have q:=Lib.hid A;have E:=Lib.hid U;have ab:=h.carry;have a6:=h.len;have H:=Lib.hid h.low;have a8:n<=o2.length:=by have:=N.out;omega
    clear h A U O HW X Q a6;by_cases C:k<m.length
    ·obtain⟨y,Y⟩:∃ y,y=m.getD k 0:=⟨_,rfl⟩;have ai:y<1000000000:=by rw[Y];exact LB.out.getD k
     obtain⟨bb,aa,rfl,a4⟩:=(HB.out.ext E.out).at C;rw[<-Y]at a4;obtain⟨z,Z⟩:∃ z,z=o2.getD (j+k) 0:=⟨_,rfl⟩;have K:z<1000000000:=by rw[Z];exact H.out.getD _
     have F:=Qg q.out (j:=j+k) oV;have a5:=q.out.frozenAt (j+k);rw[<-Z]at F;have YY:=Lib.hid Y;have ZZ:=Lib.hid Z;clear Y Z;obtain⟨p,hp⟩:∃ p,p=x*y:=⟨_,rfl⟩;have af:p<=999999999*999999999:=by rw[hp];exact A25 oV oV
     have ag:((x:Int)*y)=p:=by rw[hp];exact (A4d _ _).symm
     have PP:=Lib.hid hp;clear hp
     go_wp2_with fail
     rw[show ((z:Int)+p+L)%1000000000=(((z+x*y+L)%1000000000:Nat):Int) by rw[<-PP.out];omega,show ((z:Int)+p+L)/1000000000=(((z+x*y+L)/1000000000:Nat):Int) by rw[<-PP.out];omega];have hs:=P.out.step LA.out LB.out C I XX.out YY.out ZZ.out rfl;have g:=S9 (j+k) ((z+x*y+L)%1000000000) q.out E.out;exact⟨⟨k+1,_,_,oV,by go_num,rfl,hs,g.1,g.2⟩,by simp only[intOf];omega⟩
    obtain rfl:k=m.length:=oV;obtain⟨h0,u⟩:=P.out.next I;have F:=Qg q.out (j:=j+m.length) oV;rw[h0]at F;have a5:=q.out.frozenAt (j+m.length);have a0:=Lib.hid u;clear h0 u
    go_wp2_with fail
    have g:=S9 (j+m.length) L q.out E.out;exact⟨⟨j+1,_,oV,by go_num,a0.out,g.1,g.2⟩,by simp only[intOf];omega⟩
  obtain rfl:j=l.length:=oV;have B:=O.out.len;have D:=Lib.hid (Row.of_owns HW.out);have R:=Lib.hid (D3 (cap:=n) (n:=val l*val m) O.out.low D.out O.out.done oV);have HL:Hid (o.length=n):=by rw[B];exact N.out.symm
  clear B
  go_wp2_with fail
  ((with_reducible refine (G5 _ _ _ o _ HL.out oV oV D.out).mono ?_);rintro e w' ⟨rfl,rfl⟩)
  go_wp2_with fail
  go_ret
  exact⟨_,_,rfl,R.out,X.out⟩
def T8 (f g:Value)(m n:Nat)(w:World)(k:C8 w f m)(q:C8 w g n)(u:nl m<=10000000000000)(sb:nl n<=10000000000000) :
 Calls prog 199 #[f,g] w (Ag5 w (m*n)):=by
 obtain⟨a,h,rfl,_,ra⟩:=k;obtain⟨b,j,rfl,_,t⟩:=q;have:=Ass a b h j (Aa m) (Aa n) w ra t (Ao _) (Ao _) u sb;rw[Am,Am]at this;exact this
def Aib (a f:Value)(m n:Nat)(w:World)(q:C8 w a m)(t:C8 w f n)(u:nl m<=10000000000000)(sb:nl n<=10000000000000) :
 Calls prog 199 #[a,f] w (Ye w (m*n)) :=
 (T8 a f m n w q t u sb).mono fun _ _ ⟨k,cap,g,h,j⟩=>⟨_,g,h,j⟩
def Arf (w:World)(l:zK)(d n:Nat)(r i:Value)(wr:World):Prop :=
 ∃ (k:Nat) (o:zK) (rr:Nat),k<=l.length/\i=zI ((k:Int)-1)/\r=.int .u64 (rr:Int)/\I9 l d k o rr /\
  wr.ownsRow w.heap.size 246 1 (.slice (some ⟨w.heap.size,0,none⟩) n n) n (A8 o)/\Ext w wr
def P8 (w:World)(n r:Nat)(e:Ending)(w':World):Prop:=∃ v,e=.returned (.tuple #[v,.int .u64 (r:Int)])/\C8 w' v n/\Ext w w'
set_option maxRecDepth 100000 in
def Ahw (a:zP)(ca d:Nat)(l:zK)(w:World)(U:Row w a (A8 l))(la:Low l)
 (sa:l.length<=10000000000000) (P:0<d) (hd:d<1000000000) :
 Calls prog 269 #[.slice a l.length ca,.int .u64 d] w (P8 w (val l/d) (val l%d)):=by
 obtain⟨i0,hi,D,E,F⟩:=info_parts Tryz.info246;have Z:=Lib.hid hi;have K:=Lib.hid D;have L:=Lib.hid E;have N:=Lib.hid F;clear hi D E F;have Y:=Lib.hid U;have R:=Lib.hid la;clear U la;obtain⟨n,W⟩:∃ n,n=l.length:=⟨_,rfl⟩;have y:=Lib.hid W;have a4:n<=10000000000001:=oV;have a5:l.length<=n:=oV;clear W
 go_enter func269,ntmps269
 go_wp2_with (at_make;refine wpList_make_full _ rfl _ _ 139 rfl w.heap.size 246 i0 (.int .u64 0) 1 Tryz.underlying139 Z.out K.out L.out .i64 .i64 _ _ n rfl rfl (by have:=y.out;omega) (by have:=y.out;omega) (by rw[N.out];omega) (by unfold maxLen;omega) (A08 _) ?_;intro w1 f g)
 rw[Lp]at f;have Q:=Lib.hid f;have T:Hid (Ext w w1):=(Ext.refl w).grown g (fun k V=>by cases V);clear f g
 go_loopw [7,8] (Arf w l d n) (fun _ i _=>(intOf i+1).toNat)
 case atStart=>exact⟨l.length,_,0,oV,rfl,rfl,I9.start _ _ P,by rw[<-y.out];exact Q.out,T.out⟩
 case round =>
  obtain⟨k,o,H,V,rfl,rfl,h,f,u⟩:=hrel;have A:=Lib.hid h;have I:=Lib.hid f;have J:=Lib.hid u;have a6:=h.rest;have a3:n<=o.length:=by have:=y.out;have:=h.len;omega
  clear h f u Q T;rcases k with _|k
  ·have m:=A.out.len;have q:=Lib.hid (Row.of_owns I.out);have C:=Lib.hid (D3 (cap:=n) (n:=val l/d) A.out.low q.out A.out.done.1 oV);have HL:Hid (o.length=n):=by rw[m];exact y.out.symm
   clear m
   go_wp2_with fail
   ((with_reducible refine (G5 _ _ _ o _ HL.out oV oV q.out).mono ?_);rintro e w' ⟨rfl,rfl⟩)
   go_wp2_with fail
   go_ret2
   exact⟨_,by rw[A.out.done.2];rfl,C.out,J.out⟩
  rw[show ((k+1:Nat):Int)-1=k by omega];have B:k<l.length:=oV;obtain⟨x,u⟩:∃ x,x=l.getD k 0:=⟨_,rfl⟩;have a7:x<1000000000:=by rw[u];exact R.out.getD k
  obtain⟨ba,X,rfl,O⟩:=(Y.out.ext J.out).at B;rw[<-u]at O;have a0:=Qg I.out (j:=k) oV;have a2:=I.out.frozenAt k;have XX:=Lib.hid u;clear u;have a1:((d:Int)==0)=false:=gV
  go_wp2_with fail
  go_region
  go_wp2_with fail
  rw[show ((H:Int)*1000000000+x)%d=(((H*1000000000+x)%d:Nat):Int) by simp,show ((H:Int)*1000000000+x)/d=(((H*1000000000+x)/d:Nat):Int) by simp];have hs:=A.out.step R.out B XX.out;have t:=S9 k ((H*1000000000+x)/d) I.out J.out;exact⟨⟨k,_,_,oV,rfl,rfl,hs,t.1.drew,t.2.drew⟩,by simp only[intOf];omega⟩
def Su (g:Value)(m d:Nat)(w:World)(j:C8 w g m)(q:nl m<=10000000000000)(f:0<d)(k:d<1000000000) :
 Calls prog 269 #[g,.int .u64 d] w (P8 w (m/d) (m%d)):=by
 obtain⟨a,h,rfl,_,ra⟩:=j;have:=Ahw a h d (Aa m) w ra (Ao _) q f k;rw[Am]at this;exact this
end
section
variable {U V p top u2 v1 v2:Nat}
structure Z7 (v1 v2 u2 top p V U:Nat):Prop where
 v:∃ v',v' < p/\V=(v1*1000000000+v2)*p+v'
 u:∃ u',u' < p/\U=(top*1000000000+u2)*p+u'
 v1pos:500000000<=v1
 v1low:v1<1000000000
 v2low:v2<1000000000
 u2low:u2<1000000000
 top1:top<=v1*1000000000+999999999
 less:U<1000000000*V
def Z7.pos (h:Z7 v1 v2 u2 top p V U):0<V:=by
 rcases A2a V with h0|h0
 ·have:=h.less;rw[h0]at this;omega
 exact h0
structure Rf (v1 top V U q r:Nat):Prop where
 eq:q*v1+r=top
 ge:U/V<=q
 low:1000000000<=q->r<1000000000
 qle:q<=2000000000
def Rf.start (h:Z7 v1 v2 u2 top p V U):Rf v1 top V U (top/v1) (top%v1):=by
 have B:=h.v1pos;have j:=A3h top v1;have D:=A29 top (show 0<v1 by omega);have E:=h.v1low;refine⟨by rw[A19];exact j,?_,fun _=>oV,?_⟩
 ·obtain⟨H,t,g⟩:=h.v;obtain⟨F,m,f⟩:=h.u;have a:=h.pos;have n:=h.u2low;rw[A4u oV];have C:U/V*V<=U:=A69 U V;generalize U/V=q at *
  have k:0<p:=oV;have x:q*v1*1000000000*p<=q*V:=by
   rw[g,A17,A17];refine A2h _ ?_;rw[<-A17,A16];omega
  have y:U<(top*1000000000+u2+1)*p:=by rw[f,A16 _ 1,A3i];omega
  have e:q*v1*1000000000*p<(top*1000000000+u2+1)*p:=oV;have A:=A60 e;omega
 rw[<-Nat.lt_succ_iff,A3b oV];have:=h.top1;omega
def Rf.step {v1 v2 u2 top p V U q r:Nat}(h:Z7 v1 v2 u2 top p V U)(t:Rf v1 top V U q r)
 (g:1000000000<=q\/r*1000000000+u2<q*v2):0<q/\Rf v1 top V U (q-1) (r+v1):=by
 have a:=h.pos;have f:U/V<q:=by
  rcases g with g|g
  ·have:U/V<1000000000:=by rw[A3b a];exact h.less
   omega
  rw[A3b a];obtain⟨J,x,E⟩:=h.v;obtain⟨I,n,D⟩:=h.u;have y:q*((v1*1000000000+v2)*p)<=q*V:=A2h _ oV;have A:q*((v1*1000000000+v2)*p)=((q*v1)*1000000000+q*v2)*p:=by
   rw[<-A17,A2o,<-A17]
  have B:(top*1000000000+u2+1)*p<=((q*v1)*1000000000+q*v2)*p:=by
   refine A13 _ ?_;have:=t.eq;omega
  have C:(top*1000000000+u2+1)*p=(top*1000000000+u2)*p+p:=by rw[A16 _ 1,A3i]
  omega
 have m:0<q:=A22 (A1t _) f;refine⟨m,?_,Nat.le_sub_one_of_lt f,fun j=>?_,by have:=t.qle;omega⟩
 ·obtain⟨k,rfl⟩:∃ k,q=k+1:=⟨q-1,oV⟩;have:=t.eq;rw[A16,A3i]at this;simp only[A5p];omega
 have e:=t.eq;have H:=h.top1;obtain⟨k,rfl⟩:∃ k,q=1000000000+1+k:=⟨q-1000000001,oV⟩;have:(1000000000+1+k)*v1=1000000000*v1+v1+k*v1:=by rw[A16,A16,A3i]
 have F:0<=k*v1:=A1t _;rw[this]at e;omega
def Rf.done {v1 v2 u2 top p V U q r:Nat}(h:Z7 v1 v2 u2 top p V U)(t:Rf v1 top V U q r)
 (m:¬ (r<1000000000/\(1000000000<=q\/r*1000000000+u2<q*v2))):q<1000000000/\U/V<=q/\q<=U/V+1:=by
 have x:q<1000000000:=by
  rcases A2e q 1000000000 with a|a
  ·exact a
  exact absurd ⟨t.low a,Or.inl a⟩ m
 have f:q*v2<=r*1000000000+u2:=by
  rcases A2e (r*1000000000+u2) (q*v2) with a|a
  ·rcases A2e r 1000000000 with j|j
   ·exact absurd ⟨j,Or.inr a⟩ m
   have:q*v2<=999999999*999999999:=A25 oV (by have:=h.v2low;omega);omega
  exact a
 refine⟨x,t.ge,?_⟩;rcases A2a q with h0|h0
 ·rw[h0];exact A1t _
 obtain⟨k,rfl⟩:∃ k,q=k+1:=⟨q-1,oV⟩
 suffices k<=U/V by omega
 have e:=h.pos;rw[A4u e];obtain⟨n,A,g⟩:=h.v;obtain⟨I,y,H⟩:=h.u;have B:(k+1)*V=(((k+1)*v1)*1000000000+(k+1)*v2)*p+(k+1)*n:=by
  rw[g,A2o,<-A17,A2o,<-A17]
 have C:(((k+1)*v1)*1000000000+(k+1)*v2)*p<=(top*1000000000+u2)*p:=by
  refine A13 _ ?_;have:=t.eq;omega
 have D:(k+1)*n<=1000000000*p:=A25 oV oV;have E:1000000000*p<=V:=by
  rw[g];have:1000000000*p<=(v1*1000000000+v2)*p:=A13 _ (by have:=h.v1pos;omega);omega
 have F:(k+1)*V=k*V+V:=by rw[A16,A3i]
 omega
structure Mx (full v:zK)(off q k:Nat)(o:zK)(c:Nat):Prop where
 len:o.length=full.length
 low:Low o
 carry:c<=1000000000
 sum:val ((o.drop off).take k)+q*val (v.take k)=val ((full.drop off).take k)+1000000000^k*c
 same:∀ j,j<off\/off+k<=j->o.getD j 0=full.getD j 0
def E4 (l:zK)(off k:Nat):(l.drop off).getD k 0=l.getD (off+k) 0:=by
 simp[A02,A39]
def Nq (l:zK)(j k d:Nat)(h:k<=j):(l.set j d).take k=l.take k:=by
 rw[A96 h]
def Mx.start (a v:zK)(off q:Nat)(h:Low a):Mx a v off q 0 a 0 :=
 ⟨rfl,h,oV,by simp[val],fun _ _=>rfl⟩
def Mx.step {a v o:zK}{off q k c x y d e:Nat}(h:Mx a v off q k o c)(u:off+k<a.length)
 (A:x=v.getD k 0) (B:y=o.getD (off+k) 0) (n:d<1000000000) (t:e<=1000000000) (f:d+q*x+c=y+1000000000*e) :
 Mx a v off q (k+1) (o.set (off+k) d) e:=by
 refine⟨by simp[h.len],h.low.set _ n,t,?_,fun j E=>?_⟩
 ·rw[A5,A5,A5,E4,E4];have g:((o.set (off+k) d).drop off).take k=(o.drop off).take k:=by
   rw[A93,if_neg oV,Nq _ _ _ _ oV]
  have m:(o.set (off+k) d).getD (off+k) 0=d:=by
   simp[A02,h.len,u]
  rw[g,m,<-A,<-h.same (off+k) (Or.inr (A08 _)),<-B,A2d];have F:=h.sum;generalize 1000000000^k=p at *
  have C:p*d+p*(q*x)+p*c=p*y+p*1000000000*e:=by
   rw[A17,<-A2o,<-A2o,<-A2o,f]
  have D:q*(val (List.take k v)+p*x)=q*val (List.take k v)+p*(q*x):=by
   rw[A2o];congr 1;rw[<-A17,A19 q,A17]
  omega
 rw[Gy _ _ oV];exact h.same j oV
structure Oa (full v:zK)(off k:Nat)(o:zK)(c:Nat):Prop where
 len:o.length=full.length
 low:Low o
 carry:c<=1
 sum:val ((o.drop off).take k)+1000000000^k*c=val ((full.drop off).take k)+val (v.take k)
 same:∀ j,j<off\/off+k<=j->o.getD j 0=full.getD j 0
def Oa.start (a v:zK)(off:Nat)(h:Low a):Oa a v off 0 a 0 :=
 ⟨rfl,h,oV,by simp[val],fun _ _=>rfl⟩
def Oa.step {a v o:zK}{off k c x y:Nat}(h:Oa a v off k o c)(u:Low v)(t:off+k<a.length)
 (e:x=v.getD k 0) (f:y=o.getD (off+k) 0) :
 Oa a v off (k+1) (o.set (off+k) ((y+x+c)%1000000000)) ((y+x+c)/1000000000):=by
 have n:=u.getD k;have q:=h.low.getD (off+k);have A:=h.carry;rw[<-e]at n;rw[<-f]at q;refine⟨by simp[h.len],h.low.set _ oV,oV,?_,fun j B=>?_⟩
 ·rw[A5,A5,A5,E4,E4];have g:((o.set (off+k) ((y+x+c)%1000000000)).drop off).take k=(o.drop off).take k:=by
   rw[A93,if_neg oV,Nq _ _ _ _ oV]
  have m:(o.set (off+k) ((y+x+c)%1000000000)).getD (off+k) 0=(y+x+c)%1000000000:=by
   simp[A02,h.len,t]
  rw[g,m,<-e,<-h.same (off+k) (Or.inr (A08 _)),<-f,A2d,A3p,Is,A2o,A2o];have C:=h.sum;omega
 rw[Gy _ _ oV];exact h.same j oV
end
section
variable {A V j m n:Nat}{qs u:zK}
def Abx (l:zK)(n:Nat):val (l.take (n+2))=val (l.take n)+1000000000^n*(l.getD n 0+1000000000*l.getD (n+1) 0):=by
 rw[A5,A5,A2d,A2o,A17];omega
def Gw {l:zK}(h:Low l)(k:Nat):val (l.take k)<1000000000^k :=
 A2s (K8 (h.take k)) (A10 oV (by rw[A1e];omega))
def Ajs {a v:zK}{off n:Nat}(D:v.length=n+2)(e:Low a)(f:Low v)(g:500000000<=v.getD (n+1) 0)
 (q:val ((a.drop off).take (n+3))<1000000000*val v) :
 Z7 (v.getD (n+1) 0) (v.getD n 0) (a.getD (off+n) 0) (a.getD (off+(n+2)) 0*1000000000+a.getD (off+(n+1)) 0) (1000000000^n) (val v) (val ((a.drop off).take (n+3))):=by
 have k:val v=(v.getD (n+1) 0*1000000000+v.getD n 0)*1000000000^n+val (v.take n):=by
  have:=Abx v n;rw[<-D,A15]at this;rw[this,A19 (v.getD (n+1) 0*1000000000+v.getD n 0),A19 (v.getD (n+1) 0),A89 (v.getD n 0),A89]
 have h:val ((a.drop off).take (n+3))=((a.getD (off+(n+2)) 0*1000000000+a.getD (off+(n+1)) 0)*1000000000+a.getD (off+n) 0)*1000000000^n+val ((a.drop off).take n):=by
  rw[A5,Abx,E4,E4,E4,A4k,A19 _ (1000000000^n)];generalize 1000000000^n=p;rw[show (1000000000:Nat)^2=1000000000*1000000000 by rfl,A17 p,A3p (val _),<-A2o,A89 (val _)]
  congr 2
  omega
 have t:=f.getD (n+1);have B:=f.getD n;have C:=e.getD (off+n);have K:=e.getD (off+(n+1));have L:=e.getD (off+(n+2));have E:=Gw f n;have l2:=Gw (e.drop off) n;refine⟨⟨_,E,k⟩,⟨_,l2,h⟩,g,t,B,C,?_,q⟩;rw[h,k]at q;generalize v.getD (n+1) 0=v1 at *
 generalize v.getD n 0=v2 at *
 generalize a.getD (off+n) 0=u2 at *
 generalize a.getD (off+(n+1)) 0=u1 at *
 generalize a.getD (off+(n+2)) 0=u0 at *
 generalize val ((a.drop off).take n)=x at *
 generalize val (v.take n)=y at *
 generalize 1000000000^n=p at *
 have:(u0*1000000000*1000000000)*p<((v1+1)*1000000000*1000000000)*p:=by
  have F:(u0*1000000000*1000000000)*p<=((u0*1000000000+u1)*1000000000+u2)*p:=A13 _ oV;have H:1000000000*((v1*1000000000+v2)*p+y)<=1000000000*((v1*1000000000+v2+1)*p):=by
   refine A2h _ ?_;rw[A16 _ 1,A3i];omega
  have I:1000000000*((v1*1000000000+v2+1)*p)=(1000000000*(v1*1000000000+v2+1))*p:=by rw[A17]
  have J:(1000000000*(v1*1000000000+v2+1))*p<=((v1+1)*1000000000*1000000000)*p:=A13 _ oV;omega
 have:=A60 this;omega
def Ie (l:zK)(off n:Nat):val ((l.drop off).take (n+1))=val ((l.drop off).take n)+1000000000^n*l.getD (off+n) 0:=by
 rw[A5,E4]
def Afr (o:zK)(off n d:Nat)(h:off+n<o.length):val (((o.set (off+n) d).drop off).take (n+1))=val ((o.drop off).take n)+1000000000^n*d:=by
 rw[Ie];have a:((o.set (off+n) d).drop off).take n=(o.drop off).take n:=by
  rw[A93,if_neg oV,Nq _ _ _ _ oV]
 have e:(o.set (off+n) d).getD (off+n) 0=d:=by simp[A02,h]
 rw[a,e]
structure S4 (full:zK)(off n V:Nat)(o:zK):Prop where
 len:o.length=full.length
 low:Low o
 rest:val ((o.drop off).take (n+1))=val ((full.drop off).take (n+1))%V
 same:∀ j,j<off\/off+n<j->o.getD j 0=full.getD j 0
def Ae4 {e v o:zK}{off n q c:Nat}(C:v.length=n)(H:off+n<e.length)(h:Mx e v off q n o c)(F:Low e)
 (t:val ((e.drop off).take (n+1))/val v<=q) (f:0<val v) (L:c<=e.getD (off+n) 0) :
 q=val ((e.drop off).take (n+1))/val v/\S4 e off n (val v) (o.set (off+n) (e.getD (off+n) 0-c)):=by
 have J:=h.sum;rw[<-C,A15,C]at J;have K:=Ie e off n;have g:=Afr o off n (e.getD (off+n) 0-c) (by rw[h.len];exact H);have B:=F.getD (off+n);generalize O:e.getD (off+n) 0=u at *
 generalize k:val ((e.drop off).take (n+1))=U at *
 generalize val v=V at *
 generalize val ((e.drop off).take n)=x at *
 generalize val ((o.drop off).take n)=y at *
 have I:1000000000^n*u=1000000000^n*c+1000000000^n*(u-c):=by rw[<-A2o];congr 1;omega
 have E:U=q*V+(y+1000000000^n*(u-c)):=by
  generalize 1000000000^n*(u-c)=a at *
  generalize 1000000000^n*c=b at *
  generalize 1000000000^n*u=d at *
  omega
 have D:q=U/V:=by
  refine A8h ?_ t;rw[A4u f];omega
 refine⟨D,by simp[h.len],h.low.set _ oV,?_,fun j N=>?_⟩
 ·rw[g,k];have:=A3h U V;rw[<-D,A19]at this;generalize 1000000000^n*(u-c)=a at *
  omega
 rw[Gy _ _ oV];exact h.same j oV
def Am8 {e v o D:zK}{off n q c B:Nat}(L:v.length=n)(X:off+n<e.length)(h:Mx e v off q n o c)
 (I:q<=val ((e.drop off).take (n+1))/val v+1) (g:0<val v) (hv:val v<1000000000^n) (hc:e.getD (off+n) 0<c) (t:Oa o v off n D B) :
 q=val ((e.drop off).take (n+1))/val v+1/\e.getD (off+n) 0+B=c/\S4 e off n (val v) (D.set (off+n) 0):=by
 have O:=h.sum;have K:=t.sum;rw[<-L,A15,L]at O K;have hU:=Ie e off n;have C:=Afr D off n 0 (by rw[t.len,h.len];exact X);have hy:=Gw (h.low.drop off) n;have hz:=Gw (t.low.drop off) n;have R:=A3h (val ((e.drop off).take (n+1))) (val v);have Z:=A29 (val ((e.drop off).take (n+1))) g;generalize e.getD (off+n) 0=u at *
 generalize F:val ((e.drop off).take (n+1))=U at *
 generalize val v=V at *
 generalize val ((e.drop off).take n)=x at *
 generalize val ((o.drop off).take n)=y at *
 generalize val ((D.drop off).take n)=z at *
 have Q:=t.carry;obtain⟨k,rfl⟩:∃ k,c=u+1+k:=⟨c-u-1,oV⟩;have Y:1000000000^n*(u+1+k)=1000000000^n*u+1000000000^n+1000000000^n*k:=by rw[A2o,A2o,A50]
 have W:1000000000^n*0<=1000000000^n*k:=A2h _ (A1t _);rw[Y]at O;generalize hP:1000000000^n=P at *
 have J:U<q*V:=by
  generalize P*u=a at *
  generalize P*k=b at *
  omega
 have N:q=U/V+1:=by
  refine A8h I ?_;exact (A3b g).2 J
 have a0:q*V=V*(U/V)+V:=by rw[N,A16,A3i,A19]
 have E:z+P*B=U%V+P+P*k:=by
  generalize P*u=a at *
  generalize P*k=b at *
  generalize P*B=d at *
  generalize V*(U/V)=f at *
  omega
 have H:B=1:=by
  rcases A2a B with h0|h0
  ·subst h0;rw[A3z]at E;generalize P*k=b at *
   omega
  omega
 subst H;rw[A50]at E;have T:k=0:=by
  rcases A2a k with h0|h0
  ·exact h0
  have:P*1<=P*k:=A2h _ h0;generalize P*k=b at *
  omega
 subst T;refine⟨N,oV,by simp[t.len,h.len],t.low.set _ oV,?_,fun j hj=>?_⟩
 ·rw[C,F,A3z,A3s];rw[A3z]at E;omega
 rw[Gy _ _ oV,t.same j oV];exact h.same j oV
structure Ou (A V n m:Nat)(j:Nat)(u qs:zK):Prop where
 ulen:u.length=m+n
 qlen:qs.length=m
 ulow:Low u
 qlow:Low qs
 less:val (u.drop j)<V
 sum:val u+1000000000^j*(val (qs.drop j)*V)=A
 zero:∀ k,j+n<=k->u.getD k 0=0
def Ic {j k:Nat}(h:∀ i,j+k<=i->u.getD i 0=0):val ((u.drop j).take k)=val (u.drop j):=by
 have g:val ((u.drop j).drop k)=0:=by
  have:∀ (l:zK),(∀ i,l.getD i 0=0)->val l=0:=by
   intro l;induction l with
   |nil=>intro _;rfl
   |cons d l ih =>
    intro a;have h0:d=0:=by simpa using a 0
    have e:=ih (fun i=>by simpa using a (i+1));simp[val,h0,e]
  refine this _ (fun i=>?_);rw[E4,E4];exact h _ oV
 by_cases f:k<=(u.drop j).length
 ·have:=Gz (u.drop j) k f;rw[g]at this;omega
 rw[A1j oV]
def Adv (a:j<u.length):val (u.drop j)=u.getD j 0+1000000000*val (u.drop (j+1)):=by
 rw[Cs u j a];rfl
def Ou.before (h:Ou A V n m (j+1) u qs)(a:j<m) :
 val ((u.drop j).take (n+1))<1000000000*V:=by
 rw[Ic (fun i hi=>h.zero i oV),Adv (by have:=h.ulen;omega)];have:=h.less;have:=h.ulow.getD j;omega
def Ou.step {A V n m j:Nat}{u g qs:zK}(h:Ou A V n m (j+1) u qs)(H:j<m)(O:0<V)(P:V<1000000000^n)
 (B:S4 u j n V g) (Q:val ((u.drop j).take (n+1))/V<1000000000) :
 Ou A V n m j g (qs.set j (val ((u.drop j).take (n+1))/V)):=by
 have t:=B.rest;have F:=A29 (val ((u.drop j).take (n+1))) O;have D:g.getD (j+n) 0=0:=by
  have:=Ie g j n;rcases A2a (g.getD (j+n) 0) with h0|h0
  ·exact h0
  have:1000000000^n*1<=1000000000^n*g.getD (j+n) 0:=A2h _ h0;omega
 have f:∀ k,j+n<=k->g.getD k 0=0:=by
  intro k T;by_cases e:k=j+n
  ·rw[e];exact D
  rw[B.same k oV];exact h.zero k oV
 have C:val (g.drop j)=val ((u.drop j).take (n+1))%V:=by
  rw[<-t,Ic (fun i hi=>f i oV)]
 refine⟨by rw[B.len];exact h.ulen,by simp[h.qlen],B.low,h.qlow.set _ Q,by rw[C];exact F,?_,f⟩;have a:=h.sum;have I:=Gz u j (by have:=h.ulen;omega);have J:=Gz g j (by have:=h.ulen;have:=B.len;omega);have K:g.take j=u.take j:=by
  apply A4g;intro i;rw[A3y,A3y];split
  ·rename_i hi;have:=B.same i (Or.inl hi);have R:i<g.length:=by have:=h.ulen;have:=B.len;omega
   have l2:i<u.length:=by have:=h.ulen;omega
   simp[A02,R,l2]at this⊢;exact this
  rfl
 have L:val ((u.drop j).take (n+1))=val (u.drop j):=Ic (fun i hi=>h.zero i oV);have N:val ((qs.set j (val ((u.drop j).take (n+1))/V)).drop j)=val ((u.drop j).take (n+1))/V+1000000000*val (qs.drop (j+1)):=by
  rw[Cs _ j (by simp[h.qlen,H]),A67 oV];have:(qs.set j (val ((u.drop j).take (n+1))/V)).getD j 0=val ((u.drop j).take (n+1))/V:=by
   simp[A02,h.qlen,H]
  rw[this];rfl
 rw[N,J,K,C,L];rw[I,A2d]at a;have E:=A3h (val (u.drop j)) V;generalize val (u.drop j)/V=q at *
 generalize val (u.drop j)%V=r at *
 generalize val (u.take j)=x at *
 generalize val (qs.drop (j+1))=y at *
 generalize 1000000000^j=p at *
 rw[<-E]at a;rw[<-a,A16,A2o,A2o,A19 V q];rw[show p*1000000000*(y*V)=p*(1000000000*y*V) by rw[A17,A17]];omega
def Ou.done (h:Ou A V n m 0 u qs)(f:0<V):val qs=A/V/\val u=A%V:=by
 have e:=h.sum;have a:=h.less;simp only[A5a,A8j,A3i]at e a;rw[<-e];constructor
 ·rw[Nat.add_mul_div_right _ _ f,A49 a,A2w]
 rw[Nat.add_mul_mod_self_right,A5i a]
end
section
variable {a b w wr:World}{base g n:Nat}{e:TypeId}{o:zK}{r:Option Nat}
def Xl (w:World)(r:Option Nat):w.grownBy w r:=⟨rfl,rfl,rfl,A08 _,fun _ _ _=>rfl⟩
def Uy {a b c:World}(h:a.grownBy b r)(k:b.grownBy c r):a.grownBy c r :=
 ⟨k.os.trans h.os,k.tape.trans h.tape,k.output.trans h.output,A04 h.size k.size,fun i hi f=>(k.block i (A2s hi h.size) f).trans (h.block i hi f)⟩
def Agp (h:a.grownBy b r)(n:Nat):a.grownBy (b.drewN n) r:=by
 obtain⟨f,j,k,m,q⟩:=h;exact⟨f,j,k,m,q⟩
def Gp (w:World)(g:Nat)(a:zP)(cs:zV):Prop:=Row w a cs/\∀ b off,a=some ⟨b,off,none⟩->b≠g
def Gp.grown {w w':World}{a:zP}{cs:zV}(h:Gp w g a cs)(m:w.grownBy w' (some g)):Gp w' g a cs:=by
 refine⟨fun j q=>?_,h.2⟩;obtain⟨b,off,f,k⟩:=h.1 j q;exact⟨b,off,f,m.cell k (by simp;exact h.2 b off f)⟩
def Avs (w:World)(base g N:Nat)(full:zK)(off n V:Nat)(e:Ending)(w':World):Prop :=
 ∃ o,e=.returned (.int .u64 ((val ((full.drop off).take (n+1))/V:Nat):Int))/\S4 full off n V o /\
  w'.ownsRow base 246 1 (zG g N N) N (A8 o)/\w.grownBy w' (some g)
def Aqd (w:World)(v1 top V U:Nat)(q r:Value)(wr:World):Prop :=
 ∃ qq rr:Nat,q=.int .u64 (qq:Int)/\r=.int .u64 (rr:Int)/\Rf v1 top V U qq rr/\rr<2000000000/\∃ d,wr=w.drewN d
def Auj (w:World)(base g N:Nat)(full m:zK)(off q n:Nat)(c i:Value)(wr:World):Prop :=
 ∃ (k:Nat) (o:zK) (cc:Nat),k<=n/\i=zI k/\c=.int .u64 (cc:Int)/\Mx full m off q k o cc /\
  wr.ownsRow base 246 1 (zG g N N) N (A8 o)/\w.grownBy wr (some g)
def At3 (w:World)(base g N:Nat)(full m:zK)(off n:Nat)(c i:Value)(wr:World):Prop :=
 ∃ (k:Nat) (o:zK) (cc:Nat),k<=n/\i=zI k/\c=.int .u64 (cc:Int)/\Oa full m off k o cc /\
  wr.ownsRow base 246 1 (zG g N N) N (A8 o)/\w.grownBy wr (some g)
def Hk {n j:Nat}(h:wr.ownsRow base e 1 (zG g n n) n (A8 o))(m:j<o.length) :
 wr.cell? ⟨g,j,none⟩=some (.int .u64 (o.getD j 0:Nat)):=by
 obtain⟨b,off,k,f⟩:=(Row.of_owns h).at m;obtain⟨rfl,rfl⟩:=k;rw[A2w]at f;exact f
def Mr (j d:Nat)(h:wr.ownsRow base e 1 (zG g n n) n (A8 o))(x:w.grownBy wr (some g)) :
 (wr.setCell ⟨g,j,none⟩ (.int .u64 (d:Int))).ownsRow base e 1 (zG g n n) n (A8 (o.set j d)) /\
  w.grownBy (wr.setCell ⟨g,j,none⟩ (.int .u64 (d:Int))) (some g):=by
 have:=h.stored j (.int .u64 (d:Int));rw[Xa]at this;exact⟨this.1,Uy x this.2⟩
def Amj {u c b:Nat}(h:u+c=b):IntKind.u64.wrap ((u:Int)+IntKind.u64.wrap ((c:Int)-b))=((0:Nat):Int):=by
 have e:∀ n:Int,IntKind.u64.wrap n=n%18446744073709551616:=fun n=>by simp[IntKind.wrap,IntKind.signed,IntKind.bits]
 rw[e,e];omega
set_option maxRecDepth 100000 in
def Aoi (base g N off n cu:Nat)(b:zP)(cb:Nat)(f m:zK)(w:World)
 (q:w.ownsRow base 246 1 (zG g N N) N (A8 f)) (hv:Gp w g b (A8 m)) (ah:f.length=N)
 (lf:Low f) (lm:Low m) (hm:m.length=n+2) (hN:off+(n+2)<N) (ax:N<=30000000000000) (b7:n+3<=cu)
 (ak:500000000<=m.getD (n+1) 0) (hU:val ((f.drop off).take (n+3))<1000000000*val m) :
 Calls prog 270 #[.slice (some ⟨g,off,none⟩) (n+3) cu,.slice b (n+2) cb] w (Avs w base g N f off (n+2) (val m)):=by
 have hp:=Ajs hm lf lm ak hU;obtain⟨bv,ov,rfl,a6⟩:=hv.1.at (j:=n+1) oV;have a7:w.cell? ⟨bv,ov+n,none⟩=some (.int .u64 (m.getD n 0:Nat)):=by
  obtain⟨b',ab,h1,h2⟩:=hv.1.at (j:=n) oV;simp only[A1f,Addr.mk.injEq,and_true]at h1;obtain⟨rfl,rfl⟩:=h1;exact h2
 have a3:=Hk q (j:=off+(n+2)) oV;have a4:=Hk q (j:=off+(n+1)) oV;have a5:=Hk q (j:=off+n) oV;obtain⟨v1,T⟩:∃ x,x=m.getD (n+1) 0:=⟨_,rfl⟩;obtain⟨v2,U⟩:∃ x,x=m.getD n 0:=⟨_,rfl⟩;obtain⟨V,C⟩:∃ x,x=f.getD (off+(n+2)) 0:=⟨_,rfl⟩;obtain⟨u1,H⟩:∃ x,x=f.getD (off+(n+1)) 0:=⟨_,rfl⟩;obtain⟨u2,R⟩:∃ x,x=f.getD (off+n) 0:=⟨_,rfl⟩;rw[<-T,<-U,<-C,<-H,<-R]at hp;rw[<-T]at a6 ak;rw[<-U]at a7;rw[<-C]at a3;rw[<-H]at a4;rw[<-R]at a5;have b1:=hp.v1low;have b2:=hp.v2low;have b3:=hp.u2low;have b4:V<1000000000:=by rw[C];exact lf.getD _
 have b5:u1<1000000000:=by rw[H];exact lf.getD _
 have b6:((v1:Int)==0)=false:=gV;have HP:=Lib.hid hp;have HO:=Lib.hid q;have HV:=Lib.hid hv;have LF:=Lib.hid lf;have LM:=Lib.hid lm;have HM:=Lib.hid hm;have J:=Lib.hid ah;have E0:=Lib.hid C;clear hp q hv lf lm hm ah T U C H R hU
 go_enter func270,ntmps270
 go_wp2_with fail
 go_quiet (fail)
 go_wp2_with fail
 go_quiet (fail)
 go_wp2_with fail
 rw[show ((V:Int)*1000000000+u1)/v1=(((V*1000000000+u1)/v1:Nat):Int) by simp,show ((V:Int)*1000000000+u1)%v1=(((V*1000000000+u1)%v1:Nat):Int) by simp]
 go_loopw [7,8] (Aqd w v1 (V*1000000000+u1) (val m) (val ((f.drop off).take (n+3)))) (fun _ r _=>(1000000000-intOf r).toNat)
 case atStart =>
  have a0:=A29 (V*1000000000+u1) (show 0<v1 by omega);exact⟨_,_,rfl,rfl,Rf.start HP.out,oV,_,World.drewN_drewN _ _ _⟩
 case round =>
  obtain⟨I,rr,rfl,rfl,ht,be,d,rfl⟩:=hrel;have HT:=Lib.hid ht;have bb:=ht.qle;clear ht;obtain⟨p,hp⟩:∃ p,p=I*v2:=⟨_,rfl⟩;have an:p<=2000000000*999999999:=by rw[hp];exact A25 oV oV
  have L:((I:Int)*v2)=p:=by rw[hp];exact (A4d _ _).symm
  have PP:=Lib.hid hp;clear hp;by_cases A:rr<1000000000/\(1000000000<=I\/rr*1000000000+u2<p)
  ·have E:=HT.out.step HP.out (by rw[<-PP.out];exact A.2);have ad:=Lib.hid E;have b9:=E.1;clear E;obtain⟨ay,ag⟩:=A;have d1:decide ((rr:Int)<1000000000)=true:=gV;by_cases az:1000000000<=I
   ·have d2:decide ((1000000000:Int)<=I)=true:=gV;clear ag
    go_wp2_with fail
    go_quiet (fail)
    go_wp2_with fail
    exact⟨⟨I-1,rr+v1,by go_num,by go_num,ad.out.2,oV,_,rfl⟩,by simp only[intOf];omega⟩
   have d2:decide ((1000000000:Int)<=I)=false:=gV;have d3:decide ((rr:Int)*1000000000+u2<p)=true:=gV;clear ag
   go_wp2_with fail
   go_quiet (fail)
   go_wp2_with fail
   exact⟨⟨I-1,rr+v1,by go_num,by go_num,ad.out.2,oV,_,rfl⟩,by simp only[intOf];omega⟩
  have P:=HT.out.done HP.out (by rw[<-PP.out];exact A);have HF:=Lib.hid P;have bd:=P.1;clear P;have a1:(decide ((rr:Int)<1000000000)=false)\/(decide ((rr:Int)<1000000000)=true/\decide ((1000000000:Int)<=I)=false/\decide ((rr:Int)*1000000000+u2<p)=false):=by
   simp only[decide_eq_false_iff_not,decide_eq_true_eq];omega
  clear A;rcases a1 with d1|⟨d1,d2,d3⟩;all_goals
   go_wp2_with fail
   go_quiet (fail)
   go_wp2_with fail
   go_loopw [9,80] (Auj w base g N f m off I (n+2)) (fun _ i _=>(n+2)-(intOf i).toNat)
   case atStart=>exact⟨0,f,0,oV,rfl,rfl,Mx.start _ _ _ _ LF.out,Px HO.out _,Agp (Xl _ _) _⟩
   case round =>
    obtain⟨k,o,B,hk,rfl,rfl,a2,q,ai⟩:=hrel;have W:=Lib.hid a2;have Y:=Lib.hid q;have HG:=Lib.hid ai;have b0:=a2.carry;have b8:N<=o.length:=by have:=a2.len;have:=J.out;omega
    clear a2 q ai d1 a6 a7 a3 a4 a5 L an;by_cases a0:k<n+2
    ·obtain⟨x,hx⟩:∃ x,x=m.getD k 0:=⟨_,rfl⟩;obtain⟨y,hy⟩:∃ y,y=o.getD (off+k) 0:=⟨_,rfl⟩;have ap:x<1000000000:=by rw[hx];exact LM.out.getD k
     have aq:y<1000000000:=by rw[hy];exact W.out.low.getD _
     have al:wr.cell? ⟨bv,ov+k,none⟩=some (.int .u64 (x:Int)):=by
      obtain⟨b',ab,h1,h2⟩:=(HV.out.grown HG.out).1.at (j:=k) (by rw[HM.out];exact a0);simp only[A1f,Addr.mk.injEq,and_true]at h1;obtain⟨rfl,rfl⟩:=h1;rw[hx];exact h2
     have t:=Hk Y.out (j:=off+k) oV;have Z:=Y.out.frozenAt (off+k);rw[<-hy]at t;have XX:=Lib.hid hx;have YY:=Lib.hid hy;clear hx hy;obtain⟨D,L⟩:∃ D,D=I*x:=⟨_,rfl⟩;have av:D<=999999999*999999999:=by rw[L];exact A25 oV oV
     have aw:((I:Int)*x)=D:=by rw[L];exact (A4d _ _).symm
     have af:=Lib.hid L;clear L;by_cases bf:y<(D+B)%1000000000
     ·have d4:decide ((y:Int)<((D:Int)+B)%1000000000)=true:=gV
      go_wp2_with fail
      rw[show (y:Int)+1000000000=((y+1000000000:Nat):Int) by omega,show ((y+1000000000:Nat):Int)-((D:Int)+B)%1000000000=((y+1000000000-(D+B)%1000000000:Nat):Int) by omega,show ((D:Int)+B)/1000000000+1=(((D+B)/1000000000+1:Nat):Int) by omega];have aj:=Mr (off+k) (y+1000000000) Y.out HG.out;have h:=Mr (off+k) (y+1000000000-(D+B)%1000000000) aj.1 aj.2;rw[A6r]at h;refine⟨⟨k+1,_,_,oV,by go_num,rfl,?_,h.1,h.2⟩,by simp only[intOf];omega⟩;exact W.out.step (by have:=J.out;omega) XX.out YY.out oV oV (by rw[<-af.out];omega)
     have d4:decide ((y:Int)<((D:Int)+B)%1000000000)=false:=gV
     go_wp2_with fail
     rw[show (y:Int)-((D:Int)+B)%1000000000=((y-(D+B)%1000000000:Nat):Int) by omega,show ((D:Int)+B)/1000000000=(((D+B)/1000000000:Nat):Int) by omega];have h:=Mr (off+k) (y-(D+B)%1000000000) Y.out HG.out;refine⟨⟨k+1,_,_,oV,by go_num,rfl,?_,h.1,h.2⟩,by simp only[intOf];omega⟩;exact W.out.step (by have:=J.out;omega) XX.out YY.out oV oV (by rw[<-af.out];omega)
    obtain rfl:k=n+2:=oV;have t:=Hk Y.out (j:=off+(n+2)) oV;have Z:=Y.out.frozenAt (off+(n+2));rw[W.out.same _ (Or.inr (A08 _)),<-E0.out]at t;have u:=HP.out.pos;by_cases am:B<=V
    ·have hd:=Ae4 HM.out (by rw[J.out];exact hN) W.out LF.out HF.out.2.1 u (by rw[<-E0.out];exact am);rw[<-E0.out]at hd;have HD:=Lib.hid hd;clear hd u
     go_wp2_with fail
     go_ret
     rw[show (V:Int)-B=((V-B:Nat):Int) by omega];have h:=Mr (off+(n+2)) (V-B) Y.out HG.out;exact⟨_,by rw[<-HD.out.1];rfl,HD.out.2,h.1,h.2⟩
    have a9:=W.out.low;have LO:=Lib.hid a9;have VP:=Lib.hid u;clear a9 u t Z;obtain⟨wo,ao⟩:∃ wo:World,wo=wr:=⟨_,rfl⟩;subst ao;have t:=Hk Y.out (j:=off+(n+2)) oV;rw[W.out.same _ (Or.inr (A08 _)),<-E0.out]at t
    go_wp2_with fail
    go_loopw [14,132] (At3 w base g N o m off (n+2)) (fun _ i _=>(n+2)-(intOf i).toNat)
    case atStart=>exact⟨0,o,0,oV,rfl,rfl,Oa.start _ _ _ LO.out,Y.out,HG.out⟩
    case round =>
     obtain⟨k,o2,O,hk,rfl,rfl,F,Q,a8⟩:=hrel;have X:=Lib.hid F;have K:=Lib.hid Q;have ac:=Lib.hid a8;have ar:=F.carry;have au:N<=o2.length:=by have:=F.len;omega
     clear F Q a8 t;by_cases a0:k<n+2
     ·obtain⟨x,hx⟩:∃ x,x=m.getD k 0:=⟨_,rfl⟩;obtain⟨y,hy⟩:∃ y,y=o2.getD (off+k) 0:=⟨_,rfl⟩;have ap:x<1000000000:=by rw[hx];exact LM.out.getD k
      have aq:y<1000000000:=by rw[hy];exact X.out.low.getD _
      have al:wr.cell? ⟨bv,ov+k,none⟩=some (.int .u64 (x:Int)):=by
       obtain⟨b',ab,h1,h2⟩:=(HV.out.grown ac.out).1.at (j:=k) (by rw[HM.out];exact a0);simp only[A1f,Addr.mk.injEq,and_true]at h1;obtain⟨rfl,rfl⟩:=h1;rw[hx];exact h2
      have t:=Hk K.out (j:=off+k) oV;have Z:=K.out.frozenAt (off+k);rw[<-hy]at t;have XX:=Lib.hid hx;have YY:=Lib.hid hy;clear hx hy
      go_wp2_with fail
      rw[show ((y:Int)+x+O)%1000000000=(((y+x+O)%1000000000:Nat):Int) by omega,show ((y:Int)+x+O)/1000000000=(((y+x+O)/1000000000:Nat):Int) by omega];have h:=Mr (off+k) ((y+x+O)%1000000000) K.out ac.out;refine⟨⟨k+1,_,_,oV,by go_num,rfl,?_,h.1,h.2⟩,by simp only[intOf];omega⟩;exact X.out.step LM.out (by have:=J.out;have:=W.out.len;omega) XX.out YY.out
     obtain rfl:k=n+2:=oV;have hb:=Am8 HM.out (by rw[J.out];exact hN) W.out HF.out.2.2 VP.out (by have:=K8 LM.out;rw[HM.out]at this;exact this) (by rw[<-E0.out];omega) X.out;rw[<-E0.out]at hb;have aa:=hb.2.1;have t:=Hk K.out (j:=off+(n+2)) oV;have Z:=K.out.frozenAt (off+(n+2));rw[X.out.same _ (Or.inr (A08 _)),W.out.same _ (Or.inr (A08 _)),<-E0.out]at t;have ba:1<=I:=by rw[hb.1];exact Nat.le_add_left 1 _
     have HB:=Lib.hid hb;have ae:=Lib.hid aa;clear hb aa
     go_wp2_with fail
     go_ret
     rw[Amj ae.out];have h:=Mr (off+(n+2)) 0 K.out ac.out;refine⟨_,?_,HB.out.2.2,h.1,h.2⟩;refine congrArg (fun z:Int=>Ending.returned (.int .u64 z)) (a₁:=(I:Int)-1) ?_;have:=HB.out.1;omega
end
section
variable {f k m n:Nat}
structure Avl (n k f:Nat):Prop where
 len:nl n=k+2
 pos:1<=f
 low:f<1000000000
 vlen:nl (n*f)=k+2
 vtop:500000000<=(Aa (n*f)).getD (k+1) 0
 fle:f*1000000000^(k+1)<=n*f
def Ak6 (n k:Nat)(h:nl n=k+2):n=val ((Aa n).take (k+1))+1000000000^(k+1)*(Aa n).getD (k+1) 0:=by
 have:=A5 (Aa n) (k+1);rw[A1j (show (Aa n).length<=k+1+1 from Nat.le_of_eq h),Am]at this;exact this
def Awm (n k:Nat)(h:nl n=k+2):1<=(Aa n).getD (k+1) 0:=by
 have a:n≠0:=by intro e;rw[e,Vr]at h;omega
 have:=Pn a;have g:(Aa n).length=k+2:=h;rw[g]at this;simp only[A5p,show k+2-1=k+1 from rfl]at this;omega
def Avl.make (h:nl n=k+2):Avl n k (1000000000/((Aa n).getD (k+1) 0+1)):=by
 have J:=Awm n k h;have T:=(Ao n).getD (k+1);have W:=Ak6 n k h;have O:=Gw (Ao n) (k+1);generalize (Aa n).getD (k+1) 0=b at *
 have a:=A3h 1000000000 (b+1);have Q:=A29 1000000000 (show 0<b+1 by omega);generalize V:1000000000/(b+1)=f at *
 generalize 1000000000%(b+1)=r at *
 have e:1<=f:=by
  rcases A2a f with h0|h0
  ·rw[h0,A3z]at a;omega
  exact h0
 have u:f<1000000000:=by
  have:(1+1)*f<=(b+1)*f:=A13 _ oV;omega
 have L:b*f+f+r=1000000000:=by rw[A16,A3i]at a;exact a
 have F:b+f<=b*f+1:=by
  obtain⟨x,rfl⟩:∃ x,b=x+1:=⟨b-1,oV⟩;obtain⟨y,rfl⟩:∃ y,f=y+1:=⟨f-1,oV⟩;rw[A16,A2o,A3i,A50];have:0<=x*y:=A1t _;omega
 have H:500000000<=b*f:=oV;generalize X:val ((Aa n).take (k+1))=x at *
 generalize j:1000000000^(k+1)=P at *
 have q:P<=n:=by
  have:P*1<=P*b:=A2h _ J;omega
 have A:n*f<P*1000000000:=by
  have C:n<P*(b+1):=by rw[A2o,A50];omega
  have I:n*f<P*(b+1)*f:=A6w C oV;have D:P*(b+1)*f<=P*1000000000:=by rw[A17];exact A2h _ oV
  omega
 have N:P<=n*f:=by
  have:n*1<=n*f:=A2h _ e;omega
 have g:nl (n*f)=k+2:=by
  refine A8h (A4 (by rw[show k+2=k+1+1 from rfl,A2d,j];exact A)) ?_;rcases A2e (nl (n*f)) (k+2) with E|E
  ·have U:=Dd (n*f);have K:1000000000^nl (n*f)<=1000000000^(k+1):=A10 oV oV;rw[j]at K;omega
  exact E
 refine⟨h,e,u,g,?_,?_⟩
 ·have R:=Ak6 (n*f) k g;have B:=Gw (Ao (n*f)) (k+1);rw[j]at R B;generalize (Aa (n*f)).getD (k+1) 0=t at *
  have C:P*(b*f)<=n*f:=by
   rw[<-A17];exact A13 _ oV
  have I:n*f<P*(t+1):=by rw[A2o,A50];omega
  have D:P*(b*f)<P*(t+1):=oV;have:=A84 D;omega
 rw[A19 n];exact A2h _ (by rw[j];exact q)
def Ou.start {m n k f M:Nat}(h:Avl n k f)(A:nl m+1=M+(k+2)) :
 Ou (m*f) (n*f) (k+2) M M (Aa (m*f)++List.replicate (M+(k+2)-nl (m*f)) 0) (List.replicate M 0):=by
 have F:nl (m*f)<=M+(k+2):=by
  rw[<-A];refine A04 (G7 m f) (Nat.add_le_add_left ?_ _);exact A4 (by simpa using h.low)
 have e:(Aa (m*f)++List.replicate (M+(k+2)-nl (m*f)) 0).length=M+(k+2):=by
  rw[A1d,A3k];unfold nl at *;omega
 have a:val (Aa (m*f)++List.replicate (M+(k+2)-nl (m*f)) 0)=m*f:=by
  rw[Qm,Aa1,Am];omega
 refine⟨e,mV,(Ao _).append (Low.zeros _),Low.zeros _,?_,?_,?_⟩
 ·have B:=Gz (Aa (m*f)++List.replicate (M+(k+2)-nl (m*f)) 0) M oV;rw[a]at B;generalize val ((Aa (m*f)++List.replicate (M+(k+2)-nl (m*f)) 0).drop M)=y at *
  generalize val ((Aa (m*f)++List.replicate (M+(k+2)-nl (m*f)) 0).take M)=x at *
  have q:=Dd m;rw[show nl m=M+(k+1) by omega,A4k]at q;have g:=h.fle;have t:=h.pos;generalize 1000000000^(k+1)=P at *
  generalize 1000000000^M=Q at *
  have C:m*f<Q*P*f:=A6w q oV;have D:Q*P*f=Q*(f*P):=by rw[A17,A19 P]
  have u:Q*y<Q*(f*P):=oV;have:=A84 u;omega
 ·rw[a,A2b mV];simp[val]
 intro j E;have:(Aa (m*f)++List.replicate (M+(k+2)-nl (m*f)) 0)[j]?=none:=A1v oV;rw[A02,this];rfl
def Agz (a:0<f):m*f/(n*f)=m/n/\m*f%(n*f)=(m%n)*f :=
 ⟨Nat.mul_div_mul_right m n a,Nat.mul_mod_mul_right f m n⟩
end
section
variable {N base g k n:Nat}{e:TypeId}{w w':World}{xs:zV}
def V6 (w:World)(m n:Nat)(e:Ending)(w':World):Prop:=∃ u v,e=.returned (.tuple #[u,v])/\C8 w' u m/\C8 w' v n/\Ext w w'
def Aj0 {m n:Nat}(h:n<=m):0<=sgn ((m:Int)-n):=by
 rcases A2e n m with a|a
 ·rw[C5 oV];omega
 rw[show (m:Int)-n=0 by omega,Ra];omega
set_option maxRecDepth 100000 in
def Aft (a f:Value)(m n:Nat)(w:World)(h:C8 w a m)(x:C8 w f n)(A:nl m<=10000000000000)(sb:nl n<=10000000000000)(y:m<n) :
 Calls prog 238 #[a,f] w (V6 w 0 m):=by
 have t:=Lib.hid h;have j:=Hl a f m n w h x A sb;rw[Ep oV]at j;have u:=Lib.hid j
 go_enter func238,ntmps238
 go_wp2_with fail
 refine u.out.mono ?_;rintro e w' ⟨rfl,q,rfl⟩
 go_wp2_with fail
 go_ret2
 exact⟨_,_,rfl,C8.zero _ _ _,t.out.ext ((Ext.refl w).drewN q),(Ext.refl w).drewN q⟩
def Ez {d:Nat}(h0:d≠0)(h:d<1000000000):Aa d = [d]:=by
 rw[Dz h0,show d/1000000000=0 by omega,A7,show d%1000000000=d by omega]
def Akq (a:World)(r:Nat):Row (a.alloc (Obj.cells #[Value.int IntKind.u64 (r:Int)] 246)) (some ⟨a.heap.size,0,none⟩) (A8 [r]):=by
 intro j f;obtain rfl:j=0:=by simp_all
 exact⟨_,_,rfl,by simp[A8]⟩
set_option maxRecDepth 100000 in
def Adh (y F:Value)(m n:Nat)(w:World)(I:C8 w y m)(J:C8 w F n)(O:nl m<=10000000000000)(h:0<n)(L:n<1000000000)(C:n<=m) :
 Calls prog 238 #[y,F] w (V6 w (m/n) (m%n)):=by
 have K:=Ez oV L;have P:=Lib.hid I;have U:=Hl y F m n w I J O (by unfold nl;rw[K];simp);obtain⟨s,V⟩:∃ s,s=sgn ((m:Int)-n):=⟨_,rfl⟩;have W:0<=s:=by rw[V];exact Aj0 C
 have H:=Lib.hid U;obtain⟨b,cb,rfl,_,a⟩:=J;rw[K]at a H⊢;obtain⟨Z,ob,rfl,B⟩:=a.at (j:=0) mV;simp only[A3s]at B
 go_enter func238,ntmps238
 go_wp2_with fail
 refine H.out.mono ?_;rintro e w' ⟨rfl,q,rfl⟩
 go_wp2_with fail
 have u:=Su y m n _ (P.out.ext ((Ext.refl w).drewN q)) O h L;obtain⟨r,x⟩:∃ r,r=m%n:=⟨_,rfl⟩;rw[<-x]at u;have D:r<1000000000:=by rw[x];have:=A29 m h;omega
 have Q:=Lib.hid x;clear x;refine u.mono ?_;rintro e A ⟨v,rfl,X,Y⟩;have R:=Lib.hid X;have T:=Lib.hid Y
 go_wp2_with fail
 have a:Row (A.alloc (Obj.cells #[Value.int IntKind.u64 (r:Int)] 246)) (some ⟨A.heap.size,0,none⟩) (A8 [r]):=Akq A r;refine (G5 _ _ _ [r] _ rfl mV mV a).mono ?_;rintro e w' ⟨rfl,rfl⟩;have t:=D3 (cap:=1) (Low.cons D Low.nil) a (n:=r) (by simp[val]) mV;have f:=Lib.hid t
 go_wp2_with fail
 go_ret2
 have E:=(((Ext.refl w).drewN q).trans T.out).alloc (Obj.cells #[Value.int IntKind.u64 (r:Int)] 246);exact⟨_,_,rfl,R.out.ext ((Ext.refl A).alloc _),by rw[<-Q.out];exact f.out,E⟩
def Acf (n:Nat):Array Value:=(A8 (List.replicate n 0)).toArray
def Wr (W:World)(N:Int)(n:Nat)(j:N=n)(q:n<=30000000000000) :
 (Instr.makeSlice 139 (zI N) (zI N)).run prog W=.ok (.slice (some ⟨W.heap.size,0,none⟩) n n) (W.alloc (.cells (Acf n) 246)):=by
 subst j;obtain⟨m,hi,a,f,h⟩:=info_parts Tryz.info246;have:=run_make (P:=prog) W 139 246 m (.int .u64 0) Tryz.underlying139 hi a .i64 .i64 n n oV oV (by rw[h];omega) oV;rw[this,A23,f];have e:madeCells (Value.int .u64 0).cells (n*1)=Acf n:=by
  apply A6j;rw[Lp];rfl
 rw[e]
def Wk (W:World)(base n:Nat)(a:base<=W.heap.size)(f:n<=30000000000000) :
 (W.alloc (.cells (Acf n) 246)).ownsRow base 246 1 (.slice (some ⟨W.heap.size,0,none⟩) n n) n (A8 (List.replicate n 0)):=by
 have:=World.ownsRow_lit (e:=246) (size:=1) (base:=base) W (Acf n) n a (by unfold maxLen;omega) (by simp[Acf]);exact this
def Adc (w:World)(B N V:Nat)(u v:Value)(wx:World):Prop :=
 ∃ g av nv cv,u=zG g N N/\v=.slice av nv cv/\nv=nl V/\wx.ownsRow B 246 1 (zG g N N) N (A8 (List.replicate N 0)) /\
  Gp wx g av (A8 (Aa V))/\Ext w wx/\w.heap.size<=g
def Ext.grownBy (h:Ext w w')(r:Option Nat):w.grownBy w' r:=⟨h.os,h.tape,h.output,h.size,fun k a _=>Below.block h k a⟩
def Wm {size g n cap k:Nat}(h:w.ownsRow base e size (zG g n cap) k xs)(x:Ext w w') :
 w'.ownsRow base e size (zG g n cap) k xs:=h.kept (x.grownBy none) (Or.inr (by simp[Value.ownBlock]))
theorem Ayx {W2 w3:World}{N V kk cap:Nat}(hN:N<=30000000000000)(hv:C8 w3 (.slice (some ⟨(W2.alloc (.cells (Acf N) 246)).drew.heap.size,0,none⟩) kk cap) V)
 (hx:Ext (W2.alloc (.cells (Acf N) 246)).drew w3) :
 Adc W2 W2.heap.size N V (.slice (some ⟨W2.heap.size,0,none⟩) N N) (.slice (some ⟨W2.heap.size+1,0,none⟩) kk cap) w3:=by
 have hs:(W2.alloc (.cells (Acf N) 246)).drew.heap.size=W2.heap.size+1:=mV
 rw[hs]at hv;obtain⟨a',c',e1,_,hr⟩:=hv;simp only[Value.slice.injEq]at e1;obtain⟨rfl,e2,rfl⟩:=e1;refine⟨W2.heap.size,_,_,_,rfl,rfl,e2,Wm (World.ownsRow.drew (Wk W2 _ N (A08 _) hN)) hx,⟨hr,?_⟩,(((Ext.refl W2).alloc _).drew).trans hx,A08 _⟩;intro b off hb;simp only[A1f,Addr.mk.injEq]at hb;omega
def Ayq {a f:World}{N V t cap:Nat}(A:N<=30000000000000)(I:0<V)(D:C8 f (.slice (some ⟨a.drew.heap.size,0,none⟩) t cap) V)(E:Ext a.drew f) :
 Adc a a.heap.size N V (.slice (some ⟨f.heap.size,0,none⟩) N N) (.slice (some ⟨a.heap.size,0,none⟩) t cap) (f.alloc (.cells (Acf N) 246)):=by
 have J:a.drew.heap.size=a.heap.size:=rfl;obtain⟨F,H,m,_,q⟩:=D;simp only[Value.slice.injEq]at m;obtain⟨rfl,u,rfl⟩:=m;have C:a.heap.size<f.heap.size:=by
  obtain⟨b,off,x,y⟩:=q.at (j:=0) (by
   have:Aa V≠[]:=fun e=>by have:=Hj.1 e;omega
   exact A4f.2 this)
  simp only[A1f,Addr.mk.injEq]at x;have:=block_lt_of_cell y;simp only at this;omega
 have h:Ext a f:=((Ext.refl a).drew).trans E;refine⟨f.heap.size,_,_,_,rfl,rfl,u,Wk f _ N h.size A,⟨q.ext ((Ext.refl f).alloc _),?_⟩,h.alloc _,h.size⟩;intro b off B;simp only[A1f,Addr.mk.injEq]at B;omega
theorem Qt (h:w.ownsRow base e 1 (zG g n n) n xs) :
 w.heap[g]?=some (.cells xs.toArray e (0,0))/\base<=g:=by
 rcases h.2 with ⟨j,_⟩|⟨x,f,m,j,q,t,_,_,u,a⟩
 ·grind
 obtain⟨rfl,rfl⟩:=j;rw[A1j gV]at a;rw[<-a];exact⟨by simpa using t,q⟩
def Ahr (h:w.heap[g]?=some (.cells xs.toArray e (0,0)))(a:base<=g)(j:xs.length=n)(f:n<=30000000000000) :
 w.ownsRow base e 1 (zG g n n) n xs:=by
 refine⟨oV,Or.inr ⟨g,n,xs.toArray,rfl,a,h,A08 _,by unfold maxLen;omega,gV,?_⟩⟩;rw[A1j gV]
def Adi (w:World)(g:Nat)(cs:Array Value):w.grownBy (w.setRow g cs) (some g) :=
 ⟨rfl,rfl,rfl,mV,fun k _ a=>setRow_other w g k _ (fun e=>a (by simp[e]))⟩
def Ayp {l:zK}(h:w.ownsRow base 246 1 (zG g N N) N (A8 (List.replicate N 0)))(m:l.length<=N)(j:N<=30000000000000) :
 (w.setRow g ((A8 (List.replicate N 0)).toArray.toList.take 0++(A8 l++(A8 (List.replicate N 0)).toArray.toList.drop (0+(A8 l).length))).toArray).ownsRow base 246 1 (zG g N N) N
  (A8 (l++List.replicate (N-l.length) 0)):=by
 obtain⟨a,f⟩:=Qt h;have e:(A8 (List.replicate N 0)).toArray.toList.take 0++(A8 l++(A8 (List.replicate N 0)).toArray.toList.drop (0+(A8 l).length))=A8 (l++List.replicate (N-l.length) 0):=by
  simp[A8]
 rw[e];exact Ahr (setRow_heap w g _ _ _ _ a) f gV j
theorem R7 {w:World}{y:Array Oper}{rest:List Oper}{o:Oper}{a:Act}{Q:Exit->Act->World->Prop}(B:o.guard=none)(d s:Operand)
 (O:o.op=.call { callee:=.builtin .copy,args:=#[d,s],argTypes:=#[139,139] })
 (base g N f t:Nat) (A:Addr) (l:zK) (K:a.eval d=zG g N N) (P:a.eval s=.slice (some A) f t)
 (m:w.ownsRow base 246 1 (zG g N N) N (A8 (List.replicate N 0))) (L:l.length=f) (J:N<=30000000000000) (E:l.length<=N)
 (u:Row w (some A) (A8 l))
 (h:∀ w',w'.ownsRow base 246 1 (zG g N N) N (A8 (l++List.replicate (N-l.length) 0))->w.grownBy w' (some g)->wpList prog y Q rest (a.put o.dst (goInt (A8 l).length)) w') :
 wpList prog y Q (o::rest) a w:=by
 obtain⟨V,hi,T,F,U⟩:=info_parts Tryz.info246;refine wpList_copy_own B d s _ _ O 246 Tryz.underlying139 (by rw[hi];simp[F]) g 0 N N A f t K P (A8 (List.replicate N 0)).toArray 246 (Qt m).1 (A8 l)
  (by rw[Us,L];exact (A4a oV).symm) (fun j v C=>?_) gV (fun v R=>?_) (h _ (Ayp m E J) (Adi _ _ _))
 ·have D:j<l.length:=by
   rcases A2e j l.length with h|h
   ·exact h
   rw[A1v (by simpa using h)]at C;cases C
  obtain⟨b',q,H,I⟩:=u j (by simpa using D);simp only[A1f]at H;subst H;have:(⟨b',q,none⟩:Addr).add j=⟨b',q+j,none⟩:=by
   unfold Addr.add;split
   ·grind
   rfl
  rw[this,I,A02,C];rfl
 obtain⟨x,_,rfl⟩:=A1b.1 R;rfl
def Ay0 (w:World)(A V n M N g gq:Nat)(av:zP)(i:Value)(wr:World):Prop :=
 ∃ (j:Nat) (u qs:zK),j<=M/\i=zI ((j:Int)-1)/\Ou A V n M j u qs /\
  wr.ownsRow w.heap.size 246 1 (zG g N N) N (A8 u)/\wr.ownsRow w.heap.size 246 1 (zG gq M M) M (A8 qs) /\
  Gp wr g av (A8 (Aa V))/\Gp wr gq av (A8 (Aa V))/\Ext w wr
def Gp.ext {w w':World}{g:Nat}{a:zP}{cs:zV}(h:Gp w g a cs)(x:Ext w w'):Gp w' g a cs:=⟨h.1.ext x,h.2⟩
def Gp.new {a:zP}{cs:zV}(h:Gp w g a cs)(t:0<cs.length)(x:Ext w w'):Gp w' w.heap.size a cs:=by
 refine⟨h.1.ext x,fun b off q=>?_⟩;obtain⟨b',j,f,m⟩:=h.1 0 t;have:=block_lt_of_cell m;rw[q]at f;simp only[A1f,Addr.mk.injEq]at f;simp only at this;omega
def Atz (h:w.ownsRow base e 1 (zG g n n) k xs):g<w.heap.size:=(h.lt g rfl).2
def Y9 {base e g f n k:Nat}(h:w.ownsRow base e 1 (zG g n n) k xs)(j:w.grownBy w' (some f))(a:g≠f) :
 w'.ownsRow base e 1 (zG g n n) k xs:=h.kept j (Or.inr (by simp[Value.ownBlock,a]))
set_option maxRecDepth 100000 in
def Aey (va vb:Value)(m n k:Nat)(w:World)(ha:C8 w va m)(hb:C8 w vb n)(sa:nl m<=5000000000000)(hn:nl n=k+2)(b0:n<=m) :
 Calls prog 238 #[va,vb] w (V6 w (m/n) (m%n)):=by
 obtain⟨i0,hi,br,bs,bt⟩:=info_parts Tryz.info246;have HI:=Lib.hid hi;have cc:=Lib.hid br;have cd:=Lib.hid bs;have ce:=Lib.hid bt;clear hi br bs bt;have ck:k+2<=nl m:=by rw[<-hn];exact C4 b0
 have hc:=Hl va vb m n w ha hb oV oV;obtain⟨s,hs⟩:∃ s,s=sgn ((m:Int)-n):=⟨_,rfl⟩;have d0:0<=s:=by rw[hs];exact Aj0 b0
 rw[<-hs]at hc;have HC:=Lib.hid hc;have T:Hid (0<n):=by
  rcases A2a n with h0|h0
  ·rw[h0,Vr]at hn;omega
  exact h0
 have HA:=Lib.hid ha;have HB:=Lib.hid hb;have h:=Avl.make hn;obtain⟨a,ca,rfl,_,ae⟩:=ha;obtain⟨b,cb,rfl,_,a2⟩:=hb;have Z:(Aa n).length=k+2:=hn;have J:(Aa m).length=nl m:=rfl;obtain⟨bb,ob,rfl,ch⟩:=a2.at (j:=k+1) oV;obtain⟨b1,aa⟩:∃ b1,b1=(Aa n).getD (k+1) 0:=⟨_,rfl⟩;have cn:b1<1000000000:=by rw[aa];exact (Ao n).getD _
 rw[<-aa]at ch h;rw[Z]at HC HB⊢;rw[J]at HC HA⊢;obtain⟨f,hf⟩:∃ f,f=1000000000/(b1+1):=⟨_,rfl⟩;rw[<-hf]at h;obtain⟨L,hL⟩:∃ L,L=nl m:=⟨_,rfl⟩;rw[<-hL]at HC HA sa ck⊢;have cw:(1000000000:Int)/((b1:Int)+1)=(f:Int):=by rw[hf];simp
 have ct:=h.pos;have A:=h.low;have C:=Lib.hid h;have HL:=Lib.hid hL;have HF:=Lib.hid hf;have cr:decide (s<0)=false:=gV;have cs:(((k:Int)+2)==1)=false:=gV;clear hc a2 ae hs Z J h aa hL hf hn
 go_enter func238,ntmps238
 go_wp2_with fail
 refine HC.out.mono ?_;rintro e w' ⟨rfl,q,rfl⟩
 go_upto_region 7 with fail
 have x2:Ext w ((w.drewN q).alloc (Obj.cells #[Value.int IntKind.u64 (f:Int)] 246)):=((Ext.refl w).drewN q).alloc _;have ax:C8 ((w.drewN q).alloc (Obj.cells #[Value.int IntKind.u64 (f:Int)] 246)) (.slice (some ⟨w.heap.size,0,none⟩) 1 1) f:=by
  refine⟨_,1,by rw[Ez oV A];rfl,by rw[Ez oV A];simp,?_⟩;rw[Ez oV A];exact Akq (w.drewN q) f
 have ab:((w.drewN q).alloc (Obj.cells #[Value.int IntKind.u64 (f:Int)] 246)).cell? ⟨w.heap.size,0,none⟩=some (.int .u64 (f:Int)):=World.cell?_alloc_new (w:=w.drewN q) _ _ _;generalize (w.drewN q).alloc (Obj.cells #[Value.int IntKind.u64 (f:Int)] 246)=W2 at *
 have X2:=Lib.hid x2;have ag:=Lib.hid ax;have bx:=Lib.hid ab;clear x2 ax ab HC
 go_cut [9,10] (Adc W2 W2.heap.size (L+1) (n*f))
 case first =>
  have cz:=fun W:World=>Wr W ((L:Int)+1) (L+1) oV oV;have a0:=fun (W:World) (x:Ext W2 W)=>T8 _ _ n f W (HB.out.ext (X2.out.trans x)) (ag.out.ext x) (by rw[C.out.len];omega) (by unfold nl;rw[Ez oV A];simp);have HM:=Lib.hid a0;clear a0;have d1:IntKind.i64.wrap ((L:Int)+1)=(L:Int)+1:=IntWalk.i64_in _ oV
  go_region_with (first|(go_at_call 199;refine (HM.out _ ?_).mono ?_;(first|exact (Ext.refl _).drew|exact ((Ext.refl _).alloc _).drew|exact ((Ext.refl _).drew).alloc _);rintro e w3 ⟨kk,cap,rfl,hv,H⟩))
  all_goals (try go_wp2_with fail)
  all_goals go_meet
  ·exact Ayx oV hv H
  exact Ayq oV (A51 T.out oV) hv H
 case rest =>
  obtain⟨g,av,nv,cv,rfl,rfl,b5,a1,bo,H,hg⟩:=hcut;rw[C.out.vlen]at b5;subst b5;have HO:=Lib.hid a1;have HV:=Lib.hid bo;have HX:=Lib.hid H;clear a1 bo H
  go_wp2_with fail
  refine (T8 _ _ m f _ (HA.out.ext (X2.out.trans HX.out)) (ag.out.ext HX.out) (by rw[<-HL.out];omega) (by unfold nl;rw[Ez oV A];simp)).mono ?_;rintro e w3 ⟨kk,cap,rfl,hv,H⟩;obtain⟨au,cu,e1,_,bf⟩:=hv;simp only[Value.slice.injEq]at e1;obtain⟨rfl,e2,rfl⟩:=e1;have b3:(Aa (m*f)).length<=L+1:=by
   have h1:=G7 m f;have h2:nl f<=1:=by unfold nl;rw[Ez oV A];simp
   rw[<-HL.out]at h1;unfold nl at h1 h2;omega
  have b6:=Wm HO.out H;have ai:=Lib.hid b6;have a7:=Lib.hid H;have bz:=Lib.hid b3;have bw:=Lib.hid e2;have U:=Lib.hid bf;clear b6 H b3 e2 bf;obtain⟨M,hM⟩:∃ M,M=L+1-(k+2):=⟨_,rfl⟩;have ar:L+1=M+(k+2):=oV;have ah:=Lib.hid hM;have t:=Lib.hid ar;have co:M<=L:=oV;clear hM ar
  go_wp2_with (first
   |(with_reducible refine R7 rfl (.tmp 49) (.tmp 52) rfl W2.heap.size g (L+1) kk _ ⟨wc.heap.size,0,none⟩ (Aa (m*f)) rfl rfl ai.out bw.out.symm oV bz.out U.out ?_;intro w4 b7 ay;have a5:=Lib.hid b7;have a3:=Lib.hid ay;clear b7 ay;have X4:=Lib.hid ((HX.out.trans a7.out).grown a3.out (fun k' D=>by cases D;exact hg));have a6:=Lib.hid ((HV.out.ext a7.out).grown a3.out))
   |(at_make;refine wpList_make_full _ rfl _ _ 139 rfl W2.heap.size 246 i0 (.int .u64 0) 1 Tryz.underlying139 HI.out cc.out cd.out .i64 .i64 _ _ M rfl rfl (by have:=ah.out;omega) (by have:=ah.out;omega) (by rw[ce.out];omega) (by unfold maxLen;omega) X4.out.size ?_;intro w5 ad az;rw[Lp]at ad;have aj:=Lib.hid ad;have X5:Hid (Ext w4 w5):=(Ext.refl w4).grown az (fun k' D=>by cases D);clear ad az))
  have b2:g≠w4.heap.size:=by have:=Atz a5.out;omega
  have R:0<(A8 (Aa (n*f))).length:=by rw[Us];have:=C.out.vlen;unfold nl at this;omega
  have ao:=Lib.hid (a6.out.ext X5.out);have ak:=Lib.hid (a6.out.new R X5.out);have an:=Lib.hid (Wm a5.out X5.out);have aq:=Lib.hid (X4.out.trans X5.out);generalize w4.heap.size=gq at *
  clear HO HV ai a7 U a6 a5 a3 X4 X5 R
  go_loopw [12] (Ay0 W2 (m*f) (n*f) (k+2) M (L+1) g gq av) (fun i _=>(intOf i+1).toNat)
  case atStart =>
   have bk:=an.out;rw[show L+1-(Aa (m*f)).length=M+(k+2)-nl (m*f) by unfold nl;have:=t.out;omega]at bk;exact⟨M,_,_,A08 _,rfl,Ou.start C.out (by rw[<-HL.out];exact t.out),bk,aj.out,ao.out,ak.out,aq.out⟩
  case round =>
   obtain⟨j,u,qs,hj,rfl,bi,b9,b8,bp,bn,H⟩:=hrel;have F:=Lib.hid bi;have HU:=Lib.hid b9;have HQ:=Lib.hid b8;have V:=Lib.hid bp;have ap:=Lib.hid bn;have a9:=Lib.hid H;clear bi b9 b8 bp bn H ao ak an aq aj;rcases j with _|j
   ·have y:=F.out.done (A51 T.out oV);rw[(Agz (m:=m) (n:=n) (show 0<f by omega)).1,(Agz (m:=m) (n:=n) (show 0<f by omega)).2]at y;have Q:u.length=L+1:=by rw[F.out.ulen];exact t.out.symm
    have P:=Row.of_owns HU.out;have O:=Row.of_owns HQ.out;have ab:=a9.out.cell bx.out;have bl:val (u.take (k+2))=(m%n)*f:=by
     rw[<-y.2];have:=Ic (u:=u) (j:=0) (k:=k+2) (fun i hi=>F.out.zero i hi);simpa using this
    have c7:=Lib.hid bl;have bu:=Lib.hid y;have U:=Lib.hid P;have am:=Lib.hid O;have c6:=Lib.hid Q;clear y Q P O bl;have af:Row wr (zA g) (A8 (u.take (k+2))):=by rw[<-Aba];exact U.out.take _
    have K:(u.take (k+2)).length=k+2:=by rw[A1e,c6.out];have:=t.out;omega
    obtain⟨X,hX⟩:∃ X,X=Value.slice (zA g) (Bz (u.take (k+2)) (u.take (k+2)).length) (L+1):=⟨_,rfl⟩;have aw:C8 wr X ((m%n)*f):=by
     rw[hX];exact D3 (F.out.ulow.take _) af c7.out (by rw[K];have:=t.out;omega)
    have bj:∀ W,Ext wr W->Calls prog 193 #[zG g (k+2) (L+1)] W fun e w'=>e=.returned X/\W=w':=fun W x=>by
     rw[hX];exact G5 _ _ _ _ W K oV (by have:=t.out;omega) (af.ext x)
    have b4:nl ((m%n)*f)<=10000000000000:=by
     have h1:=G7 (m%n) f;have h2:nl f<=1:=by unfold nl;rw[Ez oV A];simp
     have h3:nl (m%n)<=nl m:=C4 (Nat.mod_le _ _);rw[<-HL.out]at h3;omega
    have bh:∀ W,Ext wr W->Calls prog 269 #[X,.int .u64 f] W (P8 W (m%n) 0):=fun W x=>by
     have:=Su X ((m%n)*f) f W (aw.ext x) b4 oV A;rw[Nat.mul_div_cancel _ oV,Nat.mul_mod_left]at this;exact this
    have c4:=Lib.hid bj;have c2:=Lib.hid bh;clear bj bh hX af K aw b4;have cg:M<=9223372036854775807:=oV;have cm:HQ=HQ:=rfl;clear cm
    go_wp2_with fail
    go_region_with (first
     |(go_at_call 193;refine (c4.out _ ?_).mono ?_;(exact (Ext.refl _).drew);rintro e w7 ⟨rfl,rfl⟩)
     |(go_at_call 269;refine (c2.out _ ?_).mono ?_;(exact (Ext.refl _).drew);rintro e w7 ⟨v7,rfl,bm,bq⟩))
    all_goals
     have c8:=Lib.hid bm;have a8:Hid (Ext wr w7):=((Ext.refl wr).drew).trans bq;clear bm bq
     go_wp2_with fail
     refine (G5 _ _ _ qs _ F.out.qlen cg (A08 _) (am.out.ext a8.out)).mono ?_;rintro e w8 ⟨rfl,rfl⟩
     go_wp2_with fail
     go_ret2
     have cl:=D3 (cap:=M) F.out.qlow (am.out.ext a8.out) (n:=m/n) bu.out.1 (by rw[F.out.qlen];exact A08 _);exact⟨_,_,rfl,cl,c8.out,(X2.out.trans a9.out).trans a8.out⟩
   rw[show ((j+1:Nat):Int)-1=j by omega];have Q:u.length=L+1:=by rw[F.out.ulen];exact t.out.symm
   have I:=F.out.before (show j<M by omega);have be:val ((u.drop j).take (k+2+1))/(n*f)<1000000000:=by
    rw[A3b (A51 T.out oV)];exact I
   have E:=Aoi W2.heap.size g (L+1) j k (L+1-j) av cv u (Aa (n*f)) wr HU.out V.out Q F.out.ulow (Ao _) C.out.vlen (by have:=t.out;omega) oV (by have:=t.out;omega) C.out.vtop (by rw[Am];exact I);rw[Am]at E;obtain⟨qd,bd⟩:∃ qd,qd=val ((u.drop j).take (k+2+1))/(n*f):=⟨_,rfl⟩;have al:=Lib.hid bd;have c3:=Lib.hid E;have cj:=t.out;have cy:j+(k+2)+1<=L+1:=oV;have ci:j<M:=oV;have cq:L+1≠j:=oV;clear bd E I Q cj
   go_wp2_with fail
   rw[show j+(k+2)+1-j=k+3 by omega];refine c3.out.mono ?_;rintro e w6 ⟨o,rfl,bg,ba,ac⟩;rw[<-al.out];have Y:=Y9 HQ.out ac b2.symm;have cp:=Hk Y (j:=j) (by rw[F.out.qlen];omega);have cx:=Y.frozenAt j;have c0:=Lib.hid Y;have c5:=Lib.hid ba;have a4:=Lib.hid ac;have c1:=Lib.hid bg;clear Y ba ac bg
   go_wp2_with fail
   have B:=Mr j qd c0.out (Xl w6 (some gq));refine⟨⟨j,o,qs.set j qd,oV,rfl,?_,Y9 c5.out B.2 b2,B.1,?_,?_,?_⟩,by simp only[intOf];omega⟩
   ·rw[al.out];exact F.out.step ci (A51 T.out oV) (by have:=Dd (n*f);rw[C.out.vlen]at this;exact this) c1.out be
   ·refine⟨?_,V.out.2⟩;exact (Gp.grown ⟨(V.out.grown a4.out).1,ap.out.2⟩ B.2).1
   ·exact Gp.grown ⟨(V.out.grown a4.out).1,ap.out.2⟩ B.2
   have x6:=a9.out.grown a4.out (fun k' D=>by cases D;exact hg);exact x6.grown B.2 (fun k' D=>by cases D;exact (Qt HQ.out).2)
def Zo (a f:Value)(m n:Nat)(w:World)(j:C8 w a m)(q:C8 w f n)(A:nl m<=5000000000000)(sb:nl n<=5000000000000)(y:0<n) :
 Calls prog 238 #[a,f] w (V6 w (m/n) (m%n)):=by
 rcases A2e m n with h|h
 ·rw[A49 h,A5i h];exact Aft a f m n w j q oV oV h
 rcases A2e n 1000000000 with t|t
 ·exact Adh a f m n w j q oV y t h
 have B:2<=nl n:=by
  rcases A2e (nl n) 2 with u|u
  ·have C:=Dd n;have x:1000000000^nl n<=1000000000^1:=A10 oV oV;rw[Nat.pow_one]at x;omega
  exact u
 exact Aey a f m n (nl n-2) w j q A oV h
end
section
variable {n:Nat}
def Anx (h:nl n<=2):n=(Aa n).getD 1 0*1000000000+(Aa n).getD 0 0:=by
 have a:=Abx (Aa n) 0;rw[A1j (show (Aa n).length<=0+2 from h),Am]at a;simp only[A53,val,A8j,A3i,A2w]at a;omega
set_option maxRecDepth 100000 in
def Acw (t:Value)(n:Nat)(w:World)(E:C8 w t n)(h:nl n<=2) :
 Calls prog 272 #[t] w fun e w'=>e=.returned (.int .u64 (n:Int))/\w=w':=by
 have f:=Anx h;obtain⟨a,c,rfl,_,k⟩:=E;have g:=Wn a c (Aa n) 1 w (by unfold nl at h;omega) oV k;have j:=Wn a c (Aa n) 0 w (by unfold nl at h;omega) oV k;rw[show (1:Int).toNat=1 by rfl]at g;rw[show (0:Int).toNat=0 by rfl]at j;have D:=(Ao n).getD 1;have C:=(Ao n).getD 0;obtain⟨x,m⟩:∃ x,x=(Aa n).getD 1 0:=⟨_,rfl⟩;obtain⟨y,q⟩:∃ y,y=(Aa n).getD 0 0:=⟨_,rfl⟩;rw[<-m]at g D f;rw[<-q]at j C f;have A:=Lib.hid g;have B:=Lib.hid j;have u:=Lib.hid f;clear g j f m q k
 go_enter func272,ntmps272
 go_wp2_with fail
 refine A.out.mono ?_;rintro e w' ⟨rfl,rfl⟩
 go_wp2_with fail
 refine B.out.mono ?_;rintro e w' ⟨rfl,rfl⟩
 go_wp2_with fail
 go_ret
 exact⟨Atm (by have:=u.out;omega),rfl⟩
def Abf (h:nl n<=2):n<1000000000000000000:=by
 have e:=Dd n;have a:1000000000^nl n<=1000000000^2:=A10 oV h;rw[show (1000000000:Nat)^2=1000000000000000000 by rfl]at a;omega
def Wl (m n:Nat):Nat.gcd n (m%n)=Nat.gcd m n:=by rw[A9a m n,Nat.gcd_rec n m,A9a]
end
section
variable {b:Bool}{g n:Nat}{s:Value}{t:TypeId}{w:World}
def St (w:World)(v:Value)(z:Int):Prop:=∃ a n c,v=.agg #[.bool (decide (z<0)),.slice a n c]/\C8 w (.slice a n c) z.natAbs
def St.ext {w w':World}{v:Value}{z:Int}(h:St w v z)(x:Ext w w'):St w' v z:=by
 obtain⟨a,n,c,e,f⟩:=h;exact⟨a,n,c,e,f.ext x⟩
def Ac0 (w:World)(z:Int)(e:Ending)(w':World):Prop:=∃ v,e=.returned v/\St w' v z/\Ext w w'
def Cd (neg:Bool)(n:Nat):Int:=if neg then -(n:Int) else n
def K5 (neg:Bool)(n:Nat):(Cd neg n).natAbs=n:=by unfold Cd;split<;>omega
def Wd (neg:Bool)(n:Nat):decide (Cd neg n<0)=(neg&&decide (0<n)):=by
 unfold Cd;cases neg<;>simp<;>omega
def Uc (z:Int):Cd (decide (z<0)) z.natAbs=z:=by
 unfold Cd;by_cases h:z<0<;>simp[h]<;>omega
def Ab7 {b neg:Bool}(f:b=(neg&&decide (0<n)))(e:C8 w s n):St w (.agg #[.bool b,s]) (Cd neg n):=by
 obtain⟨a,c,rfl,h⟩:=id e;exact⟨a,_,c,by rw[Wd,f],by rw[K5];exact e⟩
def Aty {z:Int}(f:b=decide (z<0))(e:C8 w s z.natAbs):St w (.agg #[.bool b,s]) z:=by
 obtain⟨a,c,rfl,h⟩:=id e;exact⟨a,_,c,by rw[f],e⟩
def Df :0<(Aa n).length↔0<n:=by
 constructor
 ·intro h;rcases A2a n with h0|h0
  ·rw[h0,A7]at h;simp at h
  exact h0
 intro h;exact A4f.2 (fun e=>by have:=Hj.1 e;omega)
def Pm (w:World)(a:Addr)(v:Value):w.grownBy (w.setCell a v) (some a.block) :=
 ⟨rfl,rfl,rfl,by simp[World.setCell],fun k _ f=>Below.heap_setCell _ _ _ _ (fun e=>f (by rw[e]))⟩
def Aqw (w:World)(g:Nat):Prop:=∃ (cs:Array Value) (t:TypeId) (fr:Nat×Nat),w.heap[g]?=some (.cells cs t fr)/\∀ (j:Nat) (k:IntKind) (z:Int),cs[j]?≠some (Value.int k z)
def C8.grown {w w':World}(h:C8 w s n)(C:Aqw w g)(D:w.grownBy w' (some g)):C8 w' s n:=by
 obtain⟨a,c,y,A,B⟩:=h;refine⟨a,c,y,A,fun j u=>?_⟩;obtain⟨b,off,x,f⟩:=B j u;refine⟨b,off,x,D.cell f ?_⟩;simp only[ne_eq,A1f];intro e;obtain⟨cs,t,fr,q,m⟩:=C;rw[<-e]at q;rw[cell_of_row _ _ _ _ _ _ q]at f;have k:j<(Aa n).length:=by simpa using u
 refine m _ .u64 ((Aa n).getD j 0:Nat) (f.trans ?_);simp[A8,k]
def Asg {f j a e:Value}(h:w.heap[g]?=some (.cells #[f,j] t (0,0))) :
 ((w.setCell ⟨g,0,none⟩ a).setCell ⟨g,1,none⟩ e).heap[g]?=some (.cells #[a,e] t (0,0)):=by
 rw[heap_setCell_same _ _ _ _ _ _ (heap_setCell_same _ _ _ _ _ _ h)];rfl
def Aza (w:World)(g:Nat)(a e:Value):w.grownBy ((w.setCell ⟨g,0,none⟩ a).setCell ⟨g,1,none⟩ e) (some g) :=
 Uy (Pm _ _ _) (Pm _ _ _)
def A0h {a w:World}(h:Ext a w)(e:a.heap.size<=g)(f j:Value):Ext a ((w.setCell ⟨g,0,none⟩ f).setCell ⟨g,1,none⟩ j) :=
 (h.setCell (p:=⟨g,0,none⟩) e f).setCell (p:=⟨g,1,none⟩) e j
def Awa {a:zP}{n c:Nat}(h:w.heap[g]?=some (.cells #[.bool b,.slice a n c] t (0,0))):Aqw w g:=by
 refine⟨_,_,_,h,fun j k z e=>?_⟩
 match j with
 |0=>simp at e
 |1=>simp at e
 |j+2=>simp at e
def Tryz.size141:(prog.info? 141).map (·.size)=some 2:=kV
def Ac5 {fn:Func}{p:Tmp}{R:Ending->World->Prop}{a:Act}{w:World}{g:Nat}{e f:Value}(h:fn.results = #[.cell p 141])
 (hp:a.tmps.getD p undef=.pointer (zA g)) (m:w.heap[g]?=some (.cells #[e,f] 141 (0,0))) (k:a.defers = []) (j:R (.returned (.agg #[e,f])) w) :
 bodyPost prog fn R .ret a w :=
 ⟨k,_,results_cell_row h a.tmps w g _ _ _ _ hp m Tryz.underlying141 rfl Tryz.size141,j⟩
set_option maxRecDepth 100000 in
def Aji (neg:Bool)(s:Value)(n:Nat)(w:World)(h:C8 w s n)(j:nl n<=100000000000000) :
 Calls prog 192 #[.bool neg,s] w (Ac0 w (Cd neg n)):=by
 have H:=Lib.hid h;obtain⟨a,c,rfl,_,_⟩:=h;have k:(Aa n).length<=100000000000000:=j;by_cases hp:0<(Aa n).length
 ·have f:decide (0<((Aa n).length:Int))=true:=gV;have e:=Df.1 hp;cases neg
  ·go_enter func192,ntmps192
   go_wp2_with fail
   refine bodyPost_ret (v:=.agg #[zL,.slice a (Aa n).length c]) (by simp[results,Tryz.results192,go_sem]) rfl ⟨_,rfl,Ab7 rfl (H.out.ext ((Ext.refl w).alloc _)),(Ext.refl w).alloc _⟩
  go_enter func192,ntmps192
  go_wp2_with fail
  refine bodyPost_ret (v:=.agg #[zT,.slice a (Aa n).length c]) (by simp[results,Tryz.results192,go_sem]) rfl ⟨_,rfl,Ab7 (by simp[e]) (H.out.ext ((Ext.refl w).alloc _)),(Ext.refl w).alloc _⟩
 have f:decide (0<((Aa n).length:Int))=false:=by simp only[decide_eq_false_iff_not];omega
 have e:¬ 0<n:=fun h=>hp (Df.2 h);cases neg
 ·go_enter func192,ntmps192
  go_wp2_with fail
  refine bodyPost_ret (v:=.agg #[zL,.slice a (Aa n).length c]) (by simp[results,Tryz.results192,go_sem]) rfl ⟨_,rfl,Ab7 rfl (H.out.ext ((Ext.refl w).alloc _)),(Ext.refl w).alloc _⟩
 go_enter func192,ntmps192
 go_wp2_with fail
 refine bodyPost_ret (v:=.agg #[zL,.slice a (Aa n).length c]) (by simp[results,Tryz.results192,go_sem]) rfl ⟨_,rfl,Ab7 (by simp[e]) (H.out.ext ((Ext.refl w).alloc _)),(Ext.refl w).alloc _⟩
end
section
variable {g:Nat}{t:TypeId}{w:World}{y z:Int}
def Auo {x y:Value}(h:w.heap[g]?=some (.cells #[x,y] t (0,0))):w.cell? ⟨g,0,none⟩=some x:=by rw[cell_of_row _ _ _ _ _ _ h];rfl
def As2 {x y:Value}(h:w.heap[g]?=some (.cells #[x,y] t (0,0))):w.cell? ⟨g,1,none⟩=some y:=by rw[cell_of_row _ _ _ _ _ _ h];rfl
def Adx (y z:Int):Cd (!(decide (y<0)==decide (z<0))) (y.natAbs*z.natAbs)=y*z:=by
 unfold Cd;have e:((y.natAbs*z.natAbs:Nat):Int)=(y.natAbs:Int)*z.natAbs:=A4d _ _;rw[e];by_cases a:y<0<;>by_cases f:z<0<;>simp[a,f]
 ·rw[show (y.natAbs:Int) = -y by omega,show (z.natAbs:Int) = -z by omega,Int.neg_mul_neg]
 ·rw[show (y.natAbs:Int) = -y by omega,show (z.natAbs:Int)=z by omega,A8u,Ba1]
 ·rw[show (y.natAbs:Int)=y by omega,show (z.natAbs:Int) = -z by omega,A9n,Ba1]
 rw[show (y.natAbs:Int)=y by omega,show (z.natAbs:Int)=z by omega]
def Afl (a:decide (y<0)=decide (z<0)):Cd (decide (y<0)) (y.natAbs+z.natAbs)=y+z:=by
 unfold Cd;by_cases e:y<0<;>by_cases f:z<0<;>simp[e,f]at a⊢<;>omega
def Zx (a:decide (y<0)≠decide (z<0))(h:z.natAbs<=y.natAbs):Cd (decide (y<0)) (y.natAbs-z.natAbs)=y+z:=by
 unfold Cd;by_cases e:y<0<;>by_cases f:z<0<;>simp[e,f]at a⊢<;>omega
def Aag (a:decide (y<0)≠decide (z<0))(h:y.natAbs<z.natAbs):Cd (decide (z<0)) (z.natAbs-y.natAbs)=y+z:=by
 unfold Cd;by_cases e:y<0<;>by_cases f:z<0<;>simp[e,f]at a⊢<;>omega
end
section
variable {y z:Int}
def Adb {y z q r:Int}(h:y=z*q+r)(h0:0<=r)(j:r<z.natAbs):y/z=q/\y%z=r:=by
 have f:z≠0:=by intro e;subst e;simp at j;omega
 have a:y%z=r:=by
  rw[h,Int.add_comm,Int.add_mul_emod_self_left];rcases Bac f with k|k
  ·rw[<-Int.emod_neg];exact Int.emod_eq_of_lt h0 oV
  exact Int.emod_eq_of_lt h0 oV
 refine⟨?_,a⟩;have:=A9q y z;rw[a,h]at this;have g:z*((z*q+r)/z)=z*q:=oV;rw[h];exact A85 f g
def Zp (e:¬ y<0)(j:z≠0):Cd (!(decide (y<0)==decide (z<0))) (y.natAbs/z.natAbs)=y/z/\Cd false (y.natAbs%z.natAbs)=y%z:=by
 have f:=A3h y.natAbs z.natAbs;have g:=A29 y.natAbs (show 0<z.natAbs by omega);generalize y.natAbs/z.natAbs=q at *
 generalize y.natAbs%z.natAbs=r at *
 have a:(z.natAbs:Int)*q+r=y.natAbs:=by rw[<-f];simp
 have:=Adb (y:=y) (z:=z) (q:=Cd (!(decide (y<0)==decide (z<0))) q) (r:=(r:Int)) (by
  unfold Cd;by_cases h:z<0
  ·rw[show (!(decide (y<0)==decide (z<0)))=true by simp[e,h],if_pos rfl,A9n];rw[show (z.natAbs:Int) = -z by omega,A8u]at a;omega
  rw[show (!(decide (y<0)==decide (z<0)))=false by simp[e,h],if_neg mV];rw[show (z.natAbs:Int)=z by omega]at a;omega) oV oV
 exact⟨this.1.symm,by rw[this.2];rfl⟩
def Zm (f:y<0)(j:z≠0)(g:y.natAbs%z.natAbs=0):Cd (!(decide (y<0)==decide (z<0))) (y.natAbs/z.natAbs)=y/z/\Cd false (y.natAbs%z.natAbs)=y%z:=by
 have e:=A3h y.natAbs z.natAbs;rw[g]at e⊢;generalize y.natAbs/z.natAbs=q at *
 have a:(z.natAbs:Int)*q=y.natAbs:=by rw[<-e];simp
 have:=Adb (y:=y) (z:=z) (q:=Cd (!(decide (y<0)==decide (z<0))) q) (r:=0) (by
  unfold Cd;by_cases h:z<0
  ·rw[show (!(decide (y<0)==decide (z<0)))=false by simp[f,h],if_neg mV];rw[show (z.natAbs:Int) = -z by omega,A8u]at a;omega
  rw[show (!(decide (y<0)==decide (z<0)))=true by simp[f,h],if_pos rfl,A9n];rw[show (z.natAbs:Int)=z by omega]at a;omega) oV oV
 exact⟨this.1.symm,by rw[this.2];rfl⟩
def Adq (e:y<0)(k:z≠0)(j:0<y.natAbs%z.natAbs):Cd (!(decide (y<0)==decide (z<0))) (y.natAbs/z.natAbs+1)=y/z/\Cd false (z.natAbs-y.natAbs%z.natAbs)=y%z:=by
 have f:=A3h y.natAbs z.natAbs;have g:=A29 y.natAbs (show 0<z.natAbs by omega);generalize y.natAbs/z.natAbs=q at *
 generalize y.natAbs%z.natAbs=r at *
 have a:(z.natAbs:Int)*q+r=y.natAbs:=by rw[<-f];simp
 have:=Adb (y:=y) (z:=z) (q:=Cd (!(decide (y<0)==decide (z<0))) (q+1)) (r:=((z.natAbs-r:Nat):Int)) (by
  unfold Cd;by_cases h:z<0
  ·rw[show (!(decide (y<0)==decide (z<0)))=false by simp[e,h],if_neg mV];rw[show (z.natAbs:Int) = -z by omega,A8u]at a;rw[Int.natCast_add,Ba2];omega
  rw[show (!(decide (y<0)==decide (z<0)))=true by simp[e,h],if_pos rfl];rw[show (z.natAbs:Int)=z by omega]at a;rw[A9n,Int.natCast_add,Ba2];omega) oV oV
 exact⟨this.1.symm,by rw[this.2];rfl⟩
end
section
variable {n:Int}
def Ag6 (h:n<0)(a:-9223372036854775808<=n):IntKind.u64.wrap (-(IntKind.u64.wrap n))=((n.natAbs:Nat):Int):=by
 have e:∀ n:Int,IntKind.u64.wrap n=n%18446744073709551616:=fun n=>by simp[IntKind.wrap,IntKind.signed,IntKind.bits]
 rw[e,e];omega
def Ahs (h:0<=n)(a:n<=9223372036854775807):IntKind.u64.wrap n=((n.natAbs:Nat):Int):=by
 have e:∀ n:Int,IntKind.u64.wrap n=n%18446744073709551616:=fun n=>by simp[IntKind.wrap,IntKind.signed,IntKind.bits]
 rw[e];omega
end
def Xd (w:World)(v:Value)(q:Rat):Prop :=
 ∃ a n c a' n' c',v=.agg #[.bool (decide (q.num<0)),.slice a n c,zL,.slice a' n' c']/\C8 w (.slice a n c) q.num.natAbs/\C8 w (.slice a' n' c') q.den
def Xd.num {w:World}{b b':Bool}{a f:zP}{n k c g:Nat}{q:Rat}(h:Xd w (.agg #[.bool b,.slice a n c,.bool b',.slice f k g]) q):St w (.agg #[.bool b,.slice a n c]) q.num:=by
 obtain⟨_,_,_,_,_,_,e,j,m⟩:=h;simp only[Value.agg.injEq,A5j,A3g,Value.bool.injEq,Value.slice.injEq,and_true]at e;obtain⟨rfl,⟨rfl,rfl,rfl⟩,rfl,rfl,rfl,rfl⟩:=e;exact⟨_,_,_,rfl,j⟩
def Xd.den {w:World}{b b':Bool}{a e:zP}{n j c f:Nat}{q:Rat}(h:Xd w (.agg #[.bool b,.slice a n c,.bool b',.slice e j f]) q):St w (.agg #[.bool b',.slice e j f]) q.den:=by
 obtain⟨_,_,_,_,_,_,g,m,k⟩:=h;simp only[Value.agg.injEq,A5j,A3g,Value.bool.injEq,Value.slice.injEq,and_true]at g;obtain⟨rfl,⟨rfl,rfl,rfl⟩,rfl,rfl,rfl,rfl⟩:=g;refine⟨_,_,_,?_,by rw[A1s];exact k⟩;rw[show decide (((q.den:Nat):Int)<0)=false by simp only[decide_eq_false_iff_not];omega]
def Tm:nl 1<=1:=by unfold nl;rw[Ez oV oV];simp
def U0 {d:Nat}:(sgn ((d:Int)-1)==0)=decide (d=1):=by
 rcases A4q ((d:Int)-1) 0 with h|h|h
 ·rw[Ep h,decide_eq_false oV];rfl
 ·rw[h,Ra,decide_eq_true oV];rfl
 rw[C5 h,decide_eq_false oV];rfl
set_option maxRecDepth 100000 in
def Ae8 (v:Value)(q:Rat)(w:World)(f:Xd w v q) :
 Calls prog 191 #[v] w (Ac0 w q.num):=by
 have e:=Lib.hid f;obtain⟨a,n,c,g,j,h,rfl,_,_⟩:=f;obtain⟨p,hp⟩:∃ p,p=decide (q.num<0):=⟨_,rfl⟩;rw[<-hp]at e⊢;clear hp
 go_enter func191,ntmps191
 go_wp2_with fail
 refine Ac5 rfl rfl (heap_alloc2_new _ _ _) rfl ⟨_,rfl,e.out.num.ext (((Ext.refl w).alloc _).alloc _),((Ext.refl w).alloc _).alloc _⟩
set_option maxRecDepth 100000 in
def Af6 (v:Value)(q:Rat)(w:World)(f:Xd w v q) :
 Calls prog 189 #[v] w (Ac0 w q.den):=by
 have e:=Lib.hid f;obtain⟨a,n,c,g,j,h,rfl,_,_⟩:=f;obtain⟨p,hp⟩:∃ p,p=decide (q.num<0):=⟨_,rfl⟩;rw[<-hp]at e⊢;clear hp
 go_enter func189,ntmps189
 go_wp2_with fail
 refine Ac5 rfl rfl (heap_alloc2_new _ _ _) rfl ⟨_,rfl,e.out.den.ext (((Ext.refl w).alloc _).alloc _),((Ext.refl w).alloc _).alloc _⟩
section
variable {y z:Int}
theorem Oz (y z:Int):Rat.divInt (-y) (-z)=Rat.divInt y z:=by
 rw[A37,A37,A8k,A8k];by_cases h:(z:Rat)=0
 ·rw[h];simp[A8v]
 have:-(z:Rat)≠0:=by grind
 grind
def Wj (f:0<z)(a:Nat.gcd y.natAbs z.natAbs=1):(Rat.divInt y z).num=y/\(Rat.divInt y z).den=z.natAbs:=by
 have e:(z:Int)=((z.natAbs:Nat):Int):=oV
 rw[e,A75,Rat.mkRat_def,dif_neg oV,Rat.normalize_eq];simp only[A1s,a];simp
def W5 {G:Nat}(f:0<z)(a:G=Nat.gcd y.natAbs z.natAbs):(Rat.divInt y z).num=y/G/\(Rat.divInt y z).den=z.natAbs/G:=by
 have e:(z:Int)=((z.natAbs:Nat):Int):=oV
 rw[e,A75,Rat.mkRat_def,dif_neg oV,Rat.normalize_eq];subst a;constructor<;>simp
end
def Sz (q:Rat)(k:Nat):Prop:=nl q.num.natAbs<=k/\nl q.den<=k
def Amr {q r:Rat}(a:q.den=1)(e:r.den=1):((q.num*r.num:Int):Rat)=q*r:=by
 rw[Rat.mul_def',a,e,A3i,Rat.mkRat_one]
def Ac8 (q r:Rat):Rat.divInt (q.num*r.num) ((q.den:Int)*(r.den:Int))=q*r:=by
 rw[Rat.mul_def',<-A75,A4d]
theorem Abt (q r:Rat):Rat.divInt (q.num*(r.den:Int)) ((q.den:Int)*r.num)=q/r:=by
 rw[A37,A3c,A3c];have f:q=(q.num:Rat)/((q.den:Int):Rat):=by rw[<-A37,A7h]
 have e:r=(r.num:Rat)/((r.den:Int):Rat):=by rw[<-A37,A7h]
 have g:((q.den:Int):Rat)≠0:=by have:=q.den_nz;simp;exact this
 have j:((r.den:Int):Rat)≠0:=by have:=r.den_nz;simp;exact this
 by_cases h:(r.num:Rat)=0
 ·have:r=0:=by rw[e,h];simp[A8v]
  rw[h,this];simp[A8v]
 generalize (q.num:Rat)=a at *
 generalize (r.num:Rat)=b at *
 generalize ((q.den:Int):Rat)=c at *
 generalize ((r.den:Int):Rat)=d at *
 rw[f,e];grind
def Bx {y z:Int}{k:Nat}(a:nl y.natAbs<=k)(e:nl z.natAbs<=k):nl (y*z).natAbs<=2*k:=by
 rw[A26];have:=G7 y.natAbs z.natAbs;omega
def Ams {q r:Rat}(a:q.den=1)(e:r.den=1):((q.num+r.num:Int):Rat)=q+r:=by
 rw[Rat.add_def',a,e,A3i,Rat.mkRat_one];simp
def Rq (q r:Rat):Rat.divInt (q.num*(r.den:Int)+r.num*(q.den:Int)) ((q.den:Int)*(r.den:Int))=q+r:=by
 rw[Rat.add_def',<-A75,A4d]
def Sb {y z:Int}{k:Nat}(a:nl y.natAbs<=k)(e:nl z.natAbs<=k):nl (y+z).natAbs<=k+1:=by
 have:=Asl y.natAbs z.natAbs;have f:nl (y+z).natAbs<=nl (y.natAbs+z.natAbs):=C4 oV;omega
def Yl (q r:Rat):(q.den:Int)*(r.den:Int)≠0:=by
 have a:=q.den_nz;have e:=r.den_nz;exact A8l oV oV
end Go.Proofs.YtemmheaocgmebaaGreatDoor
