/- Parts of one proof, joined by a program. -/
import Derived.Test.YtanfagpabkdmiaaGreatDoorL01
import Derived.Deep.LoopGhost
import Derived.WalkKit
import Derived.Lib.Hide
import Derived.Test.YtanfagpabkdmiaaGreatDoorProg
import Derived.KernelRfl
import Derived.Deep.QuietTactic
import Derived.BigQuiet
import Derived.RegionTactic
import Derived.ChangeAlike
import Derived.Outline
import Derived.Deep.RegionWith
import Derived.Deep.DeepCutAuto
import Derived.Laws.CopyOwn
import Derived.Deep.RegionHeld3
set_option linter.unusedVariables false
set_option linter.unusedSimpArgs false
set_option linter.unusedSectionVars false
set_option maxHeartbeats 16000000
namespace Go.Proofs.YtanfagpabkdmiaaGreatDoor
open Go.Proofs.Tryz
section
variable {B:List (Nat×Blk)}{T:List (Nat×SV)}
variable [Cc] [Dy]
def Ado (d:Nat):List (Nat×SV)→SV
 | []=>.junk
 | (e,x)::l=>cond (Nat.beq d e) x (Ado d l)
def Rd (d:Nat):List (Nat×Blk)→Option Blk
 | []=>none
 | (e,x)::l=>cond (Nat.beq d e) (some x) (Rd d l)
def S.of (n:Nat)(T:List (Nat×SV))(B:List (Nat×Blk)):S:={ n:=n,tm:=fun d=>Ado d T,hp:=fun k=>Rd k B }
def Aia (B:List (Nat×Blk)):SV→Bool
 | .p k _=>B.any fun q=>Nat.beq q.1 k
 | _=>true
def Qm (T:List (Nat×SV))(B:List (Nat×Blk)):Bool:=T.all (fun p=>Aia B p.2) && B.all (fun q=>q.2.cells.all (Aia B))
structure Cov (N:Nat)(s:S)(T:List (Nat×SV))(B:List (Nat×Blk)):Prop where
 n:s.n=N
 t:T.map (fun p=>s.tm p.1)=T.map (·.2)
 b:B.map (fun p=>s.hp p.1)=B.map (fun p=>some p.2)
theorem Ph {d:Nat}{x:SV}:∀ {T:List (Nat×SV)},Ado d T=x→x≠.junk→(d,x)∈T
 | [],h,hx=>absurd h.symm hx
 | (e,y)::l,h,hx=>by
  unfold Ado at h;cases hb:Nat.beq d e with
  | true=>simp [hb] at h; have:=Nat.eq_of_beq_eq_true hb; subst this; subst h; simp
  | false=>simp [hb] at h; exact List.mem_cons_of_mem _ (Ph h hx)
theorem L7 {d:Nat}{x:Blk}:∀ {B:List (Nat×Blk)},Rd d B=some x→(d,x)∈B
 | [],h=>by cases h
 | (e,y)::l,h=>by
  unfold Rd at h;cases hb:Nat.beq d e with
  | true=>simp [hb] at h; have:=Nat.eq_of_beq_eq_true hb; subst this; subst h; simp
  | false=>simp [hb] at h; exact List.mem_cons_of_mem _ (L7 h)
theorem Jz {k:Nat}:∀ {B:List (Nat×Blk)},B.any (fun q=>Nat.beq q.1 k)=true→Rd k B≠none
 | [],h=>by simp at h
 | (e,y)::l,h=>by
  unfold Rd;cases hb:Nat.beq k e with
  | true=>simp
  | false =>
   simp only [cond_false];refine Jz ?_;simp only [List.any_cons,Bool.or_eq_true] at h;rcases h with h | h
   ·have:=Nat.eq_of_beq_eq_true h; subst this; simp at hb
   ·exact h
theorem Ak6 {n:Nat}(h:Qm T B=true):La (S.of n T B):=by
 unfold Qm at h;simp only [Bool.and_eq_true,List.all_eq_true] at h;refine ⟨fun d k off hd=>?_,fun j b k off hj hm=>?_⟩
 ·have:=h.1 _ (Ph hd (by simp));exact Jz this
 ·have:=h.2 _ (L7 hj) _ hm;exact Jz this
theorem Rel.cov {c:Cx}{s:S}{u m:PH}{ρ:Nat→Nat}{a:Act}{w:World}(h:Rel c s u m ρ a w){N:Nat}(hc:Cov N s T B)(hl:Qm T B=true):Rel c (S.of N T B) u m ρ a w:=by
 have ht:∀ d x,(d,x)∈T→s.tm d=x:=by
  intro d x hm;have:=hc.t;rw [List.map_inj_left] at this;exact this _ hm
 have hb:∀ d x,(d,x)∈B→s.hp d=some x:=by
  intro d x hm;have:=hc.b;rw [List.map_inj_left] at this;exact this _ hm
 refine ⟨h.sz.trans hc.n,fun d hd=>?_,h.df,fun k b hk=>h.box k b (hb k b (L7 hk)),fun k j hk hj=>?_,Ak6 hl,h.gd,h.gr⟩
 ·have:=ht d _ (Ph rfl hd);have h2:=h.tm d (by rw [this]; exact hd);rw [this] at h2; exact h2
 ·have h1:∀ k,(S.of N T B).hp k≠none→s.hp k≠none:=by
   intro k hk;cases hq:Rd k B with
   | none=>exact absurd hq hk
   | some b=>rw [hb k b (L7 hq)]; simp
  exact h.inj k j (h1 k hk) (h1 j hj)
def Aka (st:List KI×S):Bool:=match st.1 with | .code (.loop _)::_=>true | _=>false
def Ajb (st:List KI×S)(J:S→PH→PH→Prop)(T:List (Nat×SV))(B:List (Nat×Blk)):List KI×S:=match st.1 with
 | .code (.loop c)::k=>(.code c::.lp J::k,S.of st.2.n T B)
 | _=>st
def Aor:List KI→Option (S→PH→PH→Prop)
 | .lp J::_=>some J
 | _=>none
section rules
variable {P:Program} [Ba P] {fn:Func} {Post:B0} {st:List KI×S} {u m:PH}
theorem G.back {J:S→PH→PH→Prop}(h:Aor (adv P st).1=some J)(hj:J (adv P st).2 u m):G P fn Post st u m:=by
 refine G.stp ?_;generalize adv P st=st' at h hj;obtain ⟨ks,s⟩:=st'
 match ks,h with
 | .lp J'::k,h =>
  simp only [Aor,Option.some.injEq] at h;subst h;exact ⟨fun c ρ a w hm0 hr=>⟨s,u,m,ρ,hr,hj⟩⟩
theorem G.loop {ι:Type}(T:ι→List (Nat×SV))(B:ι→List (Nat×Blk))(Inv:ι→PH→PH→Prop)(μ:ι→Nat)(i0:ι)(h:Aka (adv P st)=true)(hl:∀ i,Qm (T i) (B i)=true)(h0:Cov (adv P st).2.n (adv P st).2 (T i0) (B i0))(hI:Inv i0 u m)
  (hR:∀ (J:S→PH→PH→Prop) (i:ι),(∀ i' s' u' m',Cov (adv P st).2.n s' (T i') (B i')→PH.le u u'→Inv i' u' m'→μ i' < μ i→J s' u' m')→∀ u' m',PH.le u u'→Inv i u' m'→G P fn Post (Ajb (adv P st) J (T i) (B i)) u' m'):G P fn Post st u m:=by
 refine G.stp ?_;generalize adv P st=st' at h h0 hR;obtain ⟨ks,s⟩:=st'
 match ks,h with
 | .code (.loop x)::k,_ =>
  refine ⟨?_⟩;intro c ρ a w hm0 hr;show (Code.loop x).wp P (Hs P fn Post c k) a w;refine wp_loop_ghost (fun n a w=>∃ i u' m' ρ',Rel c (S.of s.n (T i) (B i)) u' m' ρ' a w∧PH.le u u'∧Inv i u' m'∧μ i=n) (μ i0) ⟨i0,u,m,ρ,hr.cov h0 (hl i0),PH.le_refl _,hI,rfl⟩ ?_;rintro n a w ⟨i,u',m',ρ',h1,h2,h3,rfl⟩;have:=(hR (fun s' u' m'=>∃ i',Cov s.n s' (T i') (B i')∧PH.le u u'∧Inv i' u' m'∧μ i' < μ i) i (fun i' s' u' m' k1 k2 k3 k4=>⟨i',k1,k2,k3,k4⟩) u' m' h2 h3).out c ρ' a w hm0 h1;refine wp_mono this fun e a w hq=>?_;cases e with
  | normal =>
   obtain ⟨s',u1,m1,ρ1,r1,i',k1,k2,k3,k4⟩:=hq;exact ⟨_,k4,i',u1,m1,ρ1,r1.cov k1 (hl i'),k2,k3,rfl⟩
  | _=>exact hq
end rules
end
section
variable [Cc]
open Go.RowKit
variable {P : Program} [Ba P] {fn : Func} {Post : B0} {st : List KI × S} {u m : PH}
theorem cv {N : Nat} {s : S} {T : List (Nat × SV)} {B : List (Nat × Blk)} (a : s.n = N := by kernel_rfl) (b : T.map (fun p => s.tm p.1) = T.map (·.2) := by kernel_rfl) (c : B.map (fun p => s.hp p.1) = B.map (fun p => some p.2) := by kernel_rfl) : Cov N s T B := ⟨a, b, c⟩
theorem G.c {f : Nat} {args : List Value} {R : Value → PH → Prop} (hc : ∀ args w, (callFunc f args).run P w = .ok (.enter f args) w) (c : Fn0 P f args u R) (k : ∀ v u', PH.le u u' → R v u' → G P fn Post (nx (adv P st) v) u' m) (h : Al P (adv P st) = .call f args := by kernel_rfl) : G P fn Post st u m := G.call0 f args h hc c k
theorem G.eT (x y : Int) (k : G P fn Post (nx (adv P st) (.bool true)) u m) (h : Al P (adv P st) = .bin .eql (.int .i64 x) (.int .i64 y) := by kernel_rfl) (hb : x = y := by omega) : G P fn Post st u m := G.eqlT x y h hb k
theorem G.eF (x y : Int) (k : G P fn Post (nx (adv P st) (.bool false)) u m) (h : Al P (adv P st) = .bin .eql (.int .i64 x) (.int .i64 y) := by kernel_rfl) (hb : ¬ (x = y) := by omega) : G P fn Post st u m := G.eqlF x y h hb k
theorem G.nT (x y : Int) (k : G P fn Post (nx (adv P st) (.bool true)) u m) (h : Al P (adv P st) = .bin .neq (.int .i64 x) (.int .i64 y) := by kernel_rfl) (hb : x ≠ y := by omega) : G P fn Post st u m := G.neqT x y h hb k
theorem G.nF (x y : Int) (k : G P fn Post (nx (adv P st) (.bool false)) u m) (h : Al P (adv P st) = .bin .neq (.int .i64 x) (.int .i64 y) := by kernel_rfl) (hb : ¬ (x ≠ y) := by omega) : G P fn Post st u m := G.neqF x y h hb k
theorem G.lT (x y : Int) (k : G P fn Post (nx (adv P st) (.bool true)) u m) (h : Al P (adv P st) = .bin .lss (.int .i64 x) (.int .i64 y) := by kernel_rfl) (hb : x < y := by omega) : G P fn Post st u m := G.lssT x y h hb k
theorem G.lF (x y : Int) (k : G P fn Post (nx (adv P st) (.bool false)) u m) (h : Al P (adv P st) = .bin .lss (.int .i64 x) (.int .i64 y) := by kernel_rfl) (hb : ¬ (x < y) := by omega) : G P fn Post st u m := G.lssF x y h hb k
theorem G.kT (x y : Int) (k : G P fn Post (nx (adv P st) (.bool true)) u m) (h : Al P (adv P st) = .bin .leq (.int .i64 x) (.int .i64 y) := by kernel_rfl) (hb : x ≤ y := by omega) : G P fn Post st u m := G.leqT x y h hb k
theorem G.kF (x y : Int) (k : G P fn Post (nx (adv P st) (.bool false)) u m) (h : Al P (adv P st) = .bin .leq (.int .i64 x) (.int .i64 y) := by kernel_rfl) (hb : ¬ (x ≤ y) := by omega) : G P fn Post st u m := G.leqF x y h hb k
theorem G.gT (x y : Int) (k : G P fn Post (nx (adv P st) (.bool true)) u m) (h : Al P (adv P st) = .bin .gtr (.int .i64 x) (.int .i64 y) := by kernel_rfl) (hb : x > y := by omega) : G P fn Post st u m := G.gtrT x y h hb k
theorem G.gF (x y : Int) (k : G P fn Post (nx (adv P st) (.bool false)) u m) (h : Al P (adv P st) = .bin .gtr (.int .i64 x) (.int .i64 y) := by kernel_rfl) (hb : ¬ (x > y) := by omega) : G P fn Post st u m := G.gtrF x y h hb k
theorem G.hT (x y : Int) (k : G P fn Post (nx (adv P st) (.bool true)) u m) (h : Al P (adv P st) = .bin .geq (.int .i64 x) (.int .i64 y) := by kernel_rfl) (hb : x ≥ y := by omega) : G P fn Post st u m := G.geqT x y h hb k
theorem G.hF (x y : Int) (k : G P fn Post (nx (adv P st) (.bool false)) u m) (h : Al P (adv P st) = .bin .geq (.int .i64 x) (.int .i64 y) := by kernel_rfl) (hb : ¬ (x ≥ y) := by omega) : G P fn Post st u m := G.geqF x y h hb k
theorem G.eT' (x y : Int) (hb : x = y) (k : G P fn Post (nx (adv P st) (.bool true)) u m) (h : Al P (adv P st) = .bin .eql (.int .i64 x) (.int .i64 y) := by kernel_rfl) : G P fn Post st u m := G.eqlT x y h hb k
theorem G.eF' (x y : Int) (hb : ¬ (x = y)) (k : G P fn Post (nx (adv P st) (.bool false)) u m) (h : Al P (adv P st) = .bin .eql (.int .i64 x) (.int .i64 y) := by kernel_rfl) : G P fn Post st u m := G.eqlF x y h hb k
theorem G.nT' (x y : Int) (hb : x ≠ y) (k : G P fn Post (nx (adv P st) (.bool true)) u m) (h : Al P (adv P st) = .bin .neq (.int .i64 x) (.int .i64 y) := by kernel_rfl) : G P fn Post st u m := G.neqT x y h hb k
theorem G.nF' (x y : Int) (hb : ¬ (x ≠ y)) (k : G P fn Post (nx (adv P st) (.bool false)) u m) (h : Al P (adv P st) = .bin .neq (.int .i64 x) (.int .i64 y) := by kernel_rfl) : G P fn Post st u m := G.neqF x y h hb k
theorem G.lT' (x y : Int) (hb : x < y) (k : G P fn Post (nx (adv P st) (.bool true)) u m) (h : Al P (adv P st) = .bin .lss (.int .i64 x) (.int .i64 y) := by kernel_rfl) : G P fn Post st u m := G.lssT x y h hb k
theorem G.lF' (x y : Int) (hb : ¬ (x < y)) (k : G P fn Post (nx (adv P st) (.bool false)) u m) (h : Al P (adv P st) = .bin .lss (.int .i64 x) (.int .i64 y) := by kernel_rfl) : G P fn Post st u m := G.lssF x y h hb k
theorem G.kT' (x y : Int) (hb : x ≤ y) (k : G P fn Post (nx (adv P st) (.bool true)) u m) (h : Al P (adv P st) = .bin .leq (.int .i64 x) (.int .i64 y) := by kernel_rfl) : G P fn Post st u m := G.leqT x y h hb k
theorem G.kF' (x y : Int) (hb : ¬ (x ≤ y)) (k : G P fn Post (nx (adv P st) (.bool false)) u m) (h : Al P (adv P st) = .bin .leq (.int .i64 x) (.int .i64 y) := by kernel_rfl) : G P fn Post st u m := G.leqF x y h hb k
theorem G.gT' (x y : Int) (hb : x > y) (k : G P fn Post (nx (adv P st) (.bool true)) u m) (h : Al P (adv P st) = .bin .gtr (.int .i64 x) (.int .i64 y) := by kernel_rfl) : G P fn Post st u m := G.gtrT x y h hb k
theorem G.gF' (x y : Int) (hb : ¬ (x > y)) (k : G P fn Post (nx (adv P st) (.bool false)) u m) (h : Al P (adv P st) = .bin .gtr (.int .i64 x) (.int .i64 y) := by kernel_rfl) : G P fn Post st u m := G.gtrF x y h hb k
theorem G.hT' (x y : Int) (hb : x ≥ y) (k : G P fn Post (nx (adv P st) (.bool true)) u m) (h : Al P (adv P st) = .bin .geq (.int .i64 x) (.int .i64 y) := by kernel_rfl) : G P fn Post st u m := G.geqT x y h hb k
theorem G.hF' (x y : Int) (hb : ¬ (x ≥ y)) (k : G P fn Post (nx (adv P st) (.bool false)) u m) (h : Al P (adv P st) = .bin .geq (.int .i64 x) (.int .i64 y) := by kernel_rfl) : G P fn Post st u m := G.geqF x y h hb k
theorem G.i (i : Nat) (k : G P fn Post (nx (adv P st) (.int .i64 ((i + 1 : Nat) : Int))) u m) (h : Al P (adv P st) = .bin .add (.int .i64 (i : Int)) (.int .i64 1) := by kernel_rfl) (h2 : ((i + 1 : Nat) : Int) ≤ 9223372036854775807 := by omega) : G P fn Post st u m := G.add (i : Int) 1 ((i + 1 : Nat) : Int) h (by omega) (by omega) h2 k
theorem G.p (x y z : Int) (k : G P fn Post (nx (adv P st) (.int .i64 z)) u m) (h : Al P (adv P st) = .bin .add (.int .i64 x) (.int .i64 y) := by kernel_rfl) (hz : x + y = z := by omega) (h1 : -9223372036854775808 ≤ z := by omega) (h2 : z ≤ 9223372036854775807 := by omega) : G P fn Post st u m := G.add x y z h hz h1 h2 k
theorem G.s (x y z : Int) (k : G P fn Post (nx (adv P st) (.int .i64 z)) u m) (h : Al P (adv P st) = .bin .sub (.int .i64 x) (.int .i64 y) := by kernel_rfl) (hz : x - y = z := by omega) (h1 : -9223372036854775808 ≤ z := by omega) (h2 : z ≤ 9223372036854775807 := by omega) : G P fn Post st u m := G.sub x y z h hz h1 h2 k
theorem G.r (v : Value) (hp : Post.post v u m) (h : Anw P fn (adv P st) = some v := by kernel_rfl) : G P fn Post st u m := G.ret v h hp
theorem G.b {J : S → PH → PH → Prop} (hj : J (adv P st).2 u m) (h : Aor (adv P st).1 = some J := by kernel_rfl) : G P fn Post st u m := G.back h hj
theorem G.l {ι : Type} (T : ι → List (Nat × SV)) (B : ι → List (Nat × Blk)) (Inv : ι → PH → PH → Prop) (μ : ι → Nat) (i0 : ι) (hI : Inv i0 u m)
    (hR : ∀ (J : S → PH → PH → Prop) (i : ι), (∀ i' s' u' m', Cov (adv P st).2.n s' (T i') (B i') → PH.le u u' → Inv i' u' m' → μ i' < μ i → J s' u' m') → ∀ u' m', PH.le u u' → Inv i u' m' → G P fn Post (Ajb (adv P st) J (T i) (B i)) u' m') (h : Aka (adv P st) = true := by kernel_rfl) (hl : ∀ i, Qm (T i) (B i) = true := by exact fun _ => by kernel_rfl) (h0 : Cov (adv P st).2.n (adv P st).2 (T i0) (B i0) := by exact cv) : G P fn Post st u m := G.loop T B Inv μ i0 h hl h0 hI hR
theorem Fn0.o {R : Value → PH → Prop} {f : FuncId} {args : List Value} (hf : P.funcs[f]? = some fn) (h : G P fn ⟨fun v u' m' => m' = PH.mt ∧ R v u', PH.mt⟩ (st0 fn args) u PH.mt) (hb : fn.body.isSome = true := by kernel_rfl) (hn : Nat.ble args.length fn.ntmps = true := by kernel_rfl) : Fn0 P f args u R := Fn0.of hf hb hn h
theorem Ai.o {PostV : Value → PH → PH → Prop} {f : FuncId} {args : List Value} (hf : P.funcs[f]? = some fn) (h : G P fn ⟨PostV, m⟩ (st0 fn args) u m) (hb : fn.body.isSome = true := by kernel_rfl) (hn : Nat.ble args.length fn.ntmps = true := by kernel_rfl) : Ai P f args u m PostV := Ai.of hf hb hn h
end
section
variable {l:List Nat}{n:Nat}
def val:List Nat→Nat
 | []=>0
 | d::l=>d+1000000000*val l
def Low (l:List Nat):Prop:=∀ d,d∈l→d < 1000000000
def Aa (n:Nat):List Nat:=if h:n=0 then [] else n % 1000000000::Aa (n / 1000000000)
termination_by n
decreasing_by omega
def nl (n:Nat):Nat:=(Aa n).length
theorem Bd:Aa 0 = []:=by unfold Aa; simp
theorem Ex (h:n≠0):Aa n=n % 1000000000::Aa (n / 1000000000):=by
 rw [Aa]; simp [h]
theorem Aj (n:Nat):val (Aa n)=n:=by
 induction n using Nat.strongRecOn with
 | _ n ih =>
  by_cases h:n=0
  ·subst h; simp [Bd,val]
  ·rw [Ex h]; simp only [val]; rw [ih _ (by omega)]; omega
theorem Am (n:Nat):Low (Aa n):=by
 induction n using Nat.strongRecOn with
 | _ n ih =>
  by_cases h:n=0
  ·subst h; simp [Bd,Low]
  ·rw [Ex h];intro d hd;rcases List.mem_cons.1 hd with rfl | hd
   ·omega
   ·exact ih _ (by omega) d hd
theorem Fh :Aa n = []↔n=0:=by
 constructor
 ·intro h; have:=Aj n; rw [h] at this; simp [val] at this; omega
 ·rintro rfl; exact Bd
theorem Nb (l m:List Nat):val (l++m)=val l+1000000000 ^ l.length*val m:=by
 induction l with
 | nil=>simp [val]
 | cons d l ih =>
  simp only [List.cons_append,val,ih,List.length_cons,Nat.pow_succ];rw [Nat.mul_add,← Nat.mul_assoc,Nat.mul_comm 1000000000 (1000000000 ^ l.length),Nat.add_assoc]
theorem Hp (l:List Nat)(d:Nat):val (l++[d])=val l+1000000000 ^ l.length*d:=by
 rw [Nb]; simp [val]
theorem Low.nil:Low []:=by simp [Low]
theorem Low.cons {d:Nat}(h:d < 1000000000)(hl:Low l):Low (d::l):=by
 intro x hx; rcases List.mem_cons.1 hx with rfl | hx
 ·exact h
 ·exact hl x hx
theorem Low.append {l m:List Nat}(h:Low l)(k:Low m):Low (l++m):=by
 intro x hx; rcases List.mem_append.1 hx with hx | hx
 ·exact h x hx
 ·exact k x hx
theorem Low.take (h:Low l)(k:Nat):Low (l.take k):=fun x hx=>h x (List.mem_of_mem_take hx)
theorem Low.drop (h:Low l)(k:Nat):Low (l.drop k):=fun x hx=>h x (List.mem_of_mem_drop hx)
theorem Low.zeros (k:Nat):Low (List.replicate k 0):=by intro x hx; have:=List.eq_of_mem_replicate hx; omega
theorem Low.getD (h:Low l)(k:Nat):l.getD k 0 < 1000000000:=by
 by_cases hk:k < l.length
 ·rw [List.getD_eq_getElem?_getD,List.getElem?_eq_getElem hk]; exact h _ (List.getElem_mem hk)
 ·rw [List.getD_eq_getElem?_getD,List.getElem?_eq_none (by omega)]; simp
theorem Ip (h:Low l):val l < 1000000000 ^ l.length:=by
 induction l with
 | nil=>simp [val]
 | cons d l ih =>
  have h1:=h d (by simp);have h2:=ih (fun x hx=>h x (by simp [hx]));simp only [val,List.length_cons,Nat.pow_succ];have:val l+1≤1000000000 ^ l.length:=h2;have:=Nat.mul_le_mul_left 1000000000 this;rw [Nat.mul_comm (1000000000 ^ l.length)];omega
theorem Vi (k:Nat):val (List.replicate k 0)=0:=by
 induction k with
 | zero=>rfl
 | succ k ih=>simp [List.replicate_succ,val,ih]
theorem A0 (l:List Nat)(k:Nat):val (l.take (k+1))=val (l.take k)+1000000000 ^ k*l.getD k 0:=by
 by_cases hk:k < l.length
 ·rw [List.take_succ_eq_append_getElem hk,Hp,List.length_take,Nat.min_eq_left (by omega)];simp [hk]
 ·rw [List.take_of_length_le (by omega),List.take_of_length_le (by omega)];have:l[k]?=none:=List.getElem?_eq_none (by omega);simp [this]
def Bj (l:List Nat):Nat→Nat
 | 0=>0
 | n+1=>if l.getD n 0=0 then Bj l n else n+1
theorem I9 (l:List Nat)(n:Nat):Bj l n≤n:=by
 induction n with
 | zero=>simp [Bj]
 | succ n ih=>simp only [Bj]; split <;> omega
theorem Mp (h:n≠0):(Aa n).getD ((Aa n).length - 1) 0≠0:=by
 induction n using Nat.strongRecOn with
 | _ n ih =>
  rw [Ex h];by_cases hd:n / 1000000000=0
  ·rw [hd,Bd]; simp; omega
  ·have h1:=ih _ (by omega) hd;have h2:(Aa (n / 1000000000)).length≠0:=by
    intro e; exact hd (Fh.1 (List.eq_nil_of_length_eq_zero e))
   simp only [List.length_cons,Nat.add_sub_cancel];obtain ⟨m,hm⟩:∃ m,(Aa (n / 1000000000)).length=m+1:=⟨_,(Nat.succ_pred_eq_of_ne_zero h2).symm⟩;rw [hm] at h1 ⊢;simpa using h1
theorem Afp (h:Low l)(hz:l≠[]→l.getD (l.length - 1) 0≠0):Aa (val l)=l:=by
 induction l with
 | nil=>simp [val,Bd]
 | cons d l ih =>
  have h1:=h d (by simp);have hl:Low l:=fun x hx=>h x (by simp [hx]);have hz':l≠[]→l.getD (l.length - 1) 0≠0:=by
   intro hne;have:=hz (by simp);obtain ⟨m,hm⟩:∃ m,l.length=m+1:=⟨l.length - 1,by have:=List.length_pos_iff.2 hne; omega⟩;simp only [List.length_cons,Nat.add_sub_cancel,hm] at this ⊢;simpa using this
  have hne:val (d::l)≠0:=by
   by_cases hnil:l = []
   ·subst hnil;have:=hz (by simp);simp at this;simp [val]; omega
   ·intro e;have e1:=ih hl hz';simp only [val] at e;have:val l=0:=by omega
    rw [this,Bd] at e1;exact hnil e1.symm
  rw [Ex hne];simp only [val];rw [show (d+1000000000*val l) % 1000000000=d by omega,show (d+1000000000*val l) / 1000000000=val l by omega,ih hl hz']
theorem Qv (l:List Nat)(n:Nat):val (l.take (Bj l n))=val (l.take n):=by
 induction n with
 | zero=>simp [Bj]
 | succ n ih =>
  simp only [Bj];split
  ·rename_i h; rw [ih,A0,h]; simp
  ·rfl
theorem Qo (l:List Nat)(n:Nat)(h:Bj l n≠0):l.getD (Bj l n - 1) 0≠0:=by
 induction n with
 | zero=>simp [Bj] at h
 | succ n ih =>
  simp only [Bj] at h ⊢;split
  ·rename_i h0; rw [if_pos h0] at h; exact ih h
  ·rename_i h0; simpa using h0
theorem Hl (h:Low l):Aa (val l)=l.take (Bj l l.length):=by
 have e:val l=val (l.take (Bj l l.length)):=by rw [Qv,List.take_length]
 rw [e];refine Afp (h.take _) (fun hne=>?_);have hle:=I9 l l.length;have h0:Bj l l.length≠0:=by intro e0; rw [e0] at hne; simp at hne
 have:=Qo l l.length h0;rw [List.length_take,Nat.min_eq_left hle];rw [List.getD_eq_getElem?_getD,List.getElem?_take,if_pos (by omega),← List.getD_eq_getElem?_getD];exact this
theorem Qy:nl 0=0:=by simp [nl,Bd]
theorem Cd (n:Nat):n < 1000000000 ^ nl n:=by
 have:=Ip (Am n); rwa [Aj] at this
theorem A4 {n k : Nat} (h : n < 1000000000 ^ k) : nl n ≤ k := by
  induction k generalizing n with
  | zero => have : n = 0 := by simp at h; omega
            subst this; simp [Qy]
  | succ k ih =>
    by_cases h0 : n = 0
    · subst h0; simp [Qy]
    · have : n / 1000000000 < 1000000000 ^ k := by
        rw [Nat.div_lt_iff_lt_mul (by omega)]; rwa [Nat.pow_succ] at h
      have := ih this
      simp only [nl] at this ⊢
      rw [Ex h0]; simp; omega
theorem C6 {m n:Nat}(h:m≤n):nl m≤nl n:=A4 (Nat.lt_of_le_of_lt h (Cd n))
theorem O0 (h:n≠0):1000000000 ^ (nl n - 1)≤n:=by
 rcases Nat.lt_or_ge n (1000000000 ^ (nl n - 1)) with h1 | h1
 ·have:=A4 h1;have h2:nl n≠0:=by
   intro e; exact h (Fh.1 (List.eq_nil_of_length_eq_zero e))
  omega
 ·exact h1
theorem Aie (m n:Nat):nl (m+n)≤max (nl m) (nl n)+1:=by
 refine A4 ?_;have h1:=Cd m;have h2:=Cd n;have h3:1000000000 ^ nl m≤1000000000 ^ max (nl m) (nl n):=Nat.pow_le_pow_right (by omega) (by omega);have h4:1000000000 ^ nl n≤1000000000 ^ max (nl m) (nl n):=Nat.pow_le_pow_right (by omega) (by omega);rw [Nat.pow_succ];omega
theorem Fp (m n:Nat):nl (m*n)≤nl m+nl n:=by
 refine A4 ?_;rw [Nat.pow_add];exact Nat.mul_lt_mul'' (Cd m) (Cd n)
end
section
open Go.RowKit
variable {a:Option Addr}{cs:List Value}{w:World}
def Ext (w w':World):Prop:=Below w.heap.size w w'
theorem Ext.refl (w:World):Ext w w:=Below.refl _ _
theorem Ext.trans {a b c:World}(h:Ext a b)(k:Ext b c):Ext a c:=Below.trans h (Below.mono k h.size)
theorem Ext.alloc {a w:World}(h:Ext a w)(o:Obj):Ext a (w.alloc o):=Below.alloc h h.size o
theorem Ext.drew {a w:World}(h:Ext a w):Ext a w.drew:=Below.drew h
theorem Ext.cell {w w':World}(h:Ext w w'){p:Addr}{v:Value}(hp:w.cell? p=some v):w'.cell? p=some v:=by
 rw [Below.cell h (block_lt_of_cell hp)]; exact hp
theorem Ext.size {w w':World}(h:Ext w w'):w.heap.size≤w'.heap.size:=Below.size h
theorem Ext.setCell {a w:World}(h:Ext a w){p:Addr}(hp:a.heap.size≤p.block)(u:Value):Ext a (w.setCell p u):=Below.setCell h hp u
theorem Ext.grown {a w w':World}{row:Option Nat}(h:Ext a w)(hg:w.grownBy w' row)(hr:∀ k,row=some k→a.heap.size≤k):Ext a w' :=
 Below.grown h hg h.size hr
def Row (w:World)(a:Option Addr)(cs:List Value):Prop :=
 ∀ j,j < cs.length→∃ b off,a=some ⟨b,off,none⟩∧w.cell? ⟨b,off+j,none⟩=some (cs.getD j (.bool false))
theorem Row.ext {w w':World}(h:Row w a cs)(x:Ext w w'):Row w' a cs:=by
 intro j hj;obtain ⟨b,off,h1,h2⟩:=h j hj;exact ⟨b,off,h1,x.cell h2⟩
theorem Row.nil (w:World)(a:Option Addr):Row w a []:=fun j hj=>absurd hj (by simp)
theorem Row.take (h:Row w a cs)(k:Nat):Row w a (cs.take k):=by
 intro j hj;rw [List.length_take] at hj;obtain ⟨b,off,h1,h2⟩:=h j (by omega);refine ⟨b,off,h1,?_⟩;rw [h2,List.getD_eq_getElem?_getD,List.getD_eq_getElem?_getD,List.getElem?_take,if_pos (by omega)]
theorem Row.of_owns {w:World}{base:Nat}{e:TypeId}{size:Nat}{g n cap:Nat}{xs:List Value}
  (h:w.ownsRow base e size (.slice (some ⟨g,0,none⟩) n cap) n xs):Row w (some ⟨g,0,none⟩) xs:=by
 intro j hj;refine ⟨g,0,rfl,?_⟩;rw [h.1] at hj;have:=h.cellAt j hj;rw [Nat.zero_add,this,List.getD_eq_getElem?_getD];have hj':j < xs.length:=by rw [h.1]; exact hj
 rw [List.getElem?_eq_getElem hj']; rfl
def A1 (l:List Nat):List Value:=l.map fun (n:Nat)=>Value.int .u64 (n:Int)
@[simp] theorem Qh (l:List Nat):(A1 l).length=l.length:=by simp [A1]
theorem Row.at {l:List Nat}(h:Row w a (A1 l)){j:Nat}(hj:j < l.length) :
  ∃ b off,a=some ⟨b,off,none⟩∧w.cell? ⟨b,off+j,none⟩=some (.int .u64 (l.getD j 0:Nat)):=by
 obtain ⟨b,off,h1,h2⟩:=h j (by simpa [A1] using hj);exact ⟨b,off,h1,by rw [h2]; simp [A1,hj]⟩
theorem Ss (l:List Nat)(j n:Nat):(A1 l).set j (.int .u64 (n:Int))=A1 (l.set j n):=by simp [A1,List.map_set]
theorem U1 (l:List Nat)(k:Nat):(A1 l).take k=A1 (l.take k):=by simp [A1,List.map_take]
theorem Ab2 (n:Nat):List.replicate n (Value.int .u64 0)=A1 (List.replicate n 0):=by simp [A1]
def Sn (w:World)(v:Value)(l:List Nat):Prop:=∃ a cap,v=.slice a l.length cap∧l.length≤cap∧Row w a (A1 l)
def Ci (w:World)(v:Value)(n:Nat):Prop:=Sn w v (Aa n)
theorem Sn.ext {w w':World}{v:Value}{l:List Nat}(h:Sn w v l)(x:Ext w w'):Sn w' v l:=by
 obtain ⟨a,cap,h1,h2,h3⟩:=h; exact ⟨a,cap,h1,h2,h3.ext x⟩
theorem Ci.ext {w w':World}{v:Value}{n:Nat}(h:Ci w v n)(x:Ext w w'):Ci w' v n:=Sn.ext h x
theorem Ci.zero (w:World)(a:Option Addr)(cap:Nat):Ci w (.slice a 0 cap) 0:=by
 refine ⟨a,cap,by rw [Bd]; rfl,by rw [Bd]; simp,?_⟩;rw [Bd]; simp [A1]; exact Row.nil _ _
end
section
open Go.RowKit
theorem Us {a:Option Addr}{m n c:Nat}(h:m=n):Ending.returned (.slice a m c)=.returned (.slice a n c):=by rw [h]
theorem Al8 {k:IntKind}{a b:Int}(h:a=b):Ending.returned (.int k a)=.returned (.int k b):=by rw [h]
theorem Agq (a:Option Addr)(cap:Nat)(l:List Nat)(w:World)(hlen:l.length≤9223372036854775807)(hcap:l.length≤cap)
  (hc:Row w a (A1 l)) :
  Calls prog 228 #[.slice a l.length cap] w fun e w'=>e=.returned (.slice a (Bj l l.length) cap)∧w=w':=by
 have HC:=Lib.hid hc;clear hc
 go_enter func228,ntmps228
 go_wp2
 go_loop [3] (fun n=>∃ k:Nat,k≤l.length∧n=.int .i64 k∧Bj l l.length=Bj l k) (fun n=>(intOf n).toNat)
 case atStart=>exact ⟨l.length,by omega,rfl,rfl⟩
 case round =>
  obtain ⟨k,hk,rfl,ht⟩:=hrel;have HT:=Lib.hid ht;clear ht;rcases k with _ | k
  ·go_wp2
   go_ret
   exact ⟨Us (by rw [HT.out]; rfl),rfl⟩
  ·obtain ⟨b,off,rfl,h1⟩:=HC.out.at (j:=k) (by omega);obtain ⟨x,hx⟩:∃ x,x=l.getD k 0:=⟨_,rfl⟩;rw [← hx] at h1;have HX:=Lib.hid hx;clear hx;by_cases h0:x=0
   ·subst h0
    go_wp2
    go_round
    case rel=>exact ⟨k,by omega,rfl,by rw [HT.out]; simp only [Bj,← HX.out,if_true]⟩
    case measure=>simp [intOf]
   ·have h2:((x:Int) == 0)=false:=by simp; omega
    go_wp2
    go_ret
    exact ⟨Us (by rw [HT.out]; simp only [Bj,← HX.out,if_neg h0]),rfl⟩
theorem Tk (a:Option Addr)(cap:Nat)(l:List Nat)(i:Int)(w:World)(hlen:l.length≤9223372036854775807)(hi:0≤i)
  (hc:Row w a (A1 l)) :
  Calls prog 267 #[.slice a l.length cap,.int .i64 i] w fun e w'=>e=.returned (.int .u64 (l.getD i.toNat 0:Nat))∧w=w':=by
 obtain ⟨k,rfl⟩:=Int.eq_ofNat_of_zero_le hi;rw [Int.toNat_natCast];have HC:=Lib.hid hc;clear hc;by_cases hk:k < l.length
 ·obtain ⟨b,off,rfl,h1⟩:=HC.out.at (j:=k) hk;obtain ⟨x,hx⟩:∃ x,x=l.getD k 0:=⟨_,rfl⟩;rw [← hx] at h1 ⊢;clear HC hx
  go_enter func267,ntmps267
  go_wp2
  go_ret
  exact ⟨rfl,rfl⟩
 ·have h1:l.getD k 0=0:=by
   have:l[k]?=none:=List.getElem?_eq_none (by omega);simp [this]
  rw [h1];clear HC h1
  go_enter func267,ntmps267
  go_wp2
  go_ret
  exact ⟨rfl,rfl⟩
def sgn (n:Int):Int:=if n < 0 then -1 else if 0 < n then 1 else 0
theorem Aha (n:Int)(w:World) :
  Calls prog 268 #[.int .i64 n] w fun e w'=>e=.returned (.int .i64 (sgn n))∧w=w':=by
 rcases Int.lt_trichotomy n 0 with h | h | h
 ·have h1:sgn n = -1:=by simp [sgn,h]
  rw [h1]; clear h1
  go_enter func268,ntmps268
  go_wp2
  go_ret
  exact ⟨rfl,rfl⟩
 ·subst h
  go_enter func268,ntmps268
  go_wp2
  go_ret
  exact ⟨rfl,rfl⟩
 ·have h1:sgn n=1:=by simp [sgn,h]; omega
  rw [h1]; clear h1;have h2:¬ n < 0:=by omega
  go_enter func268,ntmps268
  go_wp2
  go_ret
  exact ⟨rfl,rfl⟩
theorem Fk (a:Option Addr)(cap n:Nat)(l:List Nat)(w:World)(hn:l.length=n)(hlen:n≤9223372036854775807)(hcap:n≤cap)
  (hc:Row w a (A1 l)) :
  Calls prog 228 #[.slice a n cap] w fun e w'=>e=.returned (.slice a (Bj l l.length) cap)∧w=w':=by
 subst hn; exact Agq a cap l w hlen hcap hc
end
section
variable {a b o ys:List Nat}{c d i k r x y:Nat}
theorem Gy (p t:Nat):p*(t % 1000000000)+p*1000000000*(t / 1000000000)=p*t:=by
 rw [Nat.mul_assoc,← Nat.mul_add,Nat.mod_add_div]
structure I2 (a b:List Nat)(k:Nat)(ys:List Nat)(c:Nat):Prop where
 len:ys.length=k
 low:Low ys
 carry:c≤1
 sum:val ys+1000000000 ^ k*c=val (a.take k)+val (b.take k)
theorem I2.start (a b:List Nat):I2 a b 0 [] 0:=⟨rfl,Low.nil,by omega,by simp [val]⟩
theorem I2.step (h:I2 a b k ys c)(ha:Low a)(hb:Low b)(hx:x=a.getD k 0)(hy:y=b.getD k 0) :
  I2 a b (k+1) (ys++[(x+y+c) % 1000000000]) ((x+y+c) / 1000000000):=by
 have h1:=ha.getD k;have h2:=hb.getD k;have h3:=h.carry;rw [← hx] at h1;rw [← hy] at h2;refine ⟨by simp [h.len],h.low.append (Low.cons (by omega) Low.nil),by omega,?_⟩;rw [Hp,A0,A0,h.len,← hx,← hy,Nat.pow_succ,Nat.add_assoc,Gy];have:=h.sum;rw [Nat.mul_add,Nat.mul_add];omega
theorem I2.done (h:I2 a b (max a.length b.length+1) ys c)(ha:Low a)(hb:Low b):val ys=val a+val b:=by
 have hs:=h.sum;rw [List.take_of_length_le (by omega),List.take_of_length_le (by omega)] at hs;have h1:=Ip ha;have h2:=Ip hb;have h3:1000000000 ^ a.length≤1000000000 ^ max a.length b.length:=Nat.pow_le_pow_right (by omega) (by omega);have h4:1000000000 ^ b.length≤1000000000 ^ max a.length b.length:=Nat.pow_le_pow_right (by omega) (by omega);rw [Nat.pow_succ] at hs;have h5:=Nat.lt_of_lt_of_le h1 h3;have h6:=Nat.lt_of_lt_of_le h2 h4;have hc:=h.carry;clear h1 h2 h3 h4 h;generalize 1000000000 ^ max a.length b.length=p at *
 rcases Nat.eq_zero_or_pos c with h0 | h0
 ·subst h0; rw [Nat.mul_zero,Nat.add_zero] at hs; exact hs
 ·have h1:c=1:=Nat.le_antisymm hc h0;subst h1;rw [Nat.mul_one] at hs;omega
structure It (a b:List Nat)(k:Nat)(ys:List Nat)(c:Nat):Prop where
 len:ys.length=k
 low:Low ys
 carry:c≤1
 sum:val ys+val (b.take k)=val (a.take k)+1000000000 ^ k*c
theorem It.start (a b:List Nat):It a b 0 [] 0:=⟨rfl,Low.nil,by omega,by simp [val]⟩
theorem It.step (h:It a b k ys c)(ha:Low a)(hb:Low b)(hx:x=a.getD k 0)(hy:y=b.getD k 0) :
  It a b (k+1) (ys++[(x+1000000000 - y - c) % 1000000000]) (1 - (x+1000000000 - y - c) / 1000000000):=by
 have h1:=ha.getD k;have h2:=hb.getD k;have h3:=h.carry;rw [← hx] at h1;rw [← hy] at h2;refine ⟨by simp [h.len],h.low.append (Low.cons (by omega) Low.nil),by omega,?_⟩;rw [Hp,A0,A0,h.len,← hx,← hy,Nat.pow_succ];have hs:=h.sum;generalize 1000000000 ^ k=p at *
 obtain ⟨t,ht⟩:∃ t,t=x+1000000000 - y - c:=⟨_,rfl⟩;rw [← ht];have e1:t % 1000000000+y+c=x+1000000000*(1 - t / 1000000000):=by omega
 have e2:p*(t % 1000000000)+p*y+p*c=p*x+p*1000000000*(1 - t / 1000000000):=by
  rw [Nat.mul_assoc,← Nat.mul_add,← Nat.mul_add,← Nat.mul_add,e1]
 omega
theorem It.done (h:It a b a.length ys c)(hb:b.length≤a.length)(hle:val b≤val a):val ys=val a - val b:=by
 have hs:=h.sum;rw [List.take_of_length_le (Nat.le_refl _),List.take_of_length_le hb] at hs;have h1:=Ip h.low;rw [h.len] at h1;rcases Nat.eq_zero_or_pos c with h0 | h0
 ·subst h0; simp at hs; omega
 ·have:1000000000 ^ a.length*1≤1000000000 ^ a.length*c:=Nat.mul_le_mul_left _ h0;omega
theorem E5 (l:List Nat)(k:Nat)(hk:k≤l.length):val l=val (l.take k)+1000000000 ^ k*val (l.drop k):=by
 have:=Nb (l.take k) (l.drop k);rw [List.take_append_drop,List.length_take,Nat.min_eq_left hk] at this;exact this
theorem B2 (l:List Nat)(k:Nat)(hk:k < l.length):l.drop k=l.getD k 0::l.drop (k+1):=by
 rw [List.drop_eq_getElem_cons hk]; simp [hk]
theorem Fq {a b:List Nat}{k:Nat}(hl:a.length=b.length)(hk:k < a.length)(ha:Low a)(hd:a.drop (k+1)=b.drop (k+1))
  (h:a.getD k 0 < b.getD k 0):val a < val b:=by
 rw [E5 a k (by omega),E5 b k (by omega),B2 a k hk,B2 b k (by omega),hd];simp only [val];have h1:=Ip (ha.take k);rw [List.length_take,Nat.min_eq_left (by omega)] at h1;generalize 1000000000 ^ k=p at *
 generalize val (List.drop (k+1) b)=q;have:p*(a.getD k 0+1+1000000000*q)≤p*(b.getD k 0+1000000000*q):=Nat.mul_le_mul_left _ (by omega);have e:p*(a.getD k 0+1+1000000000*q)=p*(a.getD k 0+1000000000*q)+p:=by
  rw [show a.getD k 0+1+1000000000*q=(a.getD k 0+1000000000*q)+1 by omega,Nat.mul_add,Nat.mul_one]
 omega
theorem Il {m n:Nat}(h:nl m < nl n):m < n:=by
 rcases Nat.lt_or_ge m n with h1 | h1
 ·exact h1
 ·have:=C6 h1; omega
structure Ey (a b:List Nat)(i k:Nat)(o:List Nat)(c:Nat):Prop where
 len:o.length=a.length+b.length
 low:Low o
 carry:c < 1000000000
 sum:val o+1000000000 ^ (i+k)*c=val (a.take i)*val b+1000000000 ^ i*(a.getD i 0*val (b.take k))
 high:∀ j,i+b.length≤j→o.getD j 0=0
theorem Adc (l:List Nat)(j d:Nat)(hj:j < l.length):val (l.set j d)+1000000000 ^ j*l.getD j 0=val l+1000000000 ^ j*d:=by
 induction l generalizing j with
 | nil=>simp at hj
 | cons x l ih =>
  cases j with
  | zero=>simp [val]; omega
  | succ j =>
   have:=ih j (by simpa using hj);simp only [List.set_cons_succ,val,List.getD_cons_succ,Nat.pow_succ];have e1:1000000000 ^ j*1000000000*l.getD j 0=1000000000*(1000000000 ^ j*l.getD j 0):=by rw [Nat.mul_comm (1000000000 ^ j),Nat.mul_assoc]
   have e2:1000000000 ^ j*1000000000*d=1000000000*(1000000000 ^ j*d):=by rw [Nat.mul_comm (1000000000 ^ j),Nat.mul_assoc]
   rw [e1,e2];omega
theorem Low.set {l:List Nat}(h:Low l)(j:Nat)(hd:d < 1000000000):Low (l.set j d):=by
 intro x hx;rcases List.mem_or_eq_of_mem_set hx with hx | rfl
 ·exact h x hx
 ·exact hd
theorem Ev (l:List Nat){i j:Nat}(d:Nat)(h:i≠j):(l.set i d).getD j 0=l.getD j 0:=by
 simp [List.getD_eq_getElem?_getD,h]
theorem Ey.start (a b:List Nat):Ey a b 0 0 (List.replicate (a.length+b.length) 0) 0:=by
 refine ⟨by simp,Low.zeros _,by omega,by simp [Vi,val],fun j _=>?_⟩;rw [List.getD_eq_getElem?_getD,List.getElem?_replicate]; split <;> rfl
theorem Ey.step {a b o:List Nat}{i k c x y z t:Nat}(h:Ey a b i k o c)(ha:Low a)(hb:Low b)(hk:k < b.length)(hi:i < a.length)
  (hx:x=a.getD i 0) (hy:y=b.getD k 0) (hz:z=o.getD (i+k) 0) (ht:t=z+x*y+c) :
  Ey a b i (k+1) (o.set (i+k) (t % 1000000000)) (t / 1000000000):=by
 have h1:=ha.getD i;have h2:=hb.getD k;have h3:=h.low.getD (i+k);have h4:=h.carry;rw [← hx] at h1;rw [← hy] at h2;rw [← hz] at h3;have hxy:x*y≤999999999*999999999:=Nat.mul_le_mul (by omega) (by omega);refine ⟨by simp [h.len],h.low.set _ (Nat.mod_lt _ (by omega)),by omega,?_,fun j hj=>?_⟩
 ·have hv:=Adc o (i+k) (t % 1000000000) (by have:=h.len; omega);rw [← hz] at hv;have hs:=h.sum;rw [← hx] at hs;have hr:val (a.take i)*val b+1000000000 ^ i*(x*val (b.take (k+1)))=val o+1000000000 ^ (i+k)*c+1000000000 ^ i*(x*(1000000000 ^ k*y)):=by
   rw [hs,A0,← hy,Nat.mul_add x,Nat.mul_add (1000000000 ^ i),Nat.add_assoc]
  rw [← hx,hr];rw [show i+(k+1)=i+k+1 by omega,Nat.pow_succ];have hc:=Gy (1000000000 ^ (i+k)) t;have e:1000000000 ^ i*(x*(1000000000 ^ k*y))=1000000000 ^ (i+k)*(x*y):=by
   rw [Nat.pow_add,Nat.mul_assoc]; congr 1; rw [← Nat.mul_assoc,Nat.mul_comm x,Nat.mul_assoc]
  rw [e];generalize 1000000000 ^ (i+k)=p at *
  have e2:p*t=p*z+p*(x*y)+p*c:=by rw [ht,Nat.mul_add,Nat.mul_add]
  omega
 ·rw [Ev _ _ (by omega)]; exact h.high j hj
theorem Ey.next (h:Ey a b i b.length o c)(hi:i < a.length) :
  o.getD (i+b.length) 0=0∧Ey a b (i+1) 0 (o.set (i+b.length) c) 0:=by
 have h0:=h.high (i+b.length) (Nat.le_refl _);refine ⟨h0,by simp [h.len],h.low.set _ h.carry,by omega,?_,fun j hj=>?_⟩
 ·have hv:=Adc o (i+b.length) c (by have:=h.len; omega);rw [h0] at hv;have hs:=h.sum;rw [List.take_of_length_le (Nat.le_refl _)] at hs;rw [A0,Nat.add_mul];have e:1000000000 ^ i*a.getD i 0*val b=1000000000 ^ i*(a.getD i 0*val b):=Nat.mul_assoc _ _ _;rw [e,← hs];rw [Nat.mul_zero,Nat.add_zero] at hv;rw [List.take_zero,val,Nat.mul_zero,Nat.mul_zero,Nat.mul_zero,Nat.add_zero,Nat.add_zero];exact hv
 ·rw [Ev _ _ (by omega)]; exact h.high j (by omega)
theorem Ey.done (h:Ey a b a.length 0 o 0):val o=val a*val b:=by
 have hs:=h.sum;rw [List.take_of_length_le (Nat.le_refl _)] at hs;simpa [val] using hs
structure G7 (a:List Nat)(d k:Nat)(o:List Nat)(r:Nat):Prop where
 len:o.length=a.length
 low:Low o
 rest:r < d
 sum:val (a.drop k)=d*val (o.drop k)+r
theorem G7.start (a:List Nat)(d:Nat)(hd:0 < d):G7 a d a.length (List.replicate a.length 0) 0 :=
 ⟨by simp,Low.zeros _,hd,by simp [val]⟩
theorem G7.step (h:G7 a d (k+1) o r)(ha:Low a)(hk:k < a.length)(hx:x=a.getD k 0) :
  G7 a d k (o.set k ((r*1000000000+x) / d)) ((r*1000000000+x) % d):=by
 have hd:0 < d:=Nat.lt_of_le_of_lt (Nat.zero_le _) h.rest;have h1:=ha.getD k;rw [← hx] at h1;have hq:(r*1000000000+x) / d < 1000000000:=by
  rw [Nat.div_lt_iff_lt_mul hd];have:(r+1)*1000000000≤d*1000000000:=Nat.mul_le_mul_right _ h.rest;rw [Nat.mul_comm 1000000000 d];omega
 refine ⟨by simp [h.len],h.low.set _ hq,Nat.mod_lt _ hd,?_⟩;have e1:=B2 a k hk;have e2:=B2 (o.set k ((r*1000000000+x) / d)) k (by simp [h.len,hk]);rw [e1,e2,List.drop_set_of_lt (by omega)];simp only [val,← hx];have e3:(o.set k ((r*1000000000+x) / d)).getD k 0=(r*1000000000+x) / d:=by
  simp [List.getD_eq_getElem?_getD,h.len,hk]
 rw [e3];have hs:=h.sum;have hdm:=Nat.div_add_mod (r*1000000000+x) d;generalize (r*1000000000+x) / d=q at *
 generalize (r*1000000000+x) % d=s at *
 rw [hs,Nat.mul_add,Nat.mul_add,show d*(1000000000*val (List.drop (k+1) o))=1000000000*(d*val (List.drop (k+1) o)) by rw [← Nat.mul_assoc,Nat.mul_comm d,Nat.mul_assoc]];omega
theorem G7.done (h:G7 a d 0 o r):val o=val a / d∧r=val a % d:=by
 have hs:=h.sum;simp only [List.drop_zero] at hs;have hd:0 < d:=Nat.lt_of_le_of_lt (Nat.zero_le _) h.rest;rw [hs];constructor
 ·rw [Nat.mul_add_div hd,Nat.div_eq_of_lt h.rest]; rfl
 ·rw [Nat.mul_add_mod,Nat.mod_eq_of_lt h.rest]
end
section
open Go.RowKit
def Tj (w:World)(n:Nat)(e:Ending)(w':World):Prop:=∃ v,e=.returned v∧Ci w' v n∧Ext w w'
theorem Tryz.info266:(prog.info? 266).map (fun i=>(i.zero,i.size,i.bytes))=some (some (.int .u64 0),1,8):=by kernel_rfl
theorem Jf (n:Nat):(madeCells (Value.int .u64 0).cells (n*1)).toList=A1 (List.replicate n 0):=by
 rw [Nat.mul_one]; exact (toList_madeCells_one _ _).trans (Ab2 n)
theorem C3 {w:World}{a:Option Addr}{l:List Nat}{cap n:Nat}(hl:Low l)(hr:Row w a (A1 l))(hn:val l=n)(hc:l.length≤cap) :
  Ci w (.slice a (Bj l l.length) cap) n:=by
 have h:=Hl hl;rw [hn] at h;have hle:=I9 l l.length;have hlen:(Aa n).length=Bj l l.length:=by rw [h,List.length_take,Nat.min_eq_left hle]
 refine ⟨a,cap,by rw [hlen],by omega,?_⟩;rw [h,← U1]; exact hr.take _
def Anl (w:World)(l m:List Nat)(n:Nat)(c i:Value)(wr:World):Prop :=
 ∃ (k:Nat) (ys:List Nat) (cc:Nat),k≤n∧i=.int .i64 k∧c=.int .u64 (cc:Int)∧I2 l m k ys cc ∧
  wr.ownsRow w.heap.size 266 1 (.slice (some ⟨w.heap.size,0,none⟩) n n) n (A1 (ys++List.replicate (n - k) 0))∧Ext w wr
theorem Vt {w wr:World}{e:TypeId}{n k:Nat}{ys:List Nat}{d:Nat}(hk:k < n)(hl:ys.length=k)
  (h:wr.ownsRow w.heap.size e 1 (.slice (some ⟨w.heap.size,0,none⟩) n n) n (A1 (ys++List.replicate (n - k) 0))) (x:Ext w wr) :
  (wr.setCell ⟨w.heap.size,k,none⟩ (.int .u64 (d:Int))).ownsRow w.heap.size e 1 (.slice (some ⟨w.heap.size,0,none⟩) n n) n (A1 ((ys++[d])++List.replicate (n - (k+1)) 0)) ∧
   Ext w (wr.setCell ⟨w.heap.size,k,none⟩ (.int .u64 (d:Int))):=by
 obtain ⟨h1,h2⟩:=h.stored k (.int .u64 (d:Int));refine ⟨?_,x.setCell (Nat.le_refl _) _⟩;rw [Ss] at h1;have e:(ys++List.replicate (n - k) 0).set k d=(ys++[d])++List.replicate (n - (k+1)) 0:=by
  rw [List.set_append_right _ _ (by omega),hl,Nat.sub_self];obtain ⟨r,hr⟩:∃ r,n - k=r+1:=⟨n - k - 1,by omega⟩;rw [hr,show n - (k+1)=r by omega,List.replicate_succ,List.set_cons_zero,List.append_assoc]; rfl
 rw [e] at h1; exact h1
set_option maxRecDepth 100000 in
theorem Aj0 (a b:Option Addr)(ca cb:Nat)(l m:List Nat)(w:World)(ha:Row w a (A1 l))(hb:Row w b (A1 m))(la:Low l)(lb:Low m)
  (sa:l.length≤10000000000000) (sb:m.length≤10000000000000) :
  Calls prog 222 #[.slice a l.length ca,.slice b m.length cb] w (Tj w (val l+val m)):=by
 obtain ⟨i0,hi,hz0,hz1,hz2⟩:=info_parts Tryz.info266;have HI:=Lib.hid hi;have HZ0:=Lib.hid hz0;have HZ1:=Lib.hid hz1;have HZ2:=Lib.hid hz2;clear hi hz0 hz1 hz2;have HA:=Lib.hid ha;have HB:=Lib.hid hb;have LA:=Lib.hid la;have LB:=Lib.hid lb;clear ha hb la lb;obtain ⟨n,hn⟩:∃ n,n=max l.length m.length+1:=⟨_,rfl⟩;have HN:=Lib.hid hn;have hn1:n≤10000000000001:=by omega
 clear hn;rcases Nat.lt_or_ge l.length m.length with hlm | hlm;all_goals
  go_enter func222,ntmps222
  go_wp2_with (at_make; refine wpList_make_full _ rfl _ _ 112 rfl w.heap.size 266 i0 (.int .u64 0) 1 Tryz.underlying112 HI.out HZ0.out HZ1.out .i64 .i64 _ _ n rfl rfl (by have:=HN.out; omega) (by have:=HN.out; omega) (by rw [HZ2.out]; omega) (by unfold maxLen; omega) (Nat.le_refl _) ?_; intro w1 hown hgrow)
  rw [Jf] at hown;have HO:=Lib.hid hown;have X1:Hid (Ext w w1):=(Ext.refl w).grown hgrow (fun k hk=>by cases hk);clear hown hgrow
  go_loopw [6,18] (Anl w l m n) (fun _ i _=>n - (intOf i).toNat)
  case atStart=>exact ⟨0,[],0,Nat.zero_le _,rfl,rfl,I2.start _ _,by simpa using HO.out,X1.out⟩
  case round =>
   obtain ⟨k,ys,cc,hk,rfl,rfl,hst,hown,hx⟩:=hrel;have HS:=Lib.hid hst;have HW:=Lib.hid hown;have HX:=Lib.hid hx;have hc1:=hst.carry;clear hst hown hx HO X1;by_cases hlt:k < n
   ·obtain ⟨x,hx⟩:∃ x,x=l.getD k 0:=⟨_,rfl⟩;obtain ⟨y,hy⟩:∃ y,y=m.getD k 0:=⟨_,rfl⟩;have hx1:x < 1000000000:=by rw [hx]; exact LA.out.getD k
    have hy1:y < 1000000000:=by rw [hy]; exact LB.out.getD k
    have XX:=Lib.hid hx;have YY:=Lib.hid hy;clear hx hy;have hf:=HW.out.frozenAt k;have hce:∃ u,wr.cell? ⟨w.heap.size,k,none⟩=some u:=by
     obtain ⟨b,off,h1,h2⟩:=Row.of_owns HW.out k (by simp [HS.out.len]; omega);simp only [Option.some.injEq,Addr.mk.injEq,and_true] at h1;obtain ⟨rfl,rfl⟩:=h1;rw [Nat.zero_add] at h2;exact ⟨_,h2⟩
    obtain ⟨u,hce⟩:=hce
    go_wp2_with fail
    refine (Tk _ _ _ _ _ (by omega) (by omega) (HA.out.ext HX.out)).mono ?_;rw [Int.toNat_natCast,← XX.out];rintro e w' ⟨rfl,rfl⟩
    go_wp2_with fail
    refine (Tk _ _ _ _ _ (by omega) (by omega) (HB.out.ext HX.out)).mono ?_;rw [Int.toNat_natCast,← YY.out];rintro e w' ⟨rfl,rfl⟩
    go_wp2
    rw [show ((x:Int)+y+cc) % 1000000000=(((x+y+cc) % 1000000000:Nat):Int) by omega,show ((x:Int)+y+cc) / 1000000000=(((x+y+cc) / 1000000000:Nat):Int) by omega];have hs:=HS.out.step LA.out LB.out XX.out YY.out;have hfill:=Vt (d:=(x+y+cc) % 1000000000) hlt HS.out.len HW.out HX.out;exact ⟨⟨k+1,_,_,by omega,by go_num,rfl,hs,hfill.1,hfill.2⟩,by simp only [intOf]; omega⟩
   ·obtain rfl:k=n:=by omega
    have hlen:=HS.out.len;have hown:=HW.out;rw [Nat.sub_self,List.replicate_zero,List.append_nil] at hown;have hrow:=Lib.hid (Row.of_owns hown);have hnat:=Lib.hid (C3 (cap:=k) (n:=val l+val m) HS.out.low hrow.out (by have h:=HS.out; rw [HN.out] at h; exact h.done LA.out LB.out) (by omega));have HL:=Lib.hid hlen;clear hown hlen
    go_wp2_with fail
    ((with_reducible refine (Fk _ _ _ ys _ HL.out (by omega) (by omega) hrow.out).mono ?_); rintro e w' ⟨rfl,rfl⟩)
    go_wp2
    go_ret
    exact ⟨_,rfl,hnat.out,HX.out⟩
theorem Acx (va vb:Value)(m n:Nat)(w:World)(ha:Ci w va m)(hb:Ci w vb n)(sa:nl m≤10000000000000)(sb:nl n≤10000000000000) :
  Calls prog 222 #[va,vb] w (Tj w (m+n)):=by
 obtain ⟨a,ca,rfl,_,ra⟩:=ha;obtain ⟨b,cb,rfl,_,rb⟩:=hb;have:=Aj0 a b ca cb (Aa m) (Aa n) w ra rb (Am _) (Am _) sa sb;rw [Aj,Aj] at this;exact this
end
section
open Go.RowKit
variable {n:Int}{v:Value}{w:World}
theorem Ext.drewN {a w:World}(h:Ext a w)(n:Nat):Ext a (w.drewN n):=by
 obtain ⟨h1,h2,h3,h4,h5⟩:=h;exact ⟨h1,h2,h3,h4,h5⟩
theorem Row.drewN {w:World}{a:Option Addr}{cs:List Value}(h:Row w a cs)(n:Nat):Row (w.drewN n) a cs:=h.ext ((Ext.refl w).drewN n)
theorem Mm {base:Nat}{e:TypeId}{size:Nat}{n:Nat}{xs:List Value}(h:w.ownsRow base e size v n xs)(k:Nat):(w.drewN k).ownsRow base e size v n xs:=h
def Aob (w:World)(l m:List Nat)(n:Nat)(c i:Value)(wr:World):Prop :=
 ∃ (k:Nat) (ys:List Nat) (cc:Nat),k≤n∧i=.int .i64 k∧c=.int .u64 (cc:Int)∧It l m k ys cc ∧
  wr.ownsRow w.heap.size 266 1 (.slice (some ⟨w.heap.size,0,none⟩) n n) n (A1 (ys++List.replicate (n - k) 0))∧Ext w wr
set_option maxRecDepth 100000 in
theorem Aib (a b:Option Addr)(ca cb:Nat)(l m:List Nat)(w:World)(ha:Row w a (A1 l))(hb:Row w b (A1 m))(la:Low l)(lb:Low m)
  (sa:l.length≤10000000000000) (sb:m.length≤l.length) (hle:val m≤val l) :
  Calls prog 224 #[.slice a l.length ca,.slice b m.length cb] w (Tj w (val l - val m)):=by
 obtain ⟨i0,hi,hz0,hz1,hz2⟩:=info_parts Tryz.info266;have HI:=Lib.hid hi;have HZ0:=Lib.hid hz0;have HZ1:=Lib.hid hz1;have HZ2:=Lib.hid hz2;clear hi hz0 hz1 hz2;have HA:=Lib.hid ha;have HB:=Lib.hid hb;have LA:=Lib.hid la;have LB:=Lib.hid lb;have LE:=Lib.hid hle;clear ha hb la lb hle;obtain ⟨n,hn⟩:∃ n,n=l.length:=⟨_,rfl⟩;have HN:=Lib.hid hn;have hn1:n≤10000000000001:=by omega
 clear hn
 go_enter func224,ntmps224
 go_wp2_with (at_make; refine wpList_make_full _ rfl _ _ 112 rfl w.heap.size 266 i0 (.int .u64 0) 1 Tryz.underlying112 HI.out HZ0.out HZ1.out .i64 .i64 _ _ n rfl rfl (by have:=HN.out; omega) (by have:=HN.out; omega) (by rw [HZ2.out]; omega) (by unfold maxLen; omega) (Nat.le_refl _) ?_; intro w1 hown hgrow)
 rw [Jf] at hown;have HO:=Lib.hid hown;have X1:Hid (Ext w w1):=(Ext.refl w).grown hgrow (fun k hk=>by cases hk);clear hown hgrow
 go_loopw [6,14] (Aob w l m n) (fun _ i _=>n - (intOf i).toNat)
 case atStart=>exact ⟨0,[],0,Nat.zero_le _,rfl,rfl,It.start _ _,by simpa using HO.out,X1.out⟩
 case round =>
  obtain ⟨k,ys,cc,hk,rfl,rfl,hst,hown,hx⟩:=hrel;have HS:=Lib.hid hst;have HW:=Lib.hid hown;have HX:=Lib.hid hx;have hc1:=hst.carry;clear hst hown hx HO X1;by_cases hlt:k < l.length
  ·have hkn:k < n:=by rw [HN.out]; exact hlt
   obtain ⟨x,hx⟩:∃ x,x=l.getD k 0:=⟨_,rfl⟩;obtain ⟨y,hy⟩:∃ y,y=m.getD k 0:=⟨_,rfl⟩;have hx1:x < 1000000000:=by rw [hx]; exact LA.out.getD k
   have hy1:y < 1000000000:=by rw [hy]; exact LB.out.getD k
   obtain ⟨ba,offa,rfl,hca⟩:=(HA.out.ext HX.out).at hlt;rw [← hx] at hca;have hat:∀ q,Calls prog 267 #[.slice b m.length cb,.int .i64 k] (wr.drewN q) fun e w'=>e=.returned (.int .u64 (y:Int))∧w'=wr.drewN q:=fun q=>by
    have:=Tk b cb m k (wr.drewN q) (by omega) (by omega) ((HB.out.ext HX.out).drewN q);rw [Int.toNat_natCast,← hy] at this; exact this.mono fun _ _ h=>⟨h.1,h.2.symm⟩
   have HAT:=Lib.hid hat;have XX:=Lib.hid hx;have YY:=Lib.hid hy;clear hx hy hat;have hf:=HW.out.frozenAt k;have hce:∃ u,wr.cell? ⟨w.heap.size,k,none⟩=some u:=by
    obtain ⟨b,off,h1,h2⟩:=Row.of_owns HW.out k (by simp [HS.out.len]; omega);simp only [Option.some.injEq,Addr.mk.injEq,and_true] at h1;obtain ⟨rfl,rfl⟩:=h1;rw [Nat.zero_add] at h2;exact ⟨_,h2⟩
   obtain ⟨u,hce⟩:=hce
   go_wp2_with fail
   go_quiet ((go_at_call 267; exact Calls.quiet_of_same (HAT.out _)))
   go_wp2
   rw [show ((x:Int)+1000000000 - y - cc) % 1000000000=(((x+1000000000 - y - cc) % 1000000000:Nat):Int) by omega,show 1 - ((x:Int)+1000000000 - y - cc) / 1000000000=((1 - (x+1000000000 - y - cc) / 1000000000:Nat):Int) by omega];have hs:=HS.out.step LA.out LB.out XX.out YY.out;have hfill:=Vt (d:=(x+1000000000 - y - cc) % 1000000000) hkn HS.out.len (Mm HW.out nq) (HX.out.drewN nq);exact ⟨⟨k+1,_,_,by omega,by go_num,rfl,hs,hfill.1,hfill.2⟩,by simp only [intOf]; omega⟩
  ·obtain rfl:k=n:=by have:=HN.out; omega
   have hlen:=HS.out.len;have hown:=HW.out;rw [Nat.sub_self,List.replicate_zero,List.append_nil] at hown;have hrow:=Lib.hid (Row.of_owns hown);have hnat:=Lib.hid (C3 (cap:=k) (n:=val l - val m) HS.out.low hrow.out (by have h:=HS.out; rw [HN.out] at h; exact h.done sb LE.out) (by omega));have HL:=Lib.hid hlen;clear hown hlen
   go_wp2_with fail
   ((with_reducible refine (Fk _ _ _ ys _ HL.out (by omega) (by omega) hrow.out).mono ?_); rintro e w' ⟨rfl,rfl⟩)
   go_wp2
   go_ret
   exact ⟨_,rfl,hnat.out,HX.out⟩
theorem Acl (va vb:Value)(m n:Nat)(w:World)(ha:Ci w va m)(hb:Ci w vb n)(sa:nl m≤10000000000000)(hle:n≤m) :
  Calls prog 224 #[va,vb] w (Tj w (m - n)):=by
 obtain ⟨a,ca,rfl,_,ra⟩:=ha;obtain ⟨b,cb,rfl,_,rb⟩:=hb;have:=Aib a b ca cb (Aa m) (Aa n) w ra rb (Am _) (Am _) sa (C6 hle) (by rw [Aj,Aj]; exact hle);rw [Aj,Aj] at this;exact this
def Aou (w:World)(l m:List Nat)(i:Value)(wr:World):Prop :=
 ∃ k:Nat,k≤l.length∧i=.int .i64 ((k:Int) - 1)∧l.drop k=m.drop k∧∃ q,wr=w.drewN q
theorem B9 (h:0 < n):sgn n=1:=by unfold sgn; rw [if_neg (by omega),if_pos h]
theorem C0 (h:n < 0):sgn n = -1:=by unfold sgn; rw [if_pos h]
theorem Ny:sgn 0=0:=by simp [sgn]
def Np (w:World)(v:Value)(e:Ending)(w':World):Prop:=e=.returned v∧∃ q,w'=w.drewN q
theorem Np.ext {e:Ending}{w':World}(h:Np w v e w'):e=.returned v∧Ext w w':=by
 obtain ⟨h1,q,rfl⟩:=h; exact ⟨h1,(Ext.refl w).drewN q⟩
set_option maxRecDepth 100000 in
theorem Wz (a b:Option Addr)(ca cb:Nat)(l m:List Nat)(w:World)(ha:Row w a (A1 l))(hb:Row w b (A1 m))(la:Low l)(lb:Low m)
  (sa:l.length≤10000000000000) (sb:m.length=l.length) :
  Calls prog 223 #[.slice a l.length ca,.slice b l.length cb] w (Np w (.int .i64 (sgn ((val l:Int) - val m)))):=by
 have HA:=Lib.hid ha;have HB:=Lib.hid hb;have LA:=Lib.hid la;have LB:=Lib.hid lb;have SB:=Lib.hid sb;clear ha hb la lb sb
 go_enter func223,ntmps223
 go_wp2_with fail
 go_loopw [5] (Aou w l m) (fun i _=>(intOf i+1).toNat)
 case atStart=>exact ⟨l.length,by omega,rfl,by rw [List.drop_of_length_le (Nat.le_refl _),List.drop_of_length_le (by rw [SB.out]; exact Nat.le_refl _)],0,rfl⟩
 case round =>
  obtain ⟨k,hk,rfl,hd,q,rfl⟩:=hrel;have HD:=Lib.hid hd;clear hd;rcases k with _ | k
  ·go_wp2_with fail
   have h0:(val l:Int) - val m=0:=by have:=HD.out; simp only [List.drop_zero] at this; rw [this]; omega
   go_ret
   refine ⟨?_,q,rfl⟩;rw [h0,Ny]; rfl
  ·rw [show ((k+1:Nat):Int) - 1=k by omega];have hkl:k < l.length:=by omega
   obtain ⟨ba,offa,rfl,hca⟩:=HA.out.at hkl;obtain ⟨bb,offb,rfl,hcb⟩:=HB.out.at (j:=k) (by rw [SB.out]; exact hkl);obtain ⟨x,hx⟩:∃ x,x=l.getD k 0:=⟨_,rfl⟩;obtain ⟨y,hy⟩:∃ y,y=m.getD k 0:=⟨_,rfl⟩;rw [← hx] at hca;rw [← hy] at hcb;have XX:=Lib.hid hx;have YY:=Lib.hid hy;clear hx hy;rcases Nat.lt_trichotomy x y with hlt | heq | hgt
   ·go_wp2_with fail
    go_quiet (fail)
    go_wp2_with fail
    have h0:(val l:Int) - val m < 0:=by
     have:=Fq SB.out.symm hkl LA.out HD.out (by rw [← XX.out,← YY.out]; exact hlt);omega
    go_ret
    refine ⟨?_,_,World.drewN_drewN _ _ _⟩;rw [C0 h0]; rfl
   ·subst heq
    go_wp2_with fail
    go_quiet (fail)
    go_wp2_with fail
    go_quiet (fail)
    go_wp2_with fail
    refine ⟨⟨k,by omega,by go_num,?_,_,rfl⟩,by simp only [intOf]; omega⟩;rw [B2 l k hkl,B2 m k (by rw [SB.out]; exact hkl),HD.out,← XX.out,← YY.out]
   ·have hnlt:¬ x < y:=by omega
    go_wp2_with fail
    go_quiet (fail)
    go_wp2_with fail
    go_quiet (fail)
    go_wp2_with fail
    have h0:0 < (val l:Int) - val m:=by
     have:=Fq SB.out (by rw [SB.out]; exact hkl) LB.out HD.out.symm (by rw [← XX.out,← YY.out]; exact hgt);omega
    go_ret
    refine ⟨?_,_,by rw [World.drewN_drewN,World.drewN_drewN]⟩;rw [B9 h0]; rfl
set_option maxRecDepth 100000 in
theorem Aa1 (a b:Option Addr)(ca cb m n:Nat)(w:World)(sa:m≤10000000000000)(sb:n≤10000000000000)(hne:m≠n) :
  Calls prog 223 #[.slice a m ca,.slice b n cb] w (Np w (.int .i64 (sgn ((m:Int) - n)))):=by
 have h1:((m:Int) != n)=true:=by rw [bne_iff_ne]; omega
 clear hne
 go_enter func223,ntmps223
 go_wp2_with fail
 refine (Aha _ _).mono ?_;rintro e w' ⟨rfl,rfl⟩
 go_wp2_with fail
 go_ret
 exact ⟨rfl,0,rfl⟩
theorem Af0 {a b c d:Nat}(h1:a < b↔c < d)(h2:b < a↔d < c):sgn ((a:Int) - b)=sgn ((c:Int) - d):=by
 rcases Nat.lt_trichotomy a b with h | h | h
 ·have:=h1.1 h;rw [C0 (by omega),C0 (by omega)]
 ·have h3:¬ c < d:=fun h'=>by have:=h1.2 h'; omega
  have h4:¬ d < c:=fun h'=>by have:=h2.2 h'; omega
  rw [show (a:Int) - b=0 by omega,show (c:Int) - d=0 by omega]
 ·have:=h2.1 h;rw [B9 (by omega),B9 (by omega)]
theorem Fa (va vb:Value)(m n:Nat)(w:World)(ha:Ci w va m)(hb:Ci w vb n)(sa:nl m≤10000000000000)(sb:nl n≤10000000000000) :
  Calls prog 223 #[va,vb] w (Np w (.int .i64 (sgn ((m:Int) - n)))):=by
 obtain ⟨a,ca,rfl,_,ra⟩:=ha;obtain ⟨b,cb,rfl,_,rb⟩:=hb;by_cases h:(Aa n).length=(Aa m).length
 ·have:=Wz a b ca cb (Aa m) (Aa n) w ra rb (Am _) (Am _) sa h;rw [Aj,Aj] at this;rw [h]; exact this
 ·have:=Aa1 a b ca cb (Aa m).length (Aa n).length w sa sb (fun e=>h e.symm);rw [Af0 (a:=(Aa m).length) (b:=(Aa n).length) (c:=m) (d:=n)] at this
  ·exact this
  ·constructor
   ·exact fun h'=>Il h'
   ·intro h'; have:=C6 (Nat.le_of_lt h'); unfold nl at this; omega
  ·constructor
   ·exact fun h'=>Il h'
   ·intro h'; have:=C6 (Nat.le_of_lt h'); unfold nl at this; omega
end
section
open Go.RowKit
variable {e:TypeId}{n:Nat}{o:List Nat}{w wr:World}
def Ao0 (w:World)(l m:List Nat)(n:Nat)(i:Value)(wr:World):Prop :=
 ∃ (k:Nat) (o:List Nat),k≤l.length∧i=.int .i64 k∧Ey l m k 0 o 0 ∧
  wr.ownsRow w.heap.size 266 1 (.slice (some ⟨w.heap.size,0,none⟩) n n) n (A1 o)∧Ext w wr
def Akq (w:World)(l m:List Nat)(n j:Nat)(c i:Value)(wr:World):Prop :=
 ∃ (k:Nat) (o:List Nat) (cc:Nat),k≤m.length∧i=.int .i64 k∧c=.int .u64 (cc:Int)∧Ey l m j k o cc ∧
  wr.ownsRow w.heap.size 266 1 (.slice (some ⟨w.heap.size,0,none⟩) n n) n (A1 o)∧Ext w wr
theorem Mv {n j:Nat}(h:wr.ownsRow w.heap.size e 1 (.slice (some ⟨w.heap.size,0,none⟩) n n) n (A1 o))(hj:j < o.length) :
  wr.cell? ⟨w.heap.size,j,none⟩=some (.int .u64 (o.getD j 0:Nat)):=by
 obtain ⟨b,off,h1,h2⟩:=(Row.of_owns h).at hj;simp only [Option.some.injEq,Addr.mk.injEq,and_true] at h1;obtain ⟨rfl,rfl⟩:=h1;rw [Nat.zero_add] at h2;exact h2
theorem Pg (j d:Nat)(h:wr.ownsRow w.heap.size e 1 (.slice (some ⟨w.heap.size,0,none⟩) n n) n (A1 o))(x:Ext w wr) :
  (wr.setCell ⟨w.heap.size,j,none⟩ (.int .u64 (d:Int))).ownsRow w.heap.size e 1 (.slice (some ⟨w.heap.size,0,none⟩) n n) n (A1 (o.set j d)) ∧
   Ext w (wr.setCell ⟨w.heap.size,j,none⟩ (.int .u64 (d:Int))):=by
 refine ⟨?_,x.setCell (Nat.le_refl _) _⟩;have:=(h.stored j (.int .u64 (d:Int))).1;rw [Ss] at this; exact this
def Yk (w:World)(n:Nat)(e:Ending)(w':World):Prop:=∃ k cap,e=.returned (.slice (some ⟨w.heap.size,0,none⟩) k cap)∧Ci w' (.slice (some ⟨w.heap.size,0,none⟩) k cap) n∧Ext w w'
set_option maxRecDepth 100000 in
theorem Ahd (a b:Option Addr)(ca cb:Nat)(l m:List Nat)(w:World)(ha:Row w a (A1 l))(hb:Row w b (A1 m))(la:Low l)(lb:Low m)
  (sa:l.length≤10000000000000) (sb:m.length≤10000000000000) :
  Calls prog 198 #[.slice a l.length ca,.slice b m.length cb] w (Yk w (val l*val m)):=by
 obtain ⟨i0,hi,hz0,hz1,hz2⟩:=info_parts Tryz.info266;have HI:=Lib.hid hi;have HZ0:=Lib.hid hz0;have HZ1:=Lib.hid hz1;have HZ2:=Lib.hid hz2;clear hi hz0 hz1 hz2;have HA:=Lib.hid ha;have HB:=Lib.hid hb;have LA:=Lib.hid la;have LB:=Lib.hid lb;clear ha hb la lb;obtain ⟨n,hn⟩:∃ n,n=l.length+m.length:=⟨_,rfl⟩;have HN:=Lib.hid hn;have hn1:n≤20000000000001:=by omega
 have hn2:l.length+m.length≤n:=by omega
 clear hn
 go_enter func198,ntmps198
 go_wp2_with (at_make; refine wpList_make_full _ rfl _ _ 112 rfl w.heap.size 266 i0 (.int .u64 0) 1 Tryz.underlying112 HI.out HZ0.out HZ1.out .i64 .i64 _ _ n rfl rfl (by have:=HN.out; omega) (by have:=HN.out; omega) (by rw [HZ2.out]; omega) (by unfold maxLen; omega) (Nat.le_refl _) ?_; intro w1 hown hgrow)
 rw [Jf] at hown;have HO:=Lib.hid hown;have X1:Hid (Ext w w1):=(Ext.refl w).grown hgrow (fun k hk=>by cases hk);clear hown hgrow
 go_loopw [20] (Ao0 w l m n) (fun i _=>l.length - (intOf i).toNat)
 case atStart=>exact ⟨0,_,Nat.zero_le _,rfl,Ey.start _ _,by rw [← HN.out]; exact HO.out,X1.out⟩
 case round =>
  obtain ⟨j,o,hk,rfl,hst,hown,hx⟩:=hrel;have HS:=Lib.hid hst;have HW:=Lib.hid hown;have HX:=Lib.hid hx;clear hst hown hx HO X1;by_cases hlt:j < l.length
  ·obtain ⟨x,hx⟩:∃ x,x=l.getD j 0:=⟨_,rfl⟩;have hx1:x < 1000000000:=by rw [hx]; exact LA.out.getD j
   obtain ⟨ba,offa,rfl,hca⟩:=(HA.out.ext HX.out).at hlt;rw [← hx] at hca;have XX:=Lib.hid hx;clear hx
   go_wp2_with fail
   obtain ⟨wo,hwo⟩:∃ wo:World,wo=wr:=⟨_,rfl⟩;subst hwo
   go_loopw [8,27] (Akq w l m n j) (fun _ i _=>m.length - (intOf i).toNat)
   case atStart=>exact ⟨0,_,0,Nat.zero_le _,rfl,rfl,HS.out,HW.out,HX.out⟩
   case round =>
    obtain ⟨k,o2,cc,hk2,rfl,rfl,hst2,hown2,hx2⟩:=hrel;have HS2:=Lib.hid hst2;have HW2:=Lib.hid hown2;have HX2:=Lib.hid hx2;have hcc:=hst2.carry;have hl2:=hst2.len;have hlow2:=Lib.hid hst2.low;have hlo2:n≤o2.length:=by have:=HN.out; omega
    clear hst2 hown2 hx2 HS HW HX hca hl2;by_cases hlt2:k < m.length
    ·obtain ⟨y,hy⟩:∃ y,y=m.getD k 0:=⟨_,rfl⟩;have hy1:y < 1000000000:=by rw [hy]; exact LB.out.getD k
     obtain ⟨bb,offb,rfl,hcb⟩:=(HB.out.ext HX2.out).at hlt2;rw [← hy] at hcb;obtain ⟨z,hz⟩:∃ z,z=o2.getD (j+k) 0:=⟨_,rfl⟩;have hz1:z < 1000000000:=by rw [hz]; exact hlow2.out.getD _
     have hcz:=Mv HW2.out (j:=j+k) (by omega);have hfz:=HW2.out.frozenAt (j+k);rw [← hz] at hcz;have YY:=Lib.hid hy;have ZZ:=Lib.hid hz;clear hy hz;obtain ⟨p,hp⟩:∃ p,p=x*y:=⟨_,rfl⟩;have hp1:p≤999999999*999999999:=by rw [hp]; exact Nat.mul_le_mul (by omega) (by omega)
     have hp2:((x:Int)*y)=p:=by rw [hp]; exact (Int.natCast_mul _ _).symm
     have PP:=Lib.hid hp;clear hp
     go_wp2_with fail
     rw [show ((z:Int)+p+cc) % 1000000000=(((z+x*y+cc) % 1000000000:Nat):Int) by rw [← PP.out]; omega,show ((z:Int)+p+cc) / 1000000000=(((z+x*y+cc) / 1000000000:Nat):Int) by rw [← PP.out]; omega];have hs:=HS2.out.step LA.out LB.out hlt2 hlt XX.out YY.out ZZ.out rfl;have hset:=Pg (j+k) ((z+x*y+cc) % 1000000000) HW2.out HX2.out;exact ⟨⟨k+1,_,_,by omega,by go_num,rfl,hs,hset.1,hset.2⟩,by simp only [intOf]; omega⟩
    ·obtain rfl:k=m.length:=by omega
     obtain ⟨h0,hnext⟩:=HS2.out.next hlt;have hcz:=Mv HW2.out (j:=j+m.length) (by omega);rw [h0] at hcz;have hfz:=HW2.out.frozenAt (j+m.length);have HNX:=Lib.hid hnext;clear h0 hnext
     go_wp2_with fail
     have hset:=Pg (j+m.length) cc HW2.out HX2.out;exact ⟨⟨j+1,_,by omega,by go_num,HNX.out,hset.1,hset.2⟩,by simp only [intOf]; omega⟩
  ·obtain rfl:j=l.length:=by omega
   have hlen:=HS.out.len;have hrow:=Lib.hid (Row.of_owns HW.out);have hnat:=Lib.hid (C3 (cap:=n) (n:=val l*val m) HS.out.low hrow.out HS.out.done (by omega));have HL:Hid (o.length=n):=by rw [hlen]; exact HN.out.symm
   clear hlen
   go_wp2_with fail
   ((with_reducible refine (Fk _ _ _ o _ HL.out (by omega) (by omega) hrow.out).mono ?_); rintro e w' ⟨rfl,rfl⟩)
   go_wp2_with fail
   go_ret
   exact ⟨_,_,rfl,hnat.out,HX.out⟩
theorem O6 (va vb:Value)(m n:Nat)(w:World)(ha:Ci w va m)(hb:Ci w vb n)(sa:nl m≤10000000000000)(sb:nl n≤10000000000000) :
  Calls prog 198 #[va,vb] w (Yk w (m*n)):=by
 obtain ⟨a,ca,rfl,_,ra⟩:=ha;obtain ⟨b,cb,rfl,_,rb⟩:=hb;have:=Ahd a b ca cb (Aa m) (Aa n) w ra rb (Am _) (Am _) sa sb;rw [Aj,Aj] at this;exact this
theorem Aa5 (va vb:Value)(m n:Nat)(w:World)(ha:Ci w va m)(hb:Ci w vb n)(sa:nl m≤10000000000000)(sb:nl n≤10000000000000) :
  Calls prog 198 #[va,vb] w (Tj w (m*n)) :=
 (O6 va vb m n w ha hb sa sb).mono fun _ _ ⟨k,cap,h1,h2,h3⟩=>⟨_,h1,h2,h3⟩
def Ahk (w:World)(l:List Nat)(d n:Nat)(r i:Value)(wr:World):Prop :=
 ∃ (k:Nat) (o:List Nat) (rr:Nat),k≤l.length∧i=.int .i64 ((k:Int) - 1)∧r=.int .u64 (rr:Int)∧G7 l d k o rr ∧
  wr.ownsRow w.heap.size 266 1 (.slice (some ⟨w.heap.size,0,none⟩) n n) n (A1 o)∧Ext w wr
def M3 (w:World)(n r:Nat)(e:Ending)(w':World):Prop:=∃ v,e=.returned (.tuple #[v,.int .u64 (r:Int)])∧Ci w' v n∧Ext w w'
set_option maxRecDepth 100000 in
theorem Acu (a:Option Addr)(ca d:Nat)(l:List Nat)(w:World)(ha:Row w a (A1 l))(la:Low l)
  (sa:l.length≤10000000000000) (hd0:0 < d) (hd:d < 1000000000) :
  Calls prog 292 #[.slice a l.length ca,.int .u64 d] w (M3 w (val l / d) (val l % d)):=by
 obtain ⟨i0,hi,hz0,hz1,hz2⟩:=info_parts Tryz.info266;have HI:=Lib.hid hi;have HZ0:=Lib.hid hz0;have HZ1:=Lib.hid hz1;have HZ2:=Lib.hid hz2;clear hi hz0 hz1 hz2;have HA:=Lib.hid ha;have LA:=Lib.hid la;clear ha la;obtain ⟨n,hn⟩:∃ n,n=l.length:=⟨_,rfl⟩;have HN:=Lib.hid hn;have hn1:n≤10000000000001:=by omega
 have hn2:l.length≤n:=by omega
 clear hn
 go_enter func292,ntmps292
 go_wp2_with (at_make; refine wpList_make_full _ rfl _ _ 112 rfl w.heap.size 266 i0 (.int .u64 0) 1 Tryz.underlying112 HI.out HZ0.out HZ1.out .i64 .i64 _ _ n rfl rfl (by have:=HN.out; omega) (by have:=HN.out; omega) (by rw [HZ2.out]; omega) (by unfold maxLen; omega) (Nat.le_refl _) ?_; intro w1 hown hgrow)
 rw [Jf] at hown;have HO:=Lib.hid hown;have X1:Hid (Ext w w1):=(Ext.refl w).grown hgrow (fun k hk=>by cases hk);clear hown hgrow
 go_loopw [7,8] (Ahk w l d n) (fun _ i _=>(intOf i+1).toNat)
 case atStart=>exact ⟨l.length,_,0,by omega,rfl,rfl,G7.start _ _ hd0,by rw [← HN.out]; exact HO.out,X1.out⟩
 case round =>
  obtain ⟨k,o,rr,hk,rfl,rfl,hst,hown,hx⟩:=hrel;have HS:=Lib.hid hst;have HW:=Lib.hid hown;have HX:=Lib.hid hx;have hrr:=hst.rest;have hlo:n≤o.length:=by have:=HN.out; have:=hst.len; omega
  clear hst hown hx HO X1;rcases k with _ | k
  ·have hlen:=HS.out.len;have hrow:=Lib.hid (Row.of_owns HW.out);have hnat:=Lib.hid (C3 (cap:=n) (n:=val l / d) HS.out.low hrow.out HS.out.done.1 (by omega));have HL:Hid (o.length=n):=by rw [hlen]; exact HN.out.symm
   clear hlen
   go_wp2_with fail
   ((with_reducible refine (Fk _ _ _ o _ HL.out (by omega) (by omega) hrow.out).mono ?_); rintro e w' ⟨rfl,rfl⟩)
   go_wp2_with fail
   go_ret2
   exact ⟨_,by rw [HS.out.done.2]; rfl,hnat.out,HX.out⟩
  ·rw [show ((k+1:Nat):Int) - 1=k by omega];have hkl:k < l.length:=by omega
   obtain ⟨x,hx⟩:∃ x,x=l.getD k 0:=⟨_,rfl⟩;have hx1:x < 1000000000:=by rw [hx]; exact LA.out.getD k
   obtain ⟨ba,offa,rfl,hca⟩:=(HA.out.ext HX.out).at hkl;rw [← hx] at hca;have hce:=Mv HW.out (j:=k) (by omega);have hfz:=HW.out.frozenAt k;have XX:=Lib.hid hx;clear hx;have hd2:((d:Int) == 0)=false:=by simp; omega
   go_wp2_with fail
   go_region
   go_wp2_with fail
   rw [show ((rr:Int)*1000000000+x) % d=(((rr*1000000000+x) % d:Nat):Int) by simp,show ((rr:Int)*1000000000+x) / d=(((rr*1000000000+x) / d:Nat):Int) by simp];have hs:=HS.out.step LA.out hkl XX.out;have hset:=Pg k ((rr*1000000000+x) / d) HW.out HX.out;exact ⟨⟨k,_,_,by omega,rfl,rfl,hs,hset.1.drew,hset.2.drew⟩,by simp only [intOf]; omega⟩
theorem O3 (va:Value)(m d:Nat)(w:World)(ha:Ci w va m)(sa:nl m≤10000000000000)(hd0:0 < d)(hd:d < 1000000000) :
  Calls prog 292 #[va,.int .u64 d] w (M3 w (m / d) (m % d)):=by
 obtain ⟨a,ca,rfl,_,ra⟩:=ha;have:=Acu a ca d (Aa m) w ra (Am _) sa hd0 hd;rw [Aj] at this;exact this
end
section
variable {U V p top u2 v1 v2:Nat}
structure Vx (v1 v2 u2 top p V U:Nat):Prop where
 v:∃ v',v' < p∧V=(v1*1000000000+v2)*p+v'
 u:∃ u',u' < p∧U=(top*1000000000+u2)*p+u'
 v1pos:500000000≤v1
 v1low:v1 < 1000000000
 v2low:v2 < 1000000000
 u2low:u2 < 1000000000
 top1:top≤v1*1000000000+999999999
 less:U < 1000000000*V
theorem Vx.pos (h:Vx v1 v2 u2 top p V U):0 < V:=by
 rcases Nat.eq_zero_or_pos V with h0 | h0
 ·have:=h.less; rw [h0] at this; omega
 ·exact h0
structure Oj (v1 top V U q r:Nat):Prop where
 eq:q*v1+r=top
 ge:U / V≤q
 low:1000000000≤q→r < 1000000000
 qle:q≤2000000000
theorem Oj.start (h:Vx v1 v2 u2 top p V U):Oj v1 top V U (top / v1) (top % v1):=by
 have h1:=h.v1pos;have hm:=Nat.div_add_mod top v1;have hr:=Nat.mod_lt top (show 0 < v1 by omega);have hv:=h.v1low;refine ⟨by rw [Nat.mul_comm]; exact hm,?_,fun _=>by omega,?_⟩
 ·obtain ⟨v',hv',eV⟩:=h.v;obtain ⟨u',hu',eU⟩:=h.u;have hpos:=h.pos;have hu2:=h.u2low;rw [Nat.le_div_iff_mul_le (by omega)];have hq:U / V*V≤U:=Nat.div_mul_le_self U V;generalize U / V=q at *
  have hpp:0 < p:=by omega
  have e1:q*v1*1000000000*p≤q*V:=by
   rw [eV,Nat.mul_assoc,Nat.mul_assoc]; refine Nat.mul_le_mul_left _ ?_;rw [← Nat.mul_assoc,Nat.add_mul]; omega
  have e2:U < (top*1000000000+u2+1)*p:=by rw [eU,Nat.add_mul _ 1,Nat.one_mul]; omega
  have e3:q*v1*1000000000*p < (top*1000000000+u2+1)*p:=by omega
  have e4:=Nat.lt_of_mul_lt_mul_right e3;omega
 ·rw [← Nat.lt_succ_iff,Nat.div_lt_iff_lt_mul (by omega)];have:=h.top1;omega
theorem Oj.step {v1 v2 u2 top p V U q r:Nat}(h:Vx v1 v2 u2 top p V U)(t:Oj v1 top V U q r)
  (hc:1000000000≤q∨r*1000000000+u2 < q*v2):0 < q∧Oj v1 top V U (q - 1) (r+v1):=by
 have hpos:=h.pos;have hlt:U / V < q:=by
  rcases hc with hc | hc
  ·have:U / V < 1000000000:=by rw [Nat.div_lt_iff_lt_mul hpos]; exact h.less
   omega
  ·rw [Nat.div_lt_iff_lt_mul hpos];obtain ⟨v',hv',eV⟩:=h.v;obtain ⟨u',hu',eU⟩:=h.u;have e1:q*((v1*1000000000+v2)*p)≤q*V:=Nat.mul_le_mul_left _ (by omega);have e2:q*((v1*1000000000+v2)*p)=((q*v1)*1000000000+q*v2)*p:=by
    rw [← Nat.mul_assoc,Nat.mul_add,← Nat.mul_assoc]
   have e3:(top*1000000000+u2+1)*p≤((q*v1)*1000000000+q*v2)*p:=by
    refine Nat.mul_le_mul_right _ ?_;have:=t.eq;omega
   have e4:(top*1000000000+u2+1)*p=(top*1000000000+u2)*p+p:=by rw [Nat.add_mul _ 1,Nat.one_mul]
   omega
 have hq:0 < q:=Nat.lt_of_le_of_lt (Nat.zero_le _) hlt;refine ⟨hq,?_,Nat.le_sub_one_of_lt hlt,fun hge=>?_,by have:=t.qle; omega⟩
 ·obtain ⟨k,rfl⟩:∃ k,q=k+1:=⟨q - 1,by omega⟩;have:=t.eq;rw [Nat.add_mul,Nat.one_mul] at this;simp only [Nat.add_sub_cancel];omega
 ·have e:=t.eq;have ht:=h.top1;obtain ⟨k,rfl⟩:∃ k,q=1000000000+1+k:=⟨q - 1000000001,by omega⟩;have:(1000000000+1+k)*v1=1000000000*v1+v1+k*v1:=by rw [Nat.add_mul,Nat.add_mul,Nat.one_mul]
  have h3:0≤k*v1:=Nat.zero_le _;rw [this] at e;omega
theorem Oj.done {v1 v2 u2 top p V U q r:Nat}(h:Vx v1 v2 u2 top p V U)(t:Oj v1 top V U q r)
  (hc:¬ (r < 1000000000∧(1000000000≤q∨r*1000000000+u2 < q*v2))):q < 1000000000∧U / V≤q∧q≤U / V+1:=by
 have hq:q < 1000000000:=by
  rcases Nat.lt_or_ge q 1000000000 with h1 | h1
  ·exact h1
  ·exact absurd ⟨t.low h1,Or.inl h1⟩ hc
 have hcond:q*v2≤r*1000000000+u2:=by
  rcases Nat.lt_or_ge (r*1000000000+u2) (q*v2) with h1 | h1
  ·rcases Nat.lt_or_ge r 1000000000 with h2 | h2
   ·exact absurd ⟨h2,Or.inr h1⟩ hc
   ·have:q*v2≤999999999*999999999:=Nat.mul_le_mul (by omega) (by have:=h.v2low; omega);omega
  ·exact h1
 refine ⟨hq,t.ge,?_⟩;rcases Nat.eq_zero_or_pos q with h0 | h0
 ·rw [h0]; exact Nat.zero_le _
 ·obtain ⟨k,rfl⟩:∃ k,q=k+1:=⟨q - 1,by omega⟩
  suffices k≤U / V by omega
  have hpos:=h.pos;rw [Nat.le_div_iff_mul_le hpos];obtain ⟨v',hv',eV⟩:=h.v;obtain ⟨u',hu',eU⟩:=h.u;have e1:(k+1)*V=(((k+1)*v1)*1000000000+(k+1)*v2)*p+(k+1)*v':=by
   rw [eV,Nat.mul_add,← Nat.mul_assoc,Nat.mul_add,← Nat.mul_assoc]
  have e2:(((k+1)*v1)*1000000000+(k+1)*v2)*p≤(top*1000000000+u2)*p:=by
   refine Nat.mul_le_mul_right _ ?_;have:=t.eq;omega
  have e3:(k+1)*v'≤1000000000*p:=Nat.mul_le_mul (by omega) (by omega);have e4:1000000000*p≤V:=by
   rw [eV];have:1000000000*p≤(v1*1000000000+v2)*p:=Nat.mul_le_mul_right _ (by have:=h.v1pos; omega);omega
  have e5:(k+1)*V=k*V+V:=by rw [Nat.add_mul,Nat.one_mul]
  omega
structure Jn (full v:List Nat)(off q k:Nat)(o:List Nat)(c:Nat):Prop where
 len:o.length=full.length
 low:Low o
 carry:c≤1000000000
 sum:val ((o.drop off).take k)+q*val (v.take k)=val ((full.drop off).take k)+1000000000 ^ k*c
 same:∀ j,j < off∨off+k≤j→o.getD j 0=full.getD j 0
theorem Ds (l:List Nat)(off k:Nat):(l.drop off).getD k 0=l.getD (off+k) 0:=by
 simp [List.getD_eq_getElem?_getD,List.getElem?_drop]
theorem Lj (l:List Nat)(j k d:Nat)(h:k≤j):(l.set j d).take k=l.take k:=by
 rw [List.take_set_of_le h]
theorem Jn.start (full v:List Nat)(off q:Nat)(h:Low full):Jn full v off q 0 full 0 :=
 ⟨rfl,h,by omega,by simp [val],fun _ _=>rfl⟩
theorem Jn.step {full v o:List Nat}{off q k c x y d e:Nat}(h:Jn full v off q k o c)(hk:off+k < full.length)
  (hx:x=v.getD k 0) (hy:y=o.getD (off+k) 0) (hd:d < 1000000000) (he:e≤1000000000) (hde:d+q*x+c=y+1000000000*e) :
  Jn full v off q (k+1) (o.set (off+k) d) e:=by
 refine ⟨by simp [h.len],h.low.set _ hd,he,?_,fun j hj=>?_⟩
 ·rw [A0,A0,A0,Ds,Ds];have e1:((o.set (off+k) d).drop off).take k=(o.drop off).take k:=by
   rw [List.drop_set,if_neg (by omega),Lj _ _ _ _ (by omega)]
  have e2:(o.set (off+k) d).getD (off+k) 0=d:=by
   simp [List.getD_eq_getElem?_getD,h.len,hk]
  rw [e1,e2,← hx,← h.same (off+k) (Or.inr (Nat.le_refl _)),← hy,Nat.pow_succ];have hs:=h.sum;generalize 1000000000 ^ k=p at *
  have e3:p*d+p*(q*x)+p*c=p*y+p*1000000000*e:=by
   rw [Nat.mul_assoc,← Nat.mul_add,← Nat.mul_add,← Nat.mul_add,hde]
  have e4:q*(val (List.take k v)+p*x)=q*val (List.take k v)+p*(q*x):=by
   rw [Nat.mul_add]; congr 1; rw [← Nat.mul_assoc,Nat.mul_comm q,Nat.mul_assoc]
  omega
 ·rw [Ev _ _ (by omega)]; exact h.same j (by omega)
structure Ky (full v:List Nat)(off k:Nat)(o:List Nat)(c:Nat):Prop where
 len:o.length=full.length
 low:Low o
 carry:c≤1
 sum:val ((o.drop off).take k)+1000000000 ^ k*c=val ((full.drop off).take k)+val (v.take k)
 same:∀ j,j < off∨off+k≤j→o.getD j 0=full.getD j 0
theorem Ky.start (full v:List Nat)(off:Nat)(h:Low full):Ky full v off 0 full 0 :=
 ⟨rfl,h,by omega,by simp [val],fun _ _=>rfl⟩
theorem Ky.step {full v o:List Nat}{off k c x y:Nat}(h:Ky full v off k o c)(hv:Low v)(hk:off+k < full.length)
  (hx:x=v.getD k 0) (hy:y=o.getD (off+k) 0) :
  Ky full v off (k+1) (o.set (off+k) ((y+x+c) % 1000000000)) ((y+x+c) / 1000000000):=by
 have h1:=hv.getD k;have h2:=h.low.getD (off+k);have h3:=h.carry;rw [← hx] at h1;rw [← hy] at h2;refine ⟨by simp [h.len],h.low.set _ (by omega),by omega,?_,fun j hj=>?_⟩
 ·rw [A0,A0,A0,Ds,Ds];have e1:((o.set (off+k) ((y+x+c) % 1000000000)).drop off).take k=(o.drop off).take k:=by
   rw [List.drop_set,if_neg (by omega),Lj _ _ _ _ (by omega)]
  have e2:(o.set (off+k) ((y+x+c) % 1000000000)).getD (off+k) 0=(y+x+c) % 1000000000:=by
   simp [List.getD_eq_getElem?_getD,h.len,hk]
  rw [e1,e2,← hx,← h.same (off+k) (Or.inr (Nat.le_refl _)),← hy,Nat.pow_succ,Nat.add_assoc,Gy,Nat.mul_add,Nat.mul_add];have hs:=h.sum;omega
 ·rw [Ev _ _ (by omega)]; exact h.same j (by omega)
end
section
variable {A V j m n:Nat}{qs u:List Nat}
theorem Wh (l:List Nat)(n:Nat):val (l.take (n+2))=val (l.take n)+1000000000 ^ n*(l.getD n 0+1000000000*l.getD (n+1) 0):=by
 rw [A0,A0,Nat.pow_succ,Nat.mul_add,Nat.mul_assoc]; omega
theorem E3 {l:List Nat}(h:Low l)(k:Nat):val (l.take k) < 1000000000 ^ k :=
 Nat.lt_of_lt_of_le (Ip (h.take k)) (Nat.pow_le_pow_right (by omega) (by rw [List.length_take]; omega))
theorem Acn {full v:List Nat}{off n:Nat}(hn:v.length=n+2)(hf:Low full)(hv:Low v)(hv1:500000000≤v.getD (n+1) 0)
  (hU:val ((full.drop off).take (n+3)) < 1000000000*val v) :
  Vx (v.getD (n+1) 0) (v.getD n 0) (full.getD (off+n) 0) (full.getD (off+(n+2)) 0*1000000000+full.getD (off+(n+1)) 0) (1000000000 ^ n) (val v) (val ((full.drop off).take (n+3))):=by
 have eV:val v=(v.getD (n+1) 0*1000000000+v.getD n 0)*1000000000 ^ n+val (v.take n):=by
  have:=Wh v n;rw [← hn,List.take_length] at this;rw [this,Nat.mul_comm (v.getD (n+1) 0*1000000000+v.getD n 0),Nat.mul_comm (v.getD (n+1) 0),Nat.add_comm (v.getD n 0),Nat.add_comm]
 have eU:val ((full.drop off).take (n+3))=((full.getD (off+(n+2)) 0*1000000000+full.getD (off+(n+1)) 0)*1000000000+full.getD (off+n) 0)*1000000000 ^ n+val ((full.drop off).take n):=by
  rw [A0,Wh,Ds,Ds,Ds,Nat.pow_add,Nat.mul_comm _ (1000000000 ^ n)];generalize 1000000000 ^ n=p;rw [show (1000000000:Nat) ^ 2=1000000000*1000000000 by rfl,Nat.mul_assoc p,Nat.add_assoc (val _),← Nat.mul_add,Nat.add_comm (val _)]
  congr 2
  omega
 have h1:=hv.getD (n+1);have h2:=hv.getD n;have h3:=hf.getD (off+n);have h4:=hf.getD (off+(n+1));have h5:=hf.getD (off+(n+2));have l1:=E3 hv n;have l2:=E3 (hf.drop off) n;refine ⟨⟨_,l1,eV⟩,⟨_,l2,eU⟩,hv1,h1,h2,h3,?_,hU⟩;rw [eU,eV] at hU;generalize v.getD (n+1) 0=v1 at *
 generalize v.getD n 0=v2 at *
 generalize full.getD (off+n) 0=u2 at *
 generalize full.getD (off+(n+1)) 0=u1 at *
 generalize full.getD (off+(n+2)) 0=u0 at *
 generalize val ((full.drop off).take n)=x at *
 generalize val (v.take n)=y at *
 generalize 1000000000 ^ n=p at *
 have:(u0*1000000000*1000000000)*p < ((v1+1)*1000000000*1000000000)*p:=by
  have e1:(u0*1000000000*1000000000)*p≤((u0*1000000000+u1)*1000000000+u2)*p:=Nat.mul_le_mul_right _ (by omega);have e2:1000000000*((v1*1000000000+v2)*p+y)≤1000000000*((v1*1000000000+v2+1)*p):=by
   refine Nat.mul_le_mul_left _ ?_;rw [Nat.add_mul _ 1,Nat.one_mul]; omega
  have e3:1000000000*((v1*1000000000+v2+1)*p)=(1000000000*(v1*1000000000+v2+1))*p:=by rw [Nat.mul_assoc]
  have e4:(1000000000*(v1*1000000000+v2+1))*p≤((v1+1)*1000000000*1000000000)*p:=Nat.mul_le_mul_right _ (by omega);omega
 have:=Nat.lt_of_mul_lt_mul_right this;omega
theorem Gh (l:List Nat)(off n:Nat):val ((l.drop off).take (n+1))=val ((l.drop off).take n)+1000000000 ^ n*l.getD (off+n) 0:=by
 rw [A0,Ds]
theorem Y1 (o:List Nat)(off n d:Nat)(h:off+n < o.length):val (((o.set (off+n) d).drop off).take (n+1))=val ((o.drop off).take n)+1000000000 ^ n*d:=by
 rw [Gh];have e1:((o.set (off+n) d).drop off).take n=(o.drop off).take n:=by
  rw [List.drop_set,if_neg (by omega),Lj _ _ _ _ (by omega)]
 have e2:(o.set (off+n) d).getD (off+n) 0=d:=by simp [List.getD_eq_getElem?_getD,h]
 rw [e1,e2]
structure Nz (full:List Nat)(off n V:Nat)(o:List Nat):Prop where
 len:o.length=full.length
 low:Low o
 rest:val ((o.drop off).take (n+1))=val ((full.drop off).take (n+1)) % V
 same:∀ j,j < off∨off+n < j→o.getD j 0=full.getD j 0
theorem Zr {full v o:List Nat}{off n q c:Nat}(hn:v.length=n)(hl:off+n < full.length)(h:Jn full v off q n o c)(hf:Low full)
  (hge:val ((full.drop off).take (n+1)) / val v≤q) (hpos:0 < val v) (hc:c≤full.getD (off+n) 0) :
  q=val ((full.drop off).take (n+1)) / val v∧Nz full off n (val v) (o.set (off+n) (full.getD (off+n) 0 - c)):=by
 have hs:=h.sum;rw [← hn,List.take_length,hn] at hs;have hU:=Gh full off n;have hset:=Y1 o off n (full.getD (off+n) 0 - c) (by rw [h.len]; exact hl);have hlow:=hf.getD (off+n);generalize hu:full.getD (off+n) 0=u at *
 generalize hUU:val ((full.drop off).take (n+1))=U at *
 generalize val v=V at *
 generalize val ((full.drop off).take n)=x at *
 generalize val ((o.drop off).take n)=y at *
 have hpm:1000000000 ^ n*u=1000000000 ^ n*c+1000000000 ^ n*(u - c):=by rw [← Nat.mul_add]; congr 1; omega
 have hUq:U=q*V+(y+1000000000 ^ n*(u - c)):=by
  generalize 1000000000 ^ n*(u - c)=a at *
  generalize 1000000000 ^ n*c=b at *
  generalize 1000000000 ^ n*u=d at *
  omega
 have hq:q=U / V:=by
  refine Nat.le_antisymm ?_ hge;rw [Nat.le_div_iff_mul_le hpos]; omega
 refine ⟨hq,by simp [h.len],h.low.set _ (by omega),?_,fun j hj=>?_⟩
 ·rw [hset,hUU];have:=Nat.div_add_mod U V;rw [← hq,Nat.mul_comm] at this;generalize 1000000000 ^ n*(u - c)=a at *
  omega
 ·rw [Ev _ _ (by omega)]; exact h.same j (by omega)
theorem Aey {full v o o2:List Nat}{off n q c cb:Nat}(hn:v.length=n)(hl:off+n < full.length)(h:Jn full v off q n o c)
  (hge:q≤val ((full.drop off).take (n+1)) / val v+1) (hpos:0 < val v) (hv:val v < 1000000000 ^ n) (hc:full.getD (off+n) 0 < c) (hb:Ky o v off n o2 cb) :
  q=val ((full.drop off).take (n+1)) / val v+1∧full.getD (off+n) 0+cb=c∧Nz full off n (val v) (o2.set (off+n) 0):=by
 have hs:=h.sum;have hs2:=hb.sum;rw [← hn,List.take_length,hn] at hs hs2;have hU:=Gh full off n;have hset:=Y1 o2 off n 0 (by rw [hb.len,h.len]; exact hl);have hy:=E3 (h.low.drop off) n;have hz:=E3 (hb.low.drop off) n;have hdm:=Nat.div_add_mod (val ((full.drop off).take (n+1))) (val v);have hml:=Nat.mod_lt (val ((full.drop off).take (n+1))) hpos;generalize full.getD (off+n) 0=u at *
 generalize hUU:val ((full.drop off).take (n+1))=U at *
 generalize val v=V at *
 generalize val ((full.drop off).take n)=x at *
 generalize val ((o.drop off).take n)=y at *
 generalize val ((o2.drop off).take n)=z at *
 have hbc:=hb.carry;obtain ⟨k,rfl⟩:∃ k,c=u+1+k:=⟨c - u - 1,by omega⟩;have hm:1000000000 ^ n*(u+1+k)=1000000000 ^ n*u+1000000000 ^ n+1000000000 ^ n*k:=by rw [Nat.mul_add,Nat.mul_add,Nat.mul_one]
 have hk0:1000000000 ^ n*0≤1000000000 ^ n*k:=Nat.mul_le_mul_left _ (Nat.zero_le _);rw [hm] at hs;generalize hP:1000000000 ^ n=P at *
 have hlt:U < q*V:=by
  generalize P*u=a at *
  generalize P*k=b at *
  omega
 have hq:q=U / V+1:=by
  refine Nat.le_antisymm hge ?_;exact (Nat.div_lt_iff_lt_mul hpos).2 hlt
 have hqV:q*V=V*(U / V)+V:=by rw [hq,Nat.add_mul,Nat.one_mul,Nat.mul_comm]
 have hR:z+P*cb=U % V+P+P*k:=by
  generalize P*u=a at *
  generalize P*k=b at *
  generalize P*cb=d at *
  generalize V*(U / V)=f at *
  omega
 have hcb:cb=1:=by
  rcases Nat.eq_zero_or_pos cb with h0 | h0
  ·subst h0; rw [Nat.mul_zero] at hR;generalize P*k=b at *
   omega
  ·omega
 subst hcb;rw [Nat.mul_one] at hR;have hk:k=0:=by
  rcases Nat.eq_zero_or_pos k with h0 | h0
  ·exact h0
  ·have:P*1≤P*k:=Nat.mul_le_mul_left _ h0;generalize P*k=b at *
   omega
 subst hk;refine ⟨hq,by omega,by simp [hb.len,h.len],hb.low.set _ (by omega),?_,fun j hj=>?_⟩
 ·rw [hset,hUU,Nat.mul_zero,Nat.add_zero]; rw [Nat.mul_zero] at hR; omega
 ·rw [Ev _ _ (by omega),hb.same j (by omega)]; exact h.same j (by omega)
structure K7 (A V n m:Nat)(j:Nat)(u qs:List Nat):Prop where
 ulen:u.length=m+n
 qlen:qs.length=m
 ulow:Low u
 qlow:Low qs
 less:val (u.drop j) < V
 sum:val u+1000000000 ^ j*(val (qs.drop j)*V)=A
 zero:∀ k,j+n≤k→u.getD k 0=0
theorem Gi {j k:Nat}(h:∀ i,j+k≤i→u.getD i 0=0):val ((u.drop j).take k)=val (u.drop j):=by
 have hz:val ((u.drop j).drop k)=0:=by
  have:∀ (l:List Nat),(∀ i,l.getD i 0=0)→val l=0:=by
   intro l;induction l with
   | nil=>intro _; rfl
   | cons d l ih =>
    intro hl;have h0:d=0:=by simpa using hl 0
    have h1:=ih (fun i=>by simpa using hl (i+1));simp [val,h0,h1]
  refine this _ (fun i=>?_);rw [Ds,Ds]; exact h _ (by omega)
 by_cases hk:k≤(u.drop j).length
 ·have:=E5 (u.drop j) k hk;rw [hz] at this; omega
 ·rw [List.take_of_length_le (by omega)]
theorem Zh (hj:j < u.length):val (u.drop j)=u.getD j 0+1000000000*val (u.drop (j+1)):=by
 rw [B2 u j hj]; rfl
theorem K7.before (h:K7 A V n m (j+1) u qs)(hj:j < m) :
  val ((u.drop j).take (n+1)) < 1000000000*V:=by
 rw [Gi (fun i hi=>h.zero i (by omega)),Zh (by have:=h.ulen; omega)];have:=h.less;have:=h.ulow.getD j;omega
theorem K7.step {A V n m j:Nat}{u u' qs:List Nat}(h:K7 A V n m (j+1) u qs)(hj:j < m)(hV:0 < V)(hVn:V < 1000000000 ^ n)
  (hs:Nz u j n V u') (hq:val ((u.drop j).take (n+1)) / V < 1000000000) :
  K7 A V n m j u' (qs.set j (val ((u.drop j).take (n+1)) / V)):=by
 have hrest:=hs.rest;have hml:=Nat.mod_lt (val ((u.drop j).take (n+1))) hV;have htop:u'.getD (j+n) 0=0:=by
  have:=Gh u' j n;rcases Nat.eq_zero_or_pos (u'.getD (j+n) 0) with h0 | h0
  ·exact h0
  ·have:1000000000 ^ n*1≤1000000000 ^ n*u'.getD (j+n) 0:=Nat.mul_le_mul_left _ h0;omega
 have hzero:∀ k,j+n≤k→u'.getD k 0=0:=by
  intro k hk;by_cases e:k=j+n
  ·rw [e]; exact htop
  ·rw [hs.same k (by omega)]; exact h.zero k (by omega)
 have hd':val (u'.drop j)=val ((u.drop j).take (n+1)) % V:=by
  rw [← hrest,Gi (fun i hi=>hzero i (by omega))]
 refine ⟨by rw [hs.len]; exact h.ulen,by simp [h.qlen],hs.low,h.qlow.set _ hq,by rw [hd']; exact hml,?_,hzero⟩;have hsum:=h.sum;have e1:=E5 u j (by have:=h.ulen; omega);have e2:=E5 u' j (by have:=h.ulen; have:=hs.len; omega);have e3:u'.take j=u.take j:=by
  apply List.ext_getElem?;intro i;rw [List.getElem?_take,List.getElem?_take];split
  ·rename_i hi;have:=hs.same i (Or.inl hi);have l1:i < u'.length:=by have:=h.ulen; have:=hs.len; omega
   have l2:i < u.length:=by have:=h.ulen; omega
   simp [List.getD_eq_getElem?_getD,l1,l2] at this ⊢;exact this
  ·rfl
 have e4:val ((u.drop j).take (n+1))=val (u.drop j):=Gi (fun i hi=>h.zero i (by omega));have e5:val ((qs.set j (val ((u.drop j).take (n+1)) / V)).drop j)=val ((u.drop j).take (n+1)) / V+1000000000*val (qs.drop (j+1)):=by
  rw [B2 _ j (by simp [h.qlen,hj]),List.drop_set_of_lt (by omega)];have:(qs.set j (val ((u.drop j).take (n+1)) / V)).getD j 0=val ((u.drop j).take (n+1)) / V:=by
   simp [List.getD_eq_getElem?_getD,h.qlen,hj]
  rw [this]; rfl
 rw [e5,e2,e3,hd',e4];rw [e1,Nat.pow_succ] at hsum;have hdm:=Nat.div_add_mod (val (u.drop j)) V;generalize val (u.drop j) / V=q at *
 generalize val (u.drop j) % V=r at *
 generalize val (u.take j)=x at *
 generalize val (qs.drop (j+1))=y at *
 generalize 1000000000 ^ j=p at *
 rw [← hdm] at hsum;rw [← hsum,Nat.add_mul,Nat.mul_add,Nat.mul_add,Nat.mul_comm V q];rw [show p*1000000000*(y*V)=p*(1000000000*y*V) by rw [Nat.mul_assoc,Nat.mul_assoc]];omega
theorem K7.done (h:K7 A V n m 0 u qs)(hV:0 < V):val qs=A / V∧val u=A % V:=by
 have hs:=h.sum;have hl:=h.less;simp only [List.drop_zero,Nat.pow_zero,Nat.one_mul] at hs hl;rw [← hs];constructor
 ·rw [Nat.add_mul_div_right _ _ hV,Nat.div_eq_of_lt hl,Nat.zero_add]
 ·rw [Nat.add_mul_mod_self_right,Nat.mod_eq_of_lt hl]
end
section
open Go.RowKit
variable {a b w wr:World}{base g n:Nat}{e:TypeId}{o:List Nat}{r:Option Nat}
theorem Rq (w:World)(r:Option Nat):w.grownBy w r:=⟨rfl,rfl,rfl,Nat.le_refl _,fun _ _ _=>rfl⟩
theorem Qd {a b c:World}(h:a.grownBy b r)(k:b.grownBy c r):a.grownBy c r :=
 ⟨k.os.trans h.os,k.tape.trans h.tape,k.output.trans h.output,Nat.le_trans h.size k.size,fun i hi hr=>(k.block i (Nat.lt_of_lt_of_le hi h.size) hr).trans (h.block i hi hr)⟩
theorem Zz (h:a.grownBy b r)(n:Nat):a.grownBy (b.drewN n) r:=by
 obtain ⟨h1,h2,h3,h4,h5⟩:=h;exact ⟨h1,h2,h3,h4,h5⟩
def Et (w:World)(g:Nat)(a:Option Addr)(cs:List Value):Prop:=Row w a cs∧∀ b off,a=some ⟨b,off,none⟩→b≠g
theorem Et.grown {w w':World}{a:Option Addr}{cs:List Value}(h:Et w g a cs)(hg:w.grownBy w' (some g)):Et w' g a cs:=by
 refine ⟨fun j hj=>?_,h.2⟩;obtain ⟨b,off,h1,h2⟩:=h.1 j hj;exact ⟨b,off,h1,hg.cell h2 (by simp; exact h.2 b off h1)⟩
def Ak9 (w:World)(base g N:Nat)(full:List Nat)(off n V:Nat)(e:Ending)(w':World):Prop :=
 ∃ o,e=.returned (.int .u64 ((val ((full.drop off).take (n+1)) / V:Nat):Int))∧Nz full off n V o ∧
  w'.ownsRow base 266 1 (.slice (some ⟨g,0,none⟩) N N) N (A1 o)∧w.grownBy w' (some g)
def Ai9 (w:World)(v1 top V U:Nat)(q r:Value)(wr:World):Prop :=
 ∃ qq rr:Nat,q=.int .u64 (qq:Int)∧r=.int .u64 (rr:Int)∧Oj v1 top V U qq rr∧rr < 2000000000∧∃ d,wr=w.drewN d
def Aln (w:World)(base g N:Nat)(full m:List Nat)(off q n:Nat)(c i:Value)(wr:World):Prop :=
 ∃ (k:Nat) (o:List Nat) (cc:Nat),k≤n∧i=.int .i64 k∧c=.int .u64 (cc:Int)∧Jn full m off q k o cc ∧
  wr.ownsRow base 266 1 (.slice (some ⟨g,0,none⟩) N N) N (A1 o)∧w.grownBy wr (some g)
def Akw (w:World)(base g N:Nat)(full m:List Nat)(off n:Nat)(c i:Value)(wr:World):Prop :=
 ∃ (k:Nat) (o:List Nat) (cc:Nat),k≤n∧i=.int .i64 k∧c=.int .u64 (cc:Int)∧Ky full m off k o cc ∧
  wr.ownsRow base 266 1 (.slice (some ⟨g,0,none⟩) N N) N (A1 o)∧w.grownBy wr (some g)
theorem Fs {n j:Nat}(h:wr.ownsRow base e 1 (.slice (some ⟨g,0,none⟩) n n) n (A1 o))(hj:j < o.length) :
  wr.cell? ⟨g,j,none⟩=some (.int .u64 (o.getD j 0:Nat)):=by
 obtain ⟨b,off,h1,h2⟩:=(Row.of_owns h).at hj;simp only [Option.some.injEq,Addr.mk.injEq,and_true] at h1;obtain ⟨rfl,rfl⟩:=h1;rw [Nat.zero_add] at h2;exact h2
theorem Js (j d:Nat)(h:wr.ownsRow base e 1 (.slice (some ⟨g,0,none⟩) n n) n (A1 o))(x:w.grownBy wr (some g)) :
  (wr.setCell ⟨g,j,none⟩ (.int .u64 (d:Int))).ownsRow base e 1 (.slice (some ⟨g,0,none⟩) n n) n (A1 (o.set j d)) ∧
   w.grownBy (wr.setCell ⟨g,j,none⟩ (.int .u64 (d:Int))) (some g):=by
 have:=h.stored j (.int .u64 (d:Int));rw [Ss] at this; exact ⟨this.1,Qd x this.2⟩
theorem Afi {u c b:Nat}(h:u+c=b):IntKind.u64.wrap ((u:Int)+IntKind.u64.wrap ((c:Int) - b))=((0:Nat):Int):=by
 have e:∀ n:Int,IntKind.u64.wrap n=n % 18446744073709551616:=fun n=>by simp [IntKind.wrap,IntKind.signed,IntKind.bits]
 rw [e,e]; omega
set_option maxRecDepth 100000 in
theorem Aft (base g N off n cu:Nat)(b:Option Addr)(cb:Nat)(full m:List Nat)(w:World)
  (hown:w.ownsRow base 266 1 (.slice (some ⟨g,0,none⟩) N N) N (A1 full)) (hv:Et w g b (A1 m)) (hfl:full.length=N)
  (lf:Low full) (lm:Low m) (hm:m.length=n+2) (hN:off+(n+2) < N) (hNN:N≤30000000000000) (hcu:n+3≤cu)
  (hv1:500000000≤m.getD (n+1) 0) (hU:val ((full.drop off).take (n+3)) < 1000000000*val m) :
  Calls prog 293 #[.slice (some ⟨g,off,none⟩) (n+3) cu,.slice b (n+2) cb] w (Ak9 w base g N full off (n+2) (val m)):=by
 have hp:=Acn hm lf lm hv1 hU;obtain ⟨bv,ov,rfl,hcv1⟩:=hv.1.at (j:=n+1) (by omega);have hcv2:w.cell? ⟨bv,ov+n,none⟩=some (.int .u64 (m.getD n 0:Nat)):=by
  obtain ⟨b',off',h1,h2⟩:=hv.1.at (j:=n) (by omega);simp only [Option.some.injEq,Addr.mk.injEq,and_true] at h1;obtain ⟨rfl,rfl⟩:=h1;exact h2
 have hcu0:=Fs hown (j:=off+(n+2)) (by omega);have hcu1:=Fs hown (j:=off+(n+1)) (by omega);have hcu2:=Fs hown (j:=off+n) (by omega);obtain ⟨v1,hv1e⟩:∃ x,x=m.getD (n+1) 0:=⟨_,rfl⟩;obtain ⟨v2,hv2e⟩:∃ x,x=m.getD n 0:=⟨_,rfl⟩;obtain ⟨u0,hu0e⟩:∃ x,x=full.getD (off+(n+2)) 0:=⟨_,rfl⟩;obtain ⟨u1,hu1e⟩:∃ x,x=full.getD (off+(n+1)) 0:=⟨_,rfl⟩;obtain ⟨u2,hu2e⟩:∃ x,x=full.getD (off+n) 0:=⟨_,rfl⟩;rw [← hv1e,← hv2e,← hu0e,← hu1e,← hu2e] at hp;rw [← hv1e] at hcv1 hv1;rw [← hv2e] at hcv2;rw [← hu0e] at hcu0;rw [← hu1e] at hcu1;rw [← hu2e] at hcu2;have b1:=hp.v1low;have b2:=hp.v2low;have b3:=hp.u2low;have b4:u0 < 1000000000:=by rw [hu0e]; exact lf.getD _
 have b5:u1 < 1000000000:=by rw [hu1e]; exact lf.getD _
 have b6:((v1:Int) == 0)=false:=by simp; omega
 have HP:=Lib.hid hp;have HO:=Lib.hid hown;have HV:=Lib.hid hv;have LF:=Lib.hid lf;have LM:=Lib.hid lm;have HM:=Lib.hid hm;have HFL:=Lib.hid hfl;have E0:=Lib.hid hu0e;clear hp hown hv lf lm hm hfl hv1e hv2e hu0e hu1e hu2e hU
 go_enter func293,ntmps293
 go_wp2_with fail
 go_quiet (fail)
 go_wp2_with fail
 go_quiet (fail)
 go_wp2_with fail
 rw [show ((u0:Int)*1000000000+u1) / v1=(((u0*1000000000+u1) / v1:Nat):Int) by simp,show ((u0:Int)*1000000000+u1) % v1=(((u0*1000000000+u1) % v1:Nat):Int) by simp]
 go_loopw [7,8] (Ai9 w v1 (u0*1000000000+u1) (val m) (val ((full.drop off).take (n+3)))) (fun _ r _=>(1000000000 - intOf r).toNat)
 case atStart =>
  have hlt:=Nat.mod_lt (u0*1000000000+u1) (show 0 < v1 by omega);exact ⟨_,_,rfl,rfl,Oj.start HP.out,by omega,_,World.drewN_drewN _ _ _⟩
 case round =>
  obtain ⟨qq,rr,rfl,rfl,ht,hr2,d,rfl⟩:=hrel;have HT:=Lib.hid ht;have hq2:=ht.qle;clear ht;obtain ⟨p,hp⟩:∃ p,p=qq*v2:=⟨_,rfl⟩;have hp1:p≤2000000000*999999999:=by rw [hp]; exact Nat.mul_le_mul (by omega) (by omega)
  have hp2:((qq:Int)*v2)=p:=by rw [hp]; exact (Int.natCast_mul _ _).symm
  have PP:=Lib.hid hp;clear hp;by_cases hcont:rr < 1000000000∧(1000000000≤qq∨rr*1000000000+u2 < p)
  ·have hstep:=HT.out.step HP.out (by rw [← PP.out]; exact hcont.2);have HST:=Lib.hid hstep;have hq0:=hstep.1;clear hstep;obtain ⟨hc1,hc2⟩:=hcont;have d1:decide ((rr:Int) < 1000000000)=true:=by simp; omega
   by_cases hc3:1000000000≤qq
   ·have d2:decide ((1000000000:Int)≤qq)=true:=by simp; omega
    clear hc2
    go_wp2_with fail
    go_quiet (fail)
    go_wp2_with fail
    exact ⟨⟨qq - 1,rr+v1,by go_num,by go_num,HST.out.2,by omega,_,rfl⟩,by simp only [intOf]; omega⟩
   ·have d2:decide ((1000000000:Int)≤qq)=false:=by simp; omega
    have d3:decide ((rr:Int)*1000000000+u2 < p)=true:=by simp; omega
    clear hc2
    go_wp2_with fail
    go_quiet (fail)
    go_wp2_with fail
    exact ⟨⟨qq - 1,rr+v1,by go_num,by go_num,HST.out.2,by omega,_,rfl⟩,by simp only [intOf]; omega⟩
  ·have hfin:=HT.out.done HP.out (by rw [← PP.out]; exact hcont);have HF:=Lib.hid hfin;have hqB:=hfin.1;clear hfin;have hsplit:(decide ((rr:Int) < 1000000000)=false)∨(decide ((rr:Int) < 1000000000)=true∧decide ((1000000000:Int)≤qq)=false∧decide ((rr:Int)*1000000000+u2 < p)=false):=by
    simp only [decide_eq_false_iff_not,decide_eq_true_eq]; omega
   clear hcont;rcases hsplit with d1 | ⟨d1,d2,d3⟩;all_goals
    go_wp2_with fail
    go_quiet (fail)
    go_wp2_with fail
    go_loopw [9,80] (Aln w base g N full m off qq (n+2)) (fun _ i _=>(n+2) - (intOf i).toNat)
    case atStart=>exact ⟨0,full,0,by omega,rfl,rfl,Jn.start _ _ _ _ LF.out,Mm HO.out _,Zz (Rq _ _) _⟩
    case round =>
     obtain ⟨k,o,cc,hk,rfl,rfl,hst,hown,hgr⟩:=hrel;have HS:=Lib.hid hst;have HW:=Lib.hid hown;have HG:=Lib.hid hgr;have hcc:=hst.carry;have hlo:N≤o.length:=by have:=hst.len; have:=HFL.out; omega
     clear hst hown hgr d1 hcv1 hcv2 hcu0 hcu1 hcu2 hp2 hp1;by_cases hlt:k < n+2
     ·obtain ⟨x,hx⟩:∃ x,x=m.getD k 0:=⟨_,rfl⟩;obtain ⟨y,hy⟩:∃ y,y=o.getD (off+k) 0:=⟨_,rfl⟩;have hx1:x < 1000000000:=by rw [hx]; exact LM.out.getD k
      have hy1:y < 1000000000:=by rw [hy]; exact HS.out.low.getD _
      have hcx:wr.cell? ⟨bv,ov+k,none⟩=some (.int .u64 (x:Int)):=by
       obtain ⟨b',off',h1,h2⟩:=(HV.out.grown HG.out).1.at (j:=k) (by rw [HM.out]; exact hlt);simp only [Option.some.injEq,Addr.mk.injEq,and_true] at h1;obtain ⟨rfl,rfl⟩:=h1;rw [hx]; exact h2
      have hcy:=Fs HW.out (j:=off+k) (by omega);have hfy:=HW.out.frozenAt (off+k);rw [← hy] at hcy;have XX:=Lib.hid hx;have YY:=Lib.hid hy;clear hx hy;obtain ⟨p2,hp2⟩:∃ p2,p2=qq*x:=⟨_,rfl⟩;have hp21:p2≤999999999*999999999:=by rw [hp2]; exact Nat.mul_le_mul (by omega) (by omega)
      have hp22:((qq:Int)*x)=p2:=by rw [hp2]; exact (Int.natCast_mul _ _).symm
      have PP2:=Lib.hid hp2;clear hp2;by_cases hy2:y < (p2+cc) % 1000000000
      ·have d4:decide ((y:Int) < ((p2:Int)+cc) % 1000000000)=true:=by simp; omega
       go_wp2_with fail
       rw [show (y:Int)+1000000000=((y+1000000000:Nat):Int) by omega,show ((y+1000000000:Nat):Int) - ((p2:Int)+cc) % 1000000000=((y+1000000000 - (p2+cc) % 1000000000:Nat):Int) by omega,show ((p2:Int)+cc) / 1000000000+1=(((p2+cc) / 1000000000+1:Nat):Int) by omega];have hs1:=Js (off+k) (y+1000000000) HW.out HG.out;have hs2:=Js (off+k) (y+1000000000 - (p2+cc) % 1000000000) hs1.1 hs1.2;rw [List.set_set] at hs2;refine ⟨⟨k+1,_,_,by omega,by go_num,rfl,?_,hs2.1,hs2.2⟩,by simp only [intOf]; omega⟩;exact HS.out.step (by have:=HFL.out; omega) XX.out YY.out (by omega) (by omega) (by rw [← PP2.out]; omega)
      ·have d4:decide ((y:Int) < ((p2:Int)+cc) % 1000000000)=false:=by simp; omega
       go_wp2_with fail
       rw [show (y:Int) - ((p2:Int)+cc) % 1000000000=((y - (p2+cc) % 1000000000:Nat):Int) by omega,show ((p2:Int)+cc) / 1000000000=(((p2+cc) / 1000000000:Nat):Int) by omega];have hs2:=Js (off+k) (y - (p2+cc) % 1000000000) HW.out HG.out;refine ⟨⟨k+1,_,_,by omega,by go_num,rfl,?_,hs2.1,hs2.2⟩,by simp only [intOf]; omega⟩;exact HS.out.step (by have:=HFL.out; omega) XX.out YY.out (by omega) (by omega) (by rw [← PP2.out]; omega)
     ·obtain rfl:k=n+2:=by omega
      have hcy:=Fs HW.out (j:=off+(n+2)) (by omega);have hfy:=HW.out.frozenAt (off+(n+2));rw [HS.out.same _ (Or.inr (Nat.le_refl _)),← E0.out] at hcy;have hVpos:=HP.out.pos;by_cases hen:cc≤u0
      ·have hd:=Zr HM.out (by rw [HFL.out]; exact hN) HS.out LF.out HF.out.2.1 hVpos (by rw [← E0.out]; exact hen);rw [← E0.out] at hd;have HD:=Lib.hid hd;clear hd hVpos
       go_wp2_with fail
       go_ret
       rw [show (u0:Int) - cc=((u0 - cc:Nat):Int) by omega];have hs2:=Js (off+(n+2)) (u0 - cc) HW.out HG.out;exact ⟨_,by rw [← HD.out.1]; rfl,HD.out.2,hs2.1,hs2.2⟩
      ·have hlow:=HS.out.low;have LO:=Lib.hid hlow;have VP:=Lib.hid hVpos;clear hlow hVpos hcy hfy;obtain ⟨wo,hwo⟩:∃ wo:World,wo=wr:=⟨_,rfl⟩;subst hwo;have hcy:=Fs HW.out (j:=off+(n+2)) (by omega);rw [HS.out.same _ (Or.inr (Nat.le_refl _)),← E0.out] at hcy
       go_wp2_with fail
       go_loopw [14,132] (Akw w base g N o m off (n+2)) (fun _ i _=>(n+2) - (intOf i).toNat)
       case atStart=>exact ⟨0,o,0,by omega,rfl,rfl,Ky.start _ _ _ LO.out,HW.out,HG.out⟩
       case round =>
        obtain ⟨k,o2,cb2,hk,rfl,rfl,hst2,hown2,hgr2⟩:=hrel;have HS2:=Lib.hid hst2;have HW2:=Lib.hid hown2;have HG2:=Lib.hid hgr2;have hcb2:=hst2.carry;have hlo2:N≤o2.length:=by have:=hst2.len; omega
        clear hst2 hown2 hgr2 hcy;by_cases hlt:k < n+2
        ·obtain ⟨x,hx⟩:∃ x,x=m.getD k 0:=⟨_,rfl⟩;obtain ⟨y,hy⟩:∃ y,y=o2.getD (off+k) 0:=⟨_,rfl⟩;have hx1:x < 1000000000:=by rw [hx]; exact LM.out.getD k
         have hy1:y < 1000000000:=by rw [hy]; exact HS2.out.low.getD _
         have hcx:wr.cell? ⟨bv,ov+k,none⟩=some (.int .u64 (x:Int)):=by
          obtain ⟨b',off',h1,h2⟩:=(HV.out.grown HG2.out).1.at (j:=k) (by rw [HM.out]; exact hlt);simp only [Option.some.injEq,Addr.mk.injEq,and_true] at h1;obtain ⟨rfl,rfl⟩:=h1;rw [hx]; exact h2
         have hcy:=Fs HW2.out (j:=off+k) (by omega);have hfy:=HW2.out.frozenAt (off+k);rw [← hy] at hcy;have XX:=Lib.hid hx;have YY:=Lib.hid hy;clear hx hy
         go_wp2_with fail
         rw [show ((y:Int)+x+cb2) % 1000000000=(((y+x+cb2) % 1000000000:Nat):Int) by omega,show ((y:Int)+x+cb2) / 1000000000=(((y+x+cb2) / 1000000000:Nat):Int) by omega];have hs2:=Js (off+k) ((y+x+cb2) % 1000000000) HW2.out HG2.out;refine ⟨⟨k+1,_,_,by omega,by go_num,rfl,?_,hs2.1,hs2.2⟩,by simp only [intOf]; omega⟩;exact HS2.out.step LM.out (by have:=HFL.out; have:=HS.out.len; omega) XX.out YY.out
        ·obtain rfl:k=n+2:=by omega
         have hb:=Aey HM.out (by rw [HFL.out]; exact hN) HS.out HF.out.2.2 VP.out (by have:=Ip LM.out; rw [HM.out] at this; exact this) (by rw [← E0.out]; omega) HS2.out;rw [← E0.out] at hb;have hsum:=hb.2.1;have hcy:=Fs HW2.out (j:=off+(n+2)) (by omega);have hfy:=HW2.out.frozenAt (off+(n+2));rw [HS2.out.same _ (Or.inr (Nat.le_refl _)),HS.out.same _ (Or.inr (Nat.le_refl _)),← E0.out] at hcy;have hq1:1≤qq:=by rw [hb.1]; exact Nat.le_add_left 1 _
         have HB:=Lib.hid hb;have HSUM:=Lib.hid hsum;clear hb hsum
         go_wp2_with fail
         go_ret
         rw [Afi HSUM.out];have hs2:=Js (off+(n+2)) 0 HW2.out HG2.out;refine ⟨_,?_,HB.out.2.2,hs2.1,hs2.2⟩;refine congrArg (fun z:Int=>Ending.returned (.int .u64 z)) (a₁:=(qq:Int) - 1) ?_;have:=HB.out.1;omega
end
section
variable {f k m n:Nat}
structure Ama (n k f:Nat):Prop where
 len:nl n=k+2
 pos:1≤f
 low:f < 1000000000
 vlen:nl (n*f)=k+2
 vtop:500000000≤(Aa (n*f)).getD (k+1) 0
 fle:f*1000000000 ^ (k+1)≤n*f
theorem Ad6 (n k:Nat)(h:nl n=k+2):n=val ((Aa n).take (k+1))+1000000000 ^ (k+1)*(Aa n).getD (k+1) 0:=by
 have:=A0 (Aa n) (k+1);rw [List.take_of_length_le (show (Aa n).length≤k+1+1 from Nat.le_of_eq h),Aj] at this;exact this
theorem Alm (n k:Nat)(h:nl n=k+2):1≤(Aa n).getD (k+1) 0:=by
 have hne:n≠0:=by intro e; rw [e,Qy] at h; omega
 have:=Mp hne;have hl:(Aa n).length=k+2:=h;rw [hl] at this;simp only [Nat.add_sub_cancel,show k+2 - 1=k+1 from rfl] at this;omega
theorem Ama.make (h:nl n=k+2):Ama n k (1000000000 / ((Aa n).getD (k+1) 0+1)):=by
 have h1:=Alm n k h;have h2:=(Am n).getD (k+1);have hn:=Ad6 n k h;have hlt:=E3 (Am n) (k+1);generalize (Aa n).getD (k+1) 0=b at *
 have hdm:=Nat.div_add_mod 1000000000 (b+1);have hml:=Nat.mod_lt 1000000000 (show 0 < b+1 by omega);generalize hf:1000000000 / (b+1)=f at *
 generalize 1000000000 % (b+1)=r at *
 have hf1:1≤f:=by
  rcases Nat.eq_zero_or_pos f with h0 | h0
  ·rw [h0,Nat.mul_zero] at hdm; omega
  ·exact h0
 have hf2:f < 1000000000:=by
  have:(1+1)*f≤(b+1)*f:=Nat.mul_le_mul_right _ (by omega);omega
 have hbf:b*f+f+r=1000000000:=by rw [Nat.add_mul,Nat.one_mul] at hdm; exact hdm
 have hbf2:b+f≤b*f+1:=by
  obtain ⟨x,rfl⟩:∃ x,b=x+1:=⟨b - 1,by omega⟩;obtain ⟨y,rfl⟩:∃ y,f=y+1:=⟨f - 1,by omega⟩;rw [Nat.add_mul,Nat.mul_add,Nat.one_mul,Nat.mul_one];have:0≤x*y:=Nat.zero_le _;omega
 have hbig:500000000≤b*f:=by omega
 generalize hx:val ((Aa n).take (k+1))=x at *
 generalize hP:1000000000 ^ (k+1)=P at *
 have hPn:P≤n:=by
  have:P*1≤P*b:=Nat.mul_le_mul_left _ h1;omega
 have hup:n*f < P*1000000000:=by
  have e1:n < P*(b+1):=by rw [Nat.mul_add,Nat.mul_one]; omega
  have e2:n*f < P*(b+1)*f:=Nat.mul_lt_mul_of_pos_right e1 (by omega);have e3:P*(b+1)*f≤P*1000000000:=by rw [Nat.mul_assoc]; exact Nat.mul_le_mul_left _ (by omega)
  omega
 have hlo:P≤n*f:=by
  have:n*1≤n*f:=Nat.mul_le_mul_left _ hf1;omega
 have hvl:nl (n*f)=k+2:=by
  refine Nat.le_antisymm (A4 (by rw [show k+2=k+1+1 from rfl,Nat.pow_succ,hP]; exact hup)) ?_;rcases Nat.lt_or_ge (nl (n*f)) (k+2) with h3 | h3
  ·have h4:=Cd (n*f);have h5:1000000000 ^ nl (n*f)≤1000000000 ^ (k+1):=Nat.pow_le_pow_right (by omega) (by omega);rw [hP] at h5; omega
  ·exact h3
 refine ⟨h,hf1,hf2,hvl,?_,?_⟩
 ·have hv:=Ad6 (n*f) k hvl;have hvt:=E3 (Am (n*f)) (k+1);rw [hP] at hv hvt;generalize (Aa (n*f)).getD (k+1) 0=t at *
  have e1:P*(b*f)≤n*f:=by
   rw [← Nat.mul_assoc]; exact Nat.mul_le_mul_right _ (by omega)
  have e2:n*f < P*(t+1):=by rw [Nat.mul_add,Nat.mul_one]; omega
  have e3:P*(b*f) < P*(t+1):=by omega
  have:=Nat.lt_of_mul_lt_mul_left e3;omega
 ·rw [Nat.mul_comm n]; exact Nat.mul_le_mul_left _ (by rw [hP]; exact hPn)
theorem K7.start {m n k f M:Nat}(h:Ama n k f)(hM:nl m+1=M+(k+2)) :
  K7 (m*f) (n*f) (k+2) M M (Aa (m*f)++List.replicate (M+(k+2) - nl (m*f)) 0) (List.replicate M 0):=by
 have hl:nl (m*f)≤M+(k+2):=by
  rw [← hM];refine Nat.le_trans (Fp m f) (Nat.add_le_add_left ?_ _);exact A4 (by simpa using h.low)
 have hlen:(Aa (m*f)++List.replicate (M+(k+2) - nl (m*f)) 0).length=M+(k+2):=by
  rw [List.length_append,List.length_replicate]; unfold nl at *; omega
 have hval:val (Aa (m*f)++List.replicate (M+(k+2) - nl (m*f)) 0)=m*f:=by
  rw [Nb,Vi,Aj]; omega
 refine ⟨hlen,by simp,(Am _).append (Low.zeros _),Low.zeros _,?_,?_,?_⟩
 ·have hs:=E5 (Aa (m*f)++List.replicate (M+(k+2) - nl (m*f)) 0) M (by omega);rw [hval] at hs;generalize val ((Aa (m*f)++List.replicate (M+(k+2) - nl (m*f)) 0).drop M)=y at *
  generalize val ((Aa (m*f)++List.replicate (M+(k+2) - nl (m*f)) 0).take M)=x at *
  have hm:=Cd m;rw [show nl m=M+(k+1) by omega,Nat.pow_add] at hm;have hfle:=h.fle;have hpos:=h.pos;generalize 1000000000 ^ (k+1)=P at *
  generalize 1000000000 ^ M=Q at *
  have e1:m*f < Q*P*f:=Nat.mul_lt_mul_of_pos_right hm (by omega);have e2:Q*P*f=Q*(f*P):=by rw [Nat.mul_assoc,Nat.mul_comm P]
  have e3:Q*y < Q*(f*P):=by omega
  have:=Nat.lt_of_mul_lt_mul_left e3;omega
 ·rw [hval,List.drop_of_length_le (by simp)]; simp [val]
 ·intro j hj;have:(Aa (m*f)++List.replicate (M+(k+2) - nl (m*f)) 0)[j]?=none:=List.getElem?_eq_none (by omega);rw [List.getD_eq_getElem?_getD,this]; rfl
theorem Aan (hf:0 < f):m*f / (n*f)=m / n∧m*f % (n*f)=(m % n)*f :=
 ⟨Nat.mul_div_mul_right m n hf,Nat.mul_mod_mul_right f m n⟩
end
section
open Go.RowKit
variable {N base g k n:Nat}{e:TypeId}{w w':World}{xs:List Value}
def Q0 (w:World)(m n:Nat)(e:Ending)(w':World):Prop:=∃ u v,e=.returned (.tuple #[u,v])∧Ci w' u m∧Ci w' v n∧Ext w w'
theorem Aa4 {m n:Nat}(h:n≤m):0≤sgn ((m:Int) - n):=by
 rcases Nat.lt_or_ge n m with h1 | h1
 ·rw [B9 (by omega)]; omega
 ·rw [show (m:Int) - n=0 by omega,Ny]; omega
set_option maxRecDepth 100000 in
theorem Zo (va vb:Value)(m n:Nat)(w:World)(ha:Ci w va m)(hb:Ci w vb n)(sa:nl m≤10000000000000)(sb:nl n≤10000000000000)(hlt:m < n) :
  Calls prog 249 #[va,vb] w (Q0 w 0 m):=by
 have HA:=Lib.hid ha;have hc:=Fa va vb m n w ha hb sa sb;rw [C0 (by omega)] at hc;have HC:=Lib.hid hc;clear ha hb hc
 go_enter func249,ntmps249
 go_wp2_with fail
 refine HC.out.mono ?_;rintro e w' ⟨rfl,q,rfl⟩
 go_wp2_with fail
 go_ret2
 exact ⟨_,_,rfl,Ci.zero _ _ _,HA.out.ext ((Ext.refl w).drewN q),(Ext.refl w).drewN q⟩
theorem Dv {d:Nat}(h0:d≠0)(h:d < 1000000000):Aa d = [d]:=by
 rw [Ex h0,show d / 1000000000=0 by omega,Bd,show d % 1000000000=d by omega]
theorem Adp (w1:World)(r:Nat):Row (w1.alloc (Obj.cells #[Value.int IntKind.u64 (r:Int)] 266)) (some ⟨w1.heap.size,0,none⟩) (A1 [r]):=by
 intro j hj;obtain rfl:j=0:=by simpa [A1] using hj
 exact ⟨_,_,rfl,by simp [A1]⟩
set_option maxRecDepth 100000 in
theorem Xg (va vb:Value)(m n:Nat)(w:World)(ha:Ci w va m)(hb:Ci w vb n)(sa:nl m≤10000000000000)(hn0:0 < n)(hn:n < 1000000000)(hge:n≤m) :
  Calls prog 249 #[va,vb] w (Q0 w (m / n) (m % n)):=by
 have hl:=Dv (by omega) hn;have HA:=Lib.hid ha;have hc:=Fa va vb m n w ha hb sa (by unfold nl; rw [hl]; simp);obtain ⟨s,hs⟩:∃ s,s=sgn ((m:Int) - n):=⟨_,rfl⟩;have hs0:0≤s:=by rw [hs]; exact Aa4 hge
 rw [← hs] at hc;have HC:=Lib.hid hc;obtain ⟨b,cb,rfl,_,hrow⟩:=hb;rw [hl] at hrow HC ⊢;obtain ⟨bb,ob,rfl,hcb⟩:=hrow.at (j:=0) (by simp);simp only [List.getD_cons_zero,Nat.add_zero] at hcb;have hd0:decide (s < 0)=false:=by simp; omega
 clear ha hc hrow hs hl
 go_enter func249,ntmps249
 go_wp2_with fail
 refine HC.out.mono ?_;rintro e w' ⟨rfl,q,rfl⟩
 go_wp2_with fail
 have hsh:=O3 va m n _ (HA.out.ext ((Ext.refl w).drewN q)) sa hn0 hn;obtain ⟨r,hr⟩:∃ r,r=m % n:=⟨_,rfl⟩;rw [← hr] at hsh;have hrn:r < 1000000000:=by rw [hr]; have:=Nat.mod_lt m hn0; omega
 have HR:=Lib.hid hr;clear hr;refine hsh.mono ?_;rintro e w1 ⟨v,rfl,hv,hx⟩;have HV:=Lib.hid hv;have HX:=Lib.hid hx;clear hv hx hsh
 go_wp2_with fail
 have hrow:Row (w1.alloc (Obj.cells #[Value.int IntKind.u64 (r:Int)] 266)) (some ⟨w1.heap.size,0,none⟩) (A1 [r]):=Adp w1 r;refine (Fk _ _ _ [r] _ rfl (by simp) (by simp) hrow).mono ?_;rintro e w' ⟨rfl,rfl⟩;have hnat:=C3 (cap:=1) (Low.cons hrn Low.nil) hrow (n:=r) (by simp [val]) (by simp);have HNAT:=Lib.hid hnat;clear hnat hrow
 go_wp2_with fail
 go_ret2
 have hx2:=(((Ext.refl w).drewN q).trans HX.out).alloc (Obj.cells #[Value.int IntKind.u64 (r:Int)] 266);exact ⟨_,_,rfl,HV.out.ext ((Ext.refl w1).alloc _),by rw [← HR.out]; exact HNAT.out,hx2⟩
def Wj (n:Nat):Array Value:=(A1 (List.replicate n 0)).toArray
theorem R6 (W:World)(N:Int)(n:Nat)(hN:N=n)(hn:n≤30000000000000) :
  (Instr.makeSlice 112 (.int .i64 N) (.int .i64 N)).run prog W=.ok (.slice (some ⟨W.heap.size,0,none⟩) n n) (W.alloc (.cells (Wj n) 266)):=by
 subst hN;obtain ⟨i0,hi,hz0,hz1,hz2⟩:=info_parts Tryz.info266;have:=run_make (P:=prog) W 112 266 i0 (.int .u64 0) Tryz.underlying112 hi hz0 .i64 .i64 n n (by omega) (by omega) (by rw [hz2]; omega) (by omega);rw [this,Int.toNat_natCast,hz1];have e:madeCells (Value.int .u64 0).cells (n*1)=Wj n:=by
  apply Array.ext'; rw [Jf]; rfl
 rw [e]
theorem So (W:World)(base n:Nat)(hb:base≤W.heap.size)(hn:n≤30000000000000) :
  (W.alloc (.cells (Wj n) 266)).ownsRow base 266 1 (.slice (some ⟨W.heap.size,0,none⟩) n n) n (A1 (List.replicate n 0)):=by
 have:=World.ownsRow_lit (e:=266) (size:=1) (base:=base) W (Wj n) n hb (by unfold maxLen; omega) (by simp [Wj]);exact this
def Xr (w:World)(B N V:Nat)(u v:Value)(wx:World):Prop :=
 ∃ g av nv cv,u=.slice (some ⟨g,0,none⟩) N N∧v=.slice av nv cv∧nv=nl V∧wx.ownsRow B 266 1 (.slice (some ⟨g,0,none⟩) N N) N (A1 (List.replicate N 0)) ∧
  Et wx g av (A1 (Aa V))∧Ext w wx∧w.heap.size≤g
theorem Ext.grownBy (h:Ext w w')(r:Option Nat):w.grownBy w' r:=⟨h.os,h.tape,h.output,h.size,fun k hk _=>Below.block h k hk⟩
theorem Th {size g n cap k:Nat}(h:w.ownsRow base e size (.slice (some ⟨g,0,none⟩) n cap) k xs)(x:Ext w w') :
  w'.ownsRow base e size (.slice (some ⟨g,0,none⟩) n cap) k xs:=h.kept (x.grownBy none) (Or.inr (by simp [Value.ownBlock]))
theorem Aoi {W2 w3:World}{N V kk cap:Nat}(hN:N≤30000000000000)(hv:Ci w3 (.slice (some ⟨(W2.alloc (.cells (Wj N) 266)).drew.heap.size,0,none⟩) kk cap) V)
  (hx:Ext (W2.alloc (.cells (Wj N) 266)).drew w3) :
  Xr W2 W2.heap.size N V (.slice (some ⟨W2.heap.size,0,none⟩) N N) (.slice (some ⟨W2.heap.size+1,0,none⟩) kk cap) w3:=by
 have hs:(W2.alloc (.cells (Wj N) 266)).drew.heap.size=W2.heap.size+1:=by simp
 rw [hs] at hv;obtain ⟨a',c',e1,_,hr⟩:=hv;simp only [Value.slice.injEq] at e1;obtain ⟨rfl,e2,rfl⟩:=e1;refine ⟨W2.heap.size,_,_,_,rfl,rfl,e2,Th (World.ownsRow.drew (So W2 _ N (Nat.le_refl _) hN)) hx,⟨hr,?_⟩,(((Ext.refl W2).alloc _).drew).trans hx,Nat.le_refl _⟩;intro b off hb;simp only [Option.some.injEq,Addr.mk.injEq,and_true] at hb;omega
theorem Ao4 {W2 w3:World}{N V kk cap:Nat}(hN:N≤30000000000000)(hV:0 < V)(hv:Ci w3 (.slice (some ⟨W2.drew.heap.size,0,none⟩) kk cap) V)(hx:Ext W2.drew w3) :
  Xr W2 W2.heap.size N V (.slice (some ⟨w3.heap.size,0,none⟩) N N) (.slice (some ⟨W2.heap.size,0,none⟩) kk cap) (w3.alloc (.cells (Wj N) 266)):=by
 have hs:W2.drew.heap.size=W2.heap.size:=rfl;rw [hs] at hv;obtain ⟨a',c',e1,_,hr⟩:=hv;simp only [Value.slice.injEq] at e1;obtain ⟨rfl,e2,rfl⟩:=e1;have hlt:W2.heap.size < w3.heap.size:=by
  obtain ⟨b,off,h1,h2⟩:=hr.at (j:=0) (by
   have:Aa V≠[]:=fun e=>by have:=Fh.1 e; omega
   exact List.length_pos_iff.2 this)
  simp only [Option.some.injEq,Addr.mk.injEq,and_true] at h1;have:=block_lt_of_cell h2;simp only at this;omega
 have hx2:Ext W2 w3:=((Ext.refl W2).drew).trans hx;refine ⟨w3.heap.size,_,_,_,rfl,rfl,e2,So w3 _ N hx2.size hN,⟨hr.ext ((Ext.refl w3).alloc _),?_⟩,hx2.alloc _,hx2.size⟩;intro b off hb;simp only [Option.some.injEq,Addr.mk.injEq,and_true] at hb;omega
theorem Nd (h:w.ownsRow base e 1 (.slice (some ⟨g,0,none⟩) n n) n xs) :
  w.heap[g]?=some (.cells xs.toArray e (0,0))∧base≤g:=by
 rcases h.2 with ⟨h',_⟩ | ⟨g',cap',cur,h',hb,hg,_,_,hsz,htake⟩
 ·simp at h'
 ·simp only [Value.slice.injEq,Option.some.injEq,Addr.mk.injEq,and_true,true_and] at h';obtain ⟨rfl,rfl⟩:=h';rw [List.take_of_length_le (by simp; omega)] at htake;rw [← htake];exact ⟨by simpa using hg,hb⟩
theorem Abt (h:w.heap[g]?=some (.cells xs.toArray e (0,0)))(hb:base≤g)(hn:xs.length=n)(hm:n≤30000000000000) :
  w.ownsRow base e 1 (.slice (some ⟨g,0,none⟩) n n) n xs:=by
 refine ⟨by omega,Or.inr ⟨g,n,xs.toArray,rfl,hb,h,Nat.le_refl _,by unfold maxLen; omega,by simp; omega,?_⟩⟩;rw [List.take_of_length_le (by simp; omega)]
theorem V4 (w:World)(g:Nat)(cs:Array Value):w.grownBy (w.setRow g cs) (some g) :=
 ⟨rfl,rfl,rfl,by simp,fun k _ hk=>setRow_other w g k _ (fun e=>hk (by simp [e]))⟩
theorem An3 {l:List Nat}(h:w.ownsRow base 266 1 (.slice (some ⟨g,0,none⟩) N N) N (A1 (List.replicate N 0)))(hl:l.length≤N)(hN:N≤30000000000000) :
  (w.setRow g ((A1 (List.replicate N 0)).toArray.toList.take 0++(A1 l++(A1 (List.replicate N 0)).toArray.toList.drop (0+(A1 l).length))).toArray).ownsRow base 266 1 (.slice (some ⟨g,0,none⟩) N N) N
   (A1 (l++List.replicate (N - l.length) 0)):=by
 obtain ⟨h1,h2⟩:=Nd h;have e:(A1 (List.replicate N 0)).toArray.toList.take 0++(A1 l++(A1 (List.replicate N 0)).toArray.toList.drop (0+(A1 l).length))=A1 (l++List.replicate (N - l.length) 0):=by
  simp [A1]
 rw [e];exact Abt (setRow_heap w g _ _ _ _ h1) h2 (by simp; omega) hN
theorem Of {w:World}{ops:Array Oper}{rest:List Oper}{o:Oper}{a:Act}{Q:Exit→Act→World→Prop}(hgd:o.guard=none)(d s:Operand)
  (ho:o.op=.call { callee:=.builtin .copy,args:=#[d,s],argTypes:=#[112,112] })
  (base g N sLen sCap:Nat) (ad:Addr) (l:List Nat) (hd:a.eval d=.slice (some ⟨g,0,none⟩) N N) (hs:a.eval s=.slice (some ad) sLen sCap)
  (hown:w.ownsRow base 266 1 (.slice (some ⟨g,0,none⟩) N N) N (A1 (List.replicate N 0))) (hl:l.length=sLen) (hN:N≤30000000000000) (hle:l.length≤N)
  (hsrc:Row w (some ad) (A1 l))
  (h:∀ w',w'.ownsRow base 266 1 (.slice (some ⟨g,0,none⟩) N N) N (A1 (l++List.replicate (N - l.length) 0))→w.grownBy w' (some g)→wpList prog ops Q rest (a.put o.dst (goInt (A1 l).length)) w') :
  wpList prog ops Q (o::rest) a w:=by
 obtain ⟨i0,hi,hz0,hz1,hz2⟩:=info_parts Tryz.info266;refine wpList_copy_own hgd d s _ _ ho 266 Tryz.underlying112 (by rw [hi]; simp [hz1]) g 0 N N ad sLen sCap hd hs (A1 (List.replicate N 0)).toArray 266 (Nd hown).1 (A1 l)
  (by rw [Qh,hl]; exact (Nat.min_eq_left (by omega)).symm) (fun j v hj=>?_) (by simp; omega) (fun v hv=>?_) (h _ (An3 hown hle hN) (V4 _ _ _))
 ·have hjl:j < l.length:=by
   rcases Nat.lt_or_ge j l.length with h | h
   ·exact h
   ·rw [List.getElem?_eq_none (by simpa using h)] at hj; cases hj
  obtain ⟨b',off',h1,h2⟩:=hsrc j (by simpa using hjl);simp only [Option.some.injEq] at h1;subst h1;have:(⟨b',off',none⟩:Addr).add j=⟨b',off'+j,none⟩:=by
   unfold Addr.add; split
   ·rename_i h; subst h; rfl
   ·rfl
  rw [this,h2,List.getD_eq_getElem?_getD,hj]; rfl
 ·obtain ⟨x,_,rfl⟩:=List.mem_map.1 hv; rfl
def Anv (w:World)(A V n M N g gq:Nat)(av:Option Addr)(i:Value)(wr:World):Prop :=
 ∃ (j:Nat) (u qs:List Nat),j≤M∧i=.int .i64 ((j:Int) - 1)∧K7 A V n M j u qs ∧
  wr.ownsRow w.heap.size 266 1 (.slice (some ⟨g,0,none⟩) N N) N (A1 u)∧wr.ownsRow w.heap.size 266 1 (.slice (some ⟨gq,0,none⟩) M M) M (A1 qs) ∧
  Et wr g av (A1 (Aa V))∧Et wr gq av (A1 (Aa V))∧Ext w wr
theorem Et.ext {w w':World}{g:Nat}{a:Option Addr}{cs:List Value}(h:Et w g a cs)(x:Ext w w'):Et w' g a cs:=⟨h.1.ext x,h.2⟩
theorem Et.new {a:Option Addr}{cs:List Value}(h:Et w g a cs)(hc:0 < cs.length)(x:Ext w w'):Et w' w.heap.size a cs:=by
 refine ⟨h.1.ext x,fun b off hb=>?_⟩;obtain ⟨b',off',h1,h2⟩:=h.1 0 hc;have:=block_lt_of_cell h2;rw [hb] at h1;simp only [Option.some.injEq,Addr.mk.injEq,and_true] at h1;simp only at this;omega
theorem Al4 (h:w.ownsRow base e 1 (.slice (some ⟨g,0,none⟩) n n) k xs):g < w.heap.size:=(h.lt g rfl).2
theorem R9 {base e g g' n k:Nat}(h:w.ownsRow base e 1 (.slice (some ⟨g,0,none⟩) n n) k xs)(hg:w.grownBy w' (some g'))(hne:g≠g') :
  w'.ownsRow base e 1 (.slice (some ⟨g,0,none⟩) n n) k xs:=h.kept hg (Or.inr (by simp [Value.ownBlock,hne]))
set_option maxRecDepth 100000 in
theorem Zi (va vb:Value)(m n k:Nat)(w:World)(ha:Ci w va m)(hb:Ci w vb n)(sa:nl m≤5000000000000)(hn:nl n=k+2)(hge:n≤m) :
  Calls prog 249 #[va,vb] w (Q0 w (m / n) (m % n)):=by
 obtain ⟨i0,hi,hz0,hz1,hz2⟩:=info_parts Tryz.info266;have HI:=Lib.hid hi;have HZ0:=Lib.hid hz0;have HZ1:=Lib.hid hz1;have HZ2:=Lib.hid hz2;clear hi hz0 hz1 hz2;have hnm:k+2≤nl m:=by rw [← hn]; exact C6 hge
 have hc:=Fa va vb m n w ha hb (by omega) (by omega);obtain ⟨s,hs⟩:∃ s,s=sgn ((m:Int) - n):=⟨_,rfl⟩;have hs0:0≤s:=by rw [hs]; exact Aa4 hge
 rw [← hs] at hc;have HC:=Lib.hid hc;have HNP:Hid (0 < n):=by
  rcases Nat.eq_zero_or_pos n with h0 | h0
  ·rw [h0,Qy] at hn; omega
  ·exact h0
 have HA:=Lib.hid ha;have HB:=Lib.hid hb;have hnorm:=Ama.make hn;obtain ⟨a,ca,rfl,_,hrowa⟩:=ha;obtain ⟨b,cb,rfl,_,hrow⟩:=hb;have hlen:(Aa n).length=k+2:=hn;have hlenm:(Aa m).length=nl m:=rfl;obtain ⟨bb,ob,rfl,hcb⟩:=hrow.at (j:=k+1) (by omega);obtain ⟨b1,hb1⟩:∃ b1,b1=(Aa n).getD (k+1) 0:=⟨_,rfl⟩;have hb1l:b1 < 1000000000:=by rw [hb1]; exact (Am n).getD _
 rw [← hb1] at hcb hnorm;rw [hlen] at HC HB ⊢;rw [hlenm] at HC HA ⊢;obtain ⟨f,hf⟩:∃ f,f=1000000000 / (b1+1):=⟨_,rfl⟩;rw [← hf] at hnorm;obtain ⟨L,hL⟩:∃ L,L=nl m:=⟨_,rfl⟩;rw [← hL] at HC HA sa hnm ⊢;have hfi:(1000000000:Int) / ((b1:Int)+1)=(f:Int):=by rw [hf]; simp
 have hf1:=hnorm.pos;have hf2:=hnorm.low;have HNM:=Lib.hid hnorm;have HL:=Lib.hid hL;have HF:=Lib.hid hf;have hd0:decide (s < 0)=false:=by simp; omega
 have hd1:(((k:Int)+2) == 1)=false:=by simp; omega
 clear hc hrow hrowa hs hlen hlenm hnorm hb1 hL hf hn
 go_enter func249,ntmps249
 go_wp2_with fail
 refine HC.out.mono ?_;rintro e w' ⟨rfl,q,rfl⟩
 go_upto_region 7 with fail
 have x2:Ext w ((w.drewN q).alloc (Obj.cells #[Value.int IntKind.u64 (f:Int)] 266)):=((Ext.refl w).drewN q).alloc _;have hfr:Ci ((w.drewN q).alloc (Obj.cells #[Value.int IntKind.u64 (f:Int)] 266)) (.slice (some ⟨w.heap.size,0,none⟩) 1 1) f:=by
  refine ⟨_,1,by rw [Dv (by omega) hf2]; rfl,by rw [Dv (by omega) hf2]; simp,?_⟩;rw [Dv (by omega) hf2]; exact Adp (w.drewN q) f
 have hfc:((w.drewN q).alloc (Obj.cells #[Value.int IntKind.u64 (f:Int)] 266)).cell? ⟨w.heap.size,0,none⟩=some (.int .u64 (f:Int)):=World.cell?_alloc_new (w:=w.drewN q) _ _ _;generalize (w.drewN q).alloc (Obj.cells #[Value.int IntKind.u64 (f:Int)] 266)=W2 at *
 have X2:=Lib.hid x2;have HFR:=Lib.hid hfr;have HFC:=Lib.hid hfc;clear x2 hfr hfc HC
 go_cut [9,10] (Xr W2 W2.heap.size (L+1) (n*f))
 case first =>
  have hmk:=fun W:World=>R6 W ((L:Int)+1) (L+1) (by omega) (by omega);have hmul:=fun (W:World) (x:Ext W2 W)=>O6 _ _ n f W (HB.out.ext (X2.out.trans x)) (HFR.out.ext x) (by rw [HNM.out.len]; omega) (by unfold nl; rw [Dv (by omega) hf2]; simp);have HM:=Lib.hid hmul;clear hmul;have hw1:IntKind.i64.wrap ((L:Int)+1)=(L:Int)+1:=IntWalk.i64_in _ (by omega)
  go_region_with (first | (go_at_call 198; refine (HM.out _ ?_).mono ?_; (first | exact (Ext.refl _).drew | exact ((Ext.refl _).alloc _).drew | exact ((Ext.refl _).drew).alloc _); rintro e w3 ⟨kk,cap,rfl,hv,hx⟩))
  all_goals (try go_wp2_with fail)
  all_goals go_meet
  ·exact Aoi (by omega) hv hx
  ·exact Ao4 (by omega) (Nat.mul_pos HNP.out (by omega)) hv hx
 case rest =>
  obtain ⟨g,av,nv,cv,rfl,rfl,hnv,hown,hvr,hx,hg⟩:=hcut;rw [HNM.out.vlen] at hnv;subst hnv;have HO:=Lib.hid hown;have HV:=Lib.hid hvr;have HX:=Lib.hid hx;clear hown hvr hx
  go_wp2_with fail
  refine (O6 _ _ m f _ (HA.out.ext (X2.out.trans HX.out)) (HFR.out.ext HX.out) (by rw [← HL.out]; omega) (by unfold nl; rw [Dv (by omega) hf2]; simp)).mono ?_;rintro e w3 ⟨kk,cap,rfl,hv,hx⟩;obtain ⟨au,cu,e1,_,hru⟩:=hv;simp only [Value.slice.injEq] at e1;obtain ⟨rfl,e2,rfl⟩:=e1;have hlu:(Aa (m*f)).length≤L+1:=by
   have h1:=Fp m f;have h2:nl f≤1:=by unfold nl; rw [Dv (by omega) hf2]; simp
   rw [← HL.out] at h1;unfold nl at h1 h2; omega
  have ho3:=Th HO.out hx;have HO3:=Lib.hid ho3;have HX3:=Lib.hid hx;have HLU:=Lib.hid hlu;have HE2:=Lib.hid e2;have HRU:=Lib.hid hru;clear ho3 hx hlu e2 hru;obtain ⟨M,hM⟩:∃ M,M=L+1 - (k+2):=⟨_,rfl⟩;have hM1:L+1=M+(k+2):=by omega
  have HMM:=Lib.hid hM;have HM1:=Lib.hid hM1;have hM2:M≤L:=by omega
  clear hM hM1
  go_wp2_with (first
   | (with_reducible refine Of rfl (.tmp 49) (.tmp 52) rfl W2.heap.size g (L+1) kk _ ⟨wc.heap.size,0,none⟩ (Aa (m*f)) rfl rfl HO3.out HE2.out.symm (by omega) HLU.out HRU.out ?_; intro w4 ho4 hg4; have HO4:=Lib.hid ho4; have HG4:=Lib.hid hg4; clear ho4 hg4; have X4:=Lib.hid ((HX.out.trans HX3.out).grown HG4.out (fun k' hk'=>by cases hk'; exact hg)); have HV4:=Lib.hid ((HV.out.ext HX3.out).grown HG4.out))
   | (at_make; refine wpList_make_full _ rfl _ _ 112 rfl W2.heap.size 266 i0 (.int .u64 0) 1 Tryz.underlying112 HI.out HZ0.out HZ1.out .i64 .i64 _ _ M rfl rfl (by have:=HMM.out; omega) (by have:=HMM.out; omega) (by rw [HZ2.out]; omega) (by unfold maxLen; omega) X4.out.size ?_; intro w5 ho5 hg5; rw [Jf] at ho5; have HO5:=Lib.hid ho5; have X5:Hid (Ext w4 w5):=(Ext.refl w4).grown hg5 (fun k' hk'=>by cases hk'); clear ho5 hg5))
  have hgq:g≠w4.heap.size:=by have:=Al4 HO4.out; omega
  have hvlen:0 < (A1 (Aa (n*f))).length:=by rw [Qh]; have:=HNM.out.vlen; unfold nl at this; omega
  have HV5:=Lib.hid (HV4.out.ext X5.out);have HQ5:=Lib.hid (HV4.out.new hvlen X5.out);have HU5:=Lib.hid (Th HO4.out X5.out);have XX5:=Lib.hid (X4.out.trans X5.out);generalize w4.heap.size=gq at *
  clear HO HV HO3 HX3 HRU HV4 HO4 HG4 X4 X5 hvlen
  go_loopw [12] (Anv W2 (m*f) (n*f) (k+2) M (L+1) g gq av) (fun i _=>(intOf i+1).toNat)
  case atStart =>
   have hu5:=HU5.out;rw [show L+1 - (Aa (m*f)).length=M+(k+2) - nl (m*f) by unfold nl; have:=HM1.out; omega] at hu5;exact ⟨M,_,_,Nat.le_refl _,rfl,K7.start HNM.out (by rw [← HL.out]; exact HM1.out),hu5,HO5.out,HV5.out,HQ5.out,XX5.out⟩
  case round =>
   obtain ⟨j,u,qs,hj,rfl,hst,hou,hoq,hvu,hvq,hx⟩:=hrel;have HS:=Lib.hid hst;have HU:=Lib.hid hou;have HQ:=Lib.hid hoq;have HVU:=Lib.hid hvu;have HVQ:=Lib.hid hvq;have HXR:=Lib.hid hx;clear hst hou hoq hvu hvq hx HV5 HQ5 HU5 XX5 HO5;rcases j with _ | j
   ·have hdone:=HS.out.done (Nat.mul_pos HNP.out (by omega));rw [(Aan (m:=m) (n:=n) (show 0 < f by omega)).1,(Aan (m:=m) (n:=n) (show 0 < f by omega)).2] at hdone;have hul:u.length=L+1:=by rw [HS.out.ulen]; exact HM1.out.symm
    have hrowu:=Row.of_owns HU.out;have hrowq:=Row.of_owns HQ.out;have hfc:=HXR.out.cell HFC.out;have hut:val (u.take (k+2))=(m % n)*f:=by
     rw [← hdone.2];have:=Gi (u:=u) (j:=0) (k:=k+2) (fun i hi=>HS.out.zero i hi);simpa using this
    have HUT:=Lib.hid hut;have HDN:=Lib.hid hdone;have HRU:=Lib.hid hrowu;have HRQ:=Lib.hid hrowq;have HUL:=Lib.hid hul;clear hdone hul hrowu hrowq hut;have hrt:Row wr (some ⟨g,0,none⟩) (A1 (u.take (k+2))):=by rw [← U1]; exact HRU.out.take _
    have hltk:(u.take (k+2)).length=k+2:=by rw [List.length_take,HUL.out]; have:=HM1.out; omega
    obtain ⟨X,hX⟩:∃ X,X=Value.slice (some ⟨g,0,none⟩) (Bj (u.take (k+2)) (u.take (k+2)).length) (L+1):=⟨_,rfl⟩;have hXn:Ci wr X ((m % n)*f):=by
     rw [hX]; exact C3 (HS.out.ulow.take _) hrt HUT.out (by rw [hltk]; have:=HM1.out; omega)
    have htr:∀ W,Ext wr W→Calls prog 228 #[.slice (some ⟨g,0,none⟩) (k+2) (L+1)] W fun e w'=>e=.returned X∧W=w':=fun W x=>by
     rw [hX]; exact Fk _ _ _ _ W hltk (by omega) (by have:=HM1.out; omega) (hrt.ext x)
    have hmn:nl ((m % n)*f)≤10000000000000:=by
     have h1:=Fp (m % n) f;have h2:nl f≤1:=by unfold nl; rw [Dv (by omega) hf2]; simp
     have h3:nl (m % n)≤nl m:=C6 (Nat.mod_le _ _);rw [← HL.out] at h3; omega
    have hsh:∀ W,Ext wr W→Calls prog 292 #[X,.int .u64 f] W (M3 W (m % n) 0):=fun W x=>by
     have:=O3 X ((m % n)*f) f W (hXn.ext x) hmn (by omega) hf2;rw [Nat.mul_div_cancel _ (by omega),Nat.mul_mod_left] at this;exact this
    have HTR:=Lib.hid htr;have HSH:=Lib.hid hsh;clear htr hsh hX hrt hltk hXn hmn;have hM3:M≤9223372036854775807:=by omega
    have hqz:HQ=HQ:=rfl;clear hqz
    go_wp2_with fail
    go_region_with (first
     | (go_at_call 228; refine (HTR.out _ ?_).mono ?_; (exact (Ext.refl _).drew); rintro e w7 ⟨rfl,rfl⟩)
     | (go_at_call 292; refine (HSH.out _ ?_).mono ?_; (exact (Ext.refl _).drew); rintro e w7 ⟨v7,rfl,hv7,hx7⟩))
    all_goals
     have HV7:=Lib.hid hv7;have HX7:Hid (Ext wr w7):=((Ext.refl wr).drew).trans hx7;clear hv7 hx7
     go_wp2_with fail
     refine (Fk _ _ _ qs _ HS.out.qlen hM3 (Nat.le_refl _) (HRQ.out.ext HX7.out)).mono ?_;rintro e w8 ⟨rfl,rfl⟩
     go_wp2_with fail
     go_ret2
     have hqn:=C3 (cap:=M) HS.out.qlow (HRQ.out.ext HX7.out) (n:=m / n) HDN.out.1 (by rw [HS.out.qlen]; exact Nat.le_refl _);exact ⟨_,_,rfl,hqn,HV7.out,(X2.out.trans HXR.out).trans HX7.out⟩
   ·rw [show ((j+1:Nat):Int) - 1=j by omega];have hul:u.length=L+1:=by rw [HS.out.ulen]; exact HM1.out.symm
    have hbef:=HS.out.before (show j < M by omega);have hqlt:val ((u.drop j).take (k+2+1)) / (n*f) < 1000000000:=by
     rw [Nat.div_lt_iff_lt_mul (Nat.mul_pos HNP.out (by omega))]; exact hbef
    have hstep:=Aft W2.heap.size g (L+1) j k (L+1 - j) av cv u (Aa (n*f)) wr HU.out HVU.out hul HS.out.ulow (Am _) HNM.out.vlen (by have:=HM1.out; omega) (by omega) (by have:=HM1.out; omega) HNM.out.vtop (by rw [Aj]; exact hbef);rw [Aj] at hstep;obtain ⟨qd,hqd⟩:∃ qd,qd=val ((u.drop j).take (k+2+1)) / (n*f):=⟨_,rfl⟩;have HQD:=Lib.hid hqd;have HST:=Lib.hid hstep;have hm1:=HM1.out;have hjj:j+(k+2)+1≤L+1:=by omega
    have hjm:j < M:=by omega
    have hcz:L+1≠j:=by omega
    clear hqd hstep hbef hul hm1
    go_wp2_with fail
    rw [show j+(k+2)+1 - j=k+3 by omega];refine HST.out.mono ?_;rintro e w6 ⟨o,rfl,hsd,how,hgr⟩;rw [← HQD.out];have hq6:=R9 HQ.out hgr hgq.symm;have hcq:=Fs hq6 (j:=j) (by rw [HS.out.qlen]; omega);have hfq:=hq6.frozenAt j;have HQ6:=Lib.hid hq6;have HU6:=Lib.hid how;have HGR:=Lib.hid hgr;have HSD:=Lib.hid hsd;clear hq6 how hgr hsd
    go_wp2_with fail
    have hset:=Js j qd HQ6.out (Rq w6 (some gq));refine ⟨⟨j,o,qs.set j qd,by omega,rfl,?_,R9 HU6.out hset.2 hgq,hset.1,?_,?_,?_⟩,by simp only [intOf]; omega⟩
    ·rw [HQD.out];exact HS.out.step hjm (Nat.mul_pos HNP.out (by omega)) (by have:=Cd (n*f); rw [HNM.out.vlen] at this; exact this) HSD.out hqlt
    ·refine ⟨?_,HVU.out.2⟩;exact (Et.grown ⟨(HVU.out.grown HGR.out).1,HVQ.out.2⟩ hset.2).1
    ·exact Et.grown ⟨(HVU.out.grown HGR.out).1,HVQ.out.2⟩ hset.2
    ·have x6:=HXR.out.grown HGR.out (fun k' hk'=>by cases hk'; exact hg);exact x6.grown hset.2 (fun k' hk'=>by cases hk'; exact (Nd HQ.out).2)
theorem Ub (va vb:Value)(m n:Nat)(w:World)(ha:Ci w va m)(hb:Ci w vb n)(sa:nl m≤5000000000000)(sb:nl n≤5000000000000)(hn:0 < n) :
  Calls prog 249 #[va,vb] w (Q0 w (m / n) (m % n)):=by
 rcases Nat.lt_or_ge m n with h | h
 ·rw [Nat.div_eq_of_lt h,Nat.mod_eq_of_lt h];exact Zo va vb m n w ha hb (by omega) (by omega) h
 ·rcases Nat.lt_or_ge n 1000000000 with h2 | h2
  ·exact Xg va vb m n w ha hb (by omega) hn h2 h
  ·have h3:2≤nl n:=by
    rcases Nat.lt_or_ge (nl n) 2 with h4 | h4
    ·have h5:=Cd n;have h6:1000000000 ^ nl n≤1000000000 ^ 1:=Nat.pow_le_pow_right (by omega) (by omega);rw [Nat.pow_one] at h6;omega
    ·exact h4
   exact Zi va vb m n (nl n - 2) w ha hb sa (by omega) h
end
section
open Go.RowKit
variable {n:Nat}
theorem Aeu (h:nl n≤2):n=(Aa n).getD 1 0*1000000000+(Aa n).getD 0 0:=by
 have h1:=Wh (Aa n) 0;rw [List.take_of_length_le (show (Aa n).length≤0+2 from h),Aj] at h1;simp only [List.take_zero,val,Nat.pow_zero,Nat.one_mul,Nat.zero_add] at h1;omega
set_option maxRecDepth 100000 in
theorem W9 (va:Value)(n:Nat)(w:World)(ha:Ci w va n)(h:nl n≤2) :
  Calls prog 291 #[va] w fun e w'=>e=.returned (.int .u64 (n:Int))∧w=w':=by
 have hs:=Aeu h;obtain ⟨a,c,rfl,_,hr⟩:=ha;have hx:=Tk a c (Aa n) 1 w (by unfold nl at h; omega) (by omega) hr;have hy:=Tk a c (Aa n) 0 w (by unfold nl at h; omega) (by omega) hr;rw [show (1:Int).toNat=1 by rfl] at hx;rw [show (0:Int).toNat=0 by rfl] at hy;have b1:=(Am n).getD 1;have b0:=(Am n).getD 0;obtain ⟨x,ex⟩:∃ x,x=(Aa n).getD 1 0:=⟨_,rfl⟩;obtain ⟨y,ey⟩:∃ y,y=(Aa n).getD 0 0:=⟨_,rfl⟩;rw [← ex] at hx b1 hs;rw [← ey] at hy b0 hs;have HX:=Lib.hid hx;have HY:=Lib.hid hy;have HS:=Lib.hid hs;clear hx hy hs ex ey hr
 go_enter func291,ntmps291
 go_wp2_with fail
 refine HX.out.mono ?_;rintro e w' ⟨rfl,rfl⟩
 go_wp2_with fail
 refine HY.out.mono ?_;rintro e w' ⟨rfl,rfl⟩
 go_wp2_with fail
 go_ret
 exact ⟨Al8 (by have:=HS.out; omega),rfl⟩
theorem U9 (h:nl n≤2):n < 1000000000000000000:=by
 have h1:=Cd n;have h2:1000000000 ^ nl n≤1000000000 ^ 2:=Nat.pow_le_pow_right (by omega) h;rw [show (1000000000:Nat) ^ 2=1000000000000000000 by rfl] at h2;omega
theorem T3 (m n:Nat):Nat.gcd n (m % n)=Nat.gcd m n:=by rw [Nat.gcd_comm m n,Nat.gcd_rec n m,Nat.gcd_comm]
end
section
open Go.RowKit
variable {b:Bool}{g n:Nat}{s:Value}{t:TypeId}{w:World}
def Abu (w:World)(v:Value)(z:Int):Prop:=∃ a n c,v=.agg #[.bool (decide (z < 0)),.slice a n c]∧Ci w (.slice a n c) z.natAbs
def Ah9 (w:World)(z:Int)(e:Ending)(w':World):Prop:=∃ v,e=.returned v∧Abu w' v z∧Ext w w'
def Bp (neg:Bool)(n:Nat):Int:=if neg then -(n:Int) else n
theorem Ik (neg:Bool)(n:Nat):(Bp neg n).natAbs=n:=by unfold Bp; split <;> omega
theorem Tr (neg:Bool)(n:Nat):decide (Bp neg n < 0)=(neg && decide (0 < n)):=by
 unfold Bp; cases neg <;> simp <;> omega
theorem Po (z:Int):Bp (decide (z < 0)) z.natAbs=z:=by
 unfold Bp; by_cases h:z < 0 <;> simp [h] <;> omega
theorem W5 {b neg:Bool}(hb:b=(neg && decide (0 < n)))(hs:Ci w s n):Abu w (.agg #[.bool b,s]) (Bp neg n):=by
 obtain ⟨a,c,rfl,h2⟩:=id hs;exact ⟨a,_,c,by rw [Tr,hb],by rw [Ik]; exact hs⟩
theorem Amq {z:Int}(hb:b=decide (z < 0))(hs:Ci w s z.natAbs):Abu w (.agg #[.bool b,s]) z:=by
 obtain ⟨a,c,rfl,h2⟩:=id hs;exact ⟨a,_,c,by rw [hb],hs⟩
theorem Ce :0 < (Aa n).length↔0 < n:=by
 constructor
 ·intro h; rcases Nat.eq_zero_or_pos n with h0 | h0
  ·rw [h0,Bd] at h; simp at h
  ·exact h0
 ·intro h; exact List.length_pos_iff.2 (fun e=>by have:=Fh.1 e; omega)
theorem Mq (w:World)(a:Addr)(v:Value):w.grownBy (w.setCell a v) (some a.block) :=
 ⟨rfl,rfl,rfl,by simp [World.setCell],fun k _ hk=>Below.heap_setCell _ _ _ _ (fun e=>hk (by rw [e]))⟩
def Aj4 (w:World)(g:Nat):Prop:=∃ (cs:Array Value) (t:TypeId) (fr:Nat×Nat),w.heap[g]?=some (.cells cs t fr)∧∀ (j:Nat) (k:IntKind) (z:Int),cs[j]?≠some (Value.int k z)
theorem Ci.grown {w w':World}(h:Ci w s n)(hg:Aj4 w g)(hw:w.grownBy w' (some g)):Ci w' s n:=by
 obtain ⟨a,c,h1,h2,h3⟩:=h;refine ⟨a,c,h1,h2,fun j hj=>?_⟩;obtain ⟨b,off,e1,e2⟩:=h3 j hj;refine ⟨b,off,e1,hw.cell e2 ?_⟩;simp only [ne_eq,Option.some.injEq];intro e;obtain ⟨cs,t,fr,hb,hno⟩:=hg;rw [← e] at hb;rw [cell_of_row _ _ _ _ _ _ hb] at e2;have hj':j < (Aa n).length:=by simpa using hj
 refine hno _ .u64 ((Aa n).getD j 0:Nat) (e2.trans ?_);simp [A1,hj']
theorem Ai4 {o0 o1 v0 v1:Value}(h:w.heap[g]?=some (.cells #[o0,o1] t (0,0))) :
  ((w.setCell ⟨g,0,none⟩ v0).setCell ⟨g,1,none⟩ v1).heap[g]?=some (.cells #[v0,v1] t (0,0)):=by
 rw [heap_setCell_same _ _ _ _ _ _ (heap_setCell_same _ _ _ _ _ _ h)]; rfl
theorem An0 (w:World)(g:Nat)(v0 v1:Value):w.grownBy ((w.setCell ⟨g,0,none⟩ v0).setCell ⟨g,1,none⟩ v1) (some g) :=
 Qd (Mq _ _ _) (Mq _ _ _)
theorem Apx {a w:World}(h:Ext a w)(hg:a.heap.size≤g)(v0 v1:Value):Ext a ((w.setCell ⟨g,0,none⟩ v0).setCell ⟨g,1,none⟩ v1) :=
 (h.setCell (p:=⟨g,0,none⟩) hg v0).setCell (p:=⟨g,1,none⟩) hg v1
theorem Ak8 {a:Option Addr}{n c:Nat}(h:w.heap[g]?=some (.cells #[.bool b,.slice a n c] t (0,0))):Aj4 w g:=by
 refine ⟨_,_,_,h,fun j k z e=>?_⟩
 match j with
 | 0=>simp at e
 | 1=>simp at e
 | j+2=>simp at e
theorem Tryz.size114:(prog.info? 114).map (·.size)=some 2:=by kernel_rfl
theorem Alg {fn:Func}{p:Tmp}{R:Ending→World→Prop}{a:Act}{w:World}{g:Nat}{v0 v1:Value}(h:fn.results = #[.cell p 114])
  (hp:a.tmps.getD p undef=.pointer (some ⟨g,0,none⟩)) (hg:w.heap[g]?=some (.cells #[v0,v1] 114 (0,0))) (hd:a.defers = []) (hR:R (.returned (.agg #[v0,v1])) w) :
  bodyPost prog fn R .ret a w :=
 ⟨hd,_,results_cell_row h a.tmps w g _ _ _ _ hp hg Tryz.underlying114 rfl Tryz.size114,hR⟩
set_option maxRecDepth 100000 in
theorem Acb (neg:Bool)(s:Value)(n:Nat)(w:World)(h:Ci w s n)(hn:nl n≤100000000000000) :
  Calls prog 197 #[.bool neg,s] w (Ah9 w (Bp neg n)):=by
 have H:=Lib.hid h;obtain ⟨a,c,rfl,_,_⟩:=h;have hl:(Aa n).length≤100000000000000:=hn;by_cases hp:0 < (Aa n).length
 ·have hd:decide (0 < ((Aa n).length:Int))=true:=by simp; omega
  have hp':=Ce.1 hp;cases neg
  ·go_enter func197,ntmps197
   go_wp2_with fail
   refine bodyPost_ret (v:=.agg #[.bool false,.slice a (Aa n).length c]) (by simp [results,Tryz.results197,go_sem]) rfl ⟨_,rfl,W5 rfl (H.out.ext ((Ext.refl w).alloc _)),(Ext.refl w).alloc _⟩
  ·go_enter func197,ntmps197
   go_wp2_with fail
   refine bodyPost_ret (v:=.agg #[.bool true,.slice a (Aa n).length c]) (by simp [results,Tryz.results197,go_sem]) rfl ⟨_,rfl,W5 (by simp [hp']) (H.out.ext ((Ext.refl w).alloc _)),(Ext.refl w).alloc _⟩
 ·have hd:decide (0 < ((Aa n).length:Int))=false:=by simp only [decide_eq_false_iff_not]; omega
  have hp':¬ 0 < n:=fun h=>hp (Ce.2 h);cases neg
  ·go_enter func197,ntmps197
   go_wp2_with fail
   refine bodyPost_ret (v:=.agg #[.bool false,.slice a (Aa n).length c]) (by simp [results,Tryz.results197,go_sem]) rfl ⟨_,rfl,W5 rfl (H.out.ext ((Ext.refl w).alloc _)),(Ext.refl w).alloc _⟩
  ·go_enter func197,ntmps197
   go_wp2_with fail
   refine bodyPost_ret (v:=.agg #[.bool false,.slice a (Aa n).length c]) (by simp [results,Tryz.results197,go_sem]) rfl ⟨_,rfl,W5 (by simp [hp']) (H.out.ext ((Ext.refl w).alloc _)),(Ext.refl w).alloc _⟩
end
section
open Go.RowKit
variable {g:Nat}{t:TypeId}{w:World}{y z:Int}
theorem Amc {x y:Value}(h:w.heap[g]?=some (.cells #[x,y] t (0,0))):w.cell? ⟨g,0,none⟩=some x:=by rw [cell_of_row _ _ _ _ _ _ h]; rfl
theorem Als {x y:Value}(h:w.heap[g]?=some (.cells #[x,y] t (0,0))):w.cell? ⟨g,1,none⟩=some y:=by rw [cell_of_row _ _ _ _ _ _ h]; rfl
theorem Aaa (y z:Int):Bp (!(decide (y < 0) == decide (z < 0))) (y.natAbs*z.natAbs)=y*z:=by
 unfold Bp;have e:((y.natAbs*z.natAbs:Nat):Int)=(y.natAbs:Int)*z.natAbs:=Int.natCast_mul _ _;rw [e];by_cases hy:y < 0 <;> by_cases hz:z < 0 <;> simp [hy,hz]
 ·rw [show (y.natAbs:Int) = -y by omega,show (z.natAbs:Int) = -z by omega,Int.neg_mul_neg]
 ·rw [show (y.natAbs:Int) = -y by omega,show (z.natAbs:Int)=z by omega,Int.neg_mul,Int.neg_neg]
 ·rw [show (y.natAbs:Int)=y by omega,show (z.natAbs:Int) = -z by omega,Int.mul_neg,Int.neg_neg]
 ·rw [show (y.natAbs:Int)=y by omega,show (z.natAbs:Int)=z by omega]
theorem Zq (hs:decide (y < 0)=decide (z < 0)):Bp (decide (y < 0)) (y.natAbs+z.natAbs)=y+z:=by
 unfold Bp;by_cases hy:y < 0 <;> by_cases hz:z < 0 <;> simp [hy,hz] at hs ⊢ <;> omega
theorem Ve (hs:decide (y < 0)≠decide (z < 0))(h:z.natAbs≤y.natAbs):Bp (decide (y < 0)) (y.natAbs - z.natAbs)=y+z:=by
 unfold Bp;by_cases hy:y < 0 <;> by_cases hz:z < 0 <;> simp [hy,hz] at hs ⊢ <;> omega
theorem Uq (hs:decide (y < 0)≠decide (z < 0))(h:y.natAbs < z.natAbs):Bp (decide (z < 0)) (z.natAbs - y.natAbs)=y+z:=by
 unfold Bp;by_cases hy:y < 0 <;> by_cases hz:z < 0 <;> simp [hy,hz] at hs ⊢ <;> omega
end
section
open Go.RowKit
end
section
open Go.RowKit
variable {y z:Int}
theorem Wd {y z q r:Int}(h:y=z*q+r)(h0:0≤r)(h1:r < z.natAbs):y / z=q∧y % z=r:=by
 have hz:z≠0:=by intro e; subst e; simp at h1; omega
 have e1:y % z=r:=by
  rw [h,Int.add_comm,Int.add_mul_emod_self_left];rcases Int.lt_or_gt_of_ne hz with hn | hn
  ·rw [← Int.emod_neg]; exact Int.emod_eq_of_lt h0 (by omega)
  ·exact Int.emod_eq_of_lt h0 (by omega)
 refine ⟨?_,e1⟩;have:=Int.mul_ediv_add_emod y z;rw [e1,h] at this;have e2:z*((z*q+r) / z)=z*q:=by omega
 rw [h];exact Int.eq_of_mul_eq_mul_left hz e2
theorem T9 (hy:¬ y < 0)(hz:z≠0):Bp (!(decide (y < 0) == decide (z < 0))) (y.natAbs / z.natAbs)=y / z∧Bp false (y.natAbs % z.natAbs)=y % z:=by
 have hd:=Nat.div_add_mod y.natAbs z.natAbs;have hm:=Nat.mod_lt y.natAbs (show 0 < z.natAbs by omega);generalize y.natAbs / z.natAbs=q at *
 generalize y.natAbs % z.natAbs=r at *
 have hd':(z.natAbs:Int)*q+r=y.natAbs:=by rw [← hd]; simp
 have:=Wd (y:=y) (z:=z) (q:=Bp (!(decide (y < 0) == decide (z < 0))) q) (r:=(r:Int)) (by
  unfold Bp;by_cases h:z < 0
  ·rw [show (!(decide (y < 0) == decide (z < 0)))=true by simp [hy,h],if_pos rfl,Int.mul_neg];rw [show (z.natAbs:Int) = -z by omega,Int.neg_mul] at hd';omega
  ·rw [show (!(decide (y < 0) == decide (z < 0)))=false by simp [hy,h],if_neg (by simp)];rw [show (z.natAbs:Int)=z by omega] at hd';omega) (by omega) (by omega)
 exact ⟨this.1.symm,by rw [this.2]; rfl⟩
theorem T8 (hy:y < 0)(hz:z≠0)(hr:y.natAbs % z.natAbs=0):Bp (!(decide (y < 0) == decide (z < 0))) (y.natAbs / z.natAbs)=y / z∧Bp false (y.natAbs % z.natAbs)=y % z:=by
 have hd:=Nat.div_add_mod y.natAbs z.natAbs;rw [hr] at hd ⊢;generalize y.natAbs / z.natAbs=q at *
 have hd':(z.natAbs:Int)*q=y.natAbs:=by rw [← hd]; simp
 have:=Wd (y:=y) (z:=z) (q:=Bp (!(decide (y < 0) == decide (z < 0))) q) (r:=0) (by
  unfold Bp;by_cases h:z < 0
  ·rw [show (!(decide (y < 0) == decide (z < 0)))=false by simp [hy,h],if_neg (by simp)];rw [show (z.natAbs:Int) = -z by omega,Int.neg_mul] at hd';omega
  ·rw [show (!(decide (y < 0) == decide (z < 0)))=true by simp [hy,h],if_pos rfl,Int.mul_neg];rw [show (z.natAbs:Int)=z by omega] at hd';omega) (by omega) (by omega)
 exact ⟨this.1.symm,by rw [this.2]; rfl⟩
theorem Xk (hy:y < 0)(hz:z≠0)(hr:0 < y.natAbs % z.natAbs):Bp (!(decide (y < 0) == decide (z < 0))) (y.natAbs / z.natAbs+1)=y / z∧Bp false (z.natAbs - y.natAbs % z.natAbs)=y % z:=by
 have hd:=Nat.div_add_mod y.natAbs z.natAbs;have hm:=Nat.mod_lt y.natAbs (show 0 < z.natAbs by omega);generalize y.natAbs / z.natAbs=q at *
 generalize y.natAbs % z.natAbs=r at *
 have hd':(z.natAbs:Int)*q+r=y.natAbs:=by rw [← hd]; simp
 have:=Wd (y:=y) (z:=z) (q:=Bp (!(decide (y < 0) == decide (z < 0))) (q+1)) (r:=((z.natAbs - r:Nat):Int)) (by
  unfold Bp;by_cases h:z < 0
  ·rw [show (!(decide (y < 0) == decide (z < 0)))=false by simp [hy,h],if_neg (by simp)];rw [show (z.natAbs:Int) = -z by omega,Int.neg_mul] at hd';rw [Int.natCast_add,Int.mul_add];omega
  ·rw [show (!(decide (y < 0) == decide (z < 0)))=true by simp [hy,h],if_pos rfl];rw [show (z.natAbs:Int)=z by omega] at hd';rw [Int.mul_neg,Int.natCast_add,Int.mul_add];omega) (by omega) (by omega)
 exact ⟨this.1.symm,by rw [this.2]; rfl⟩
end
section
open Go.RowKit
variable {n:Int}
theorem Abz (h:n < 0)(h2:-9223372036854775808≤n):IntKind.u64.wrap (-(IntKind.u64.wrap n))=((n.natAbs:Nat):Int):=by
 have e:∀ n:Int,IntKind.u64.wrap n=n % 18446744073709551616:=fun n=>by simp [IntKind.wrap,IntKind.signed,IntKind.bits]
 rw [e,e]; omega
theorem Aa6 (h:0≤n)(h2:n≤9223372036854775807):IntKind.u64.wrap n=((n.natAbs:Nat):Int):=by
 have e:∀ n:Int,IntKind.u64.wrap n=n % 18446744073709551616:=fun n=>by simp [IntKind.wrap,IntKind.signed,IntKind.bits]
 rw [e]; omega
end
section
open Go.RowKit
end
section
open Go.RowKit
theorem Pw:nl 1≤1:=by unfold nl; rw [Dv (by omega) (by omega)]; simp
theorem P7 {d:Nat}:(sgn ((d:Int) - 1) == 0)=decide (d=1):=by
 rcases Int.lt_trichotomy ((d:Int) - 1) 0 with h | h | h
 ·rw [C0 h,decide_eq_false (by omega)]; rfl
 ·rw [h,Ny,decide_eq_true (by omega)]; rfl
 ·rw [B9 h,decide_eq_false (by omega)]; rfl
end
end Go.Proofs.YtanfagpabkdmiaaGreatDoor
