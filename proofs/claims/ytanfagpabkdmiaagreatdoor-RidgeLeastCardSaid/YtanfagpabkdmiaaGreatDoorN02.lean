/- Parts of one proof, joined by a program. -/
import Derived.Test.YtanfagpabkdmiaaGreatDoorN01
import Derived.RangeFuncRecord
import Derived.Deep.LoopGhost
import Derived.WalkKit
import Derived.Lib.Hide
import Derived.Test.YtanfagpabkdmiaaGreatDoorProg
import Derived.KernelRfl
import Derived.Deep.QuietTactic
import Derived.BigQuiet
import Derived.RegionTactic
import Derived.ChangeAlike
import Derived.Outline
set_option linter.unusedVariables false
set_option linter.unusedSimpArgs false
set_option linter.unusedSectionVars false
set_option maxHeartbeats 16000000
namespace Go.Proofs.YtanfagpabkdmiaaGreatDoor
open Go.Proofs.Tryz
open Go.RowKit
open _root_.Array renaming getD_eq_getD_getElem? -> A1f
open Bool renaming and_eq_true -> A05, eq_iff_iff -> A6u
open Int renaming natCast_mul -> A4j, toNat_natCast -> A22
open Lib renaming hid -> A0r
open List renaming all_eq_true -> A08, append_nil -> A1i, drop -> Bb4, drop_of_length_le -> A1u, drop_set -> Bab, drop_set_of_lt -> A6r, drop_zero -> A41, filter_cons -> A40, getD_eq_getElem?_getD -> A0o, getElem?_eq_none -> A1g, getElem?_take -> A3m, length_take -> A00, map_inj_left -> Ba2, mem_cons_of_mem -> A1w, nodup_cons -> A3p, range -> A1q, replicate -> A0x, replicate_zero -> A5c, take -> Bc0, take_length -> A1k, take_of_length_le -> A03
open Nat renaming add_assoc -> A28, add_comm -> A84, add_mul -> A1o, add_sub_cancel -> A5l, add_zero -> A3f, beq -> A17, ble -> A55, div_add_mod -> A26, div_eq_of_lt -> A4a, div_lt_iff_lt_mul -> A2w, eq_of_beq_eq_true -> A1h, eq_zero_or_pos -> A1p, le_antisymm -> A76, le_div_iff_mul_le -> A4l, le_of_lt -> A62, le_refl -> A0w, le_trans -> A0q, lt_of_le_of_lt -> A2q, lt_of_lt_of_le -> A2e, lt_of_mul_lt_mul_left -> A81, lt_of_mul_lt_mul_right -> A6n, lt_or_ge -> A11, lt_trichotomy -> A5t, min_eq_left -> A32, mod_eq_of_lt -> A5d, mod_lt -> A2s, mul_add -> A2a, mul_assoc -> A1x, mul_comm -> A10, mul_le_mul -> A3j, mul_le_mul_left -> A2i, mul_le_mul_right -> A12, mul_lt_mul_of_pos_right -> A8n, mul_one -> A5y, mul_zero -> A3n, one_mul -> A3d, pow_add -> A5f, pow_le_pow_right -> A1l, pow_succ -> A16, sub_self -> A45, zero_add -> A2b, zero_le -> A1m
open Option renaming some.injEq -> A0t
open Result renaming andThen_ok -> A0y
open Sem renaming run_bind -> A1n, run_pure -> A3g
open Value renaming int -> A15
open World renaming drewN_drewN -> A7e
section
variable {T:List Nat}{c:Cx}{d:Deferred}{dl:List Deferred}{id:Nat}{m u:PH}{ops:Array Oper}{s:S}{t:Array Value}{w:World}{ρ:Nat->Nat}
variable [Cc]
section based
variable [Dy]
inductive KI where
 |code (c:Code)
 |blk (id:Nat)
 |reg (id:Nat) (ops:Array Oper) (dr:Bool) (l:List Nat)
 |lp (J:S->PH->PH->Prop)
def Alp (c:Cx)(Post:Value->PH->PH->Prop):Ending->World->Prop:=fun e w'=>∃ v u' m',e=.returned v/\Bx u' m' w'/\Bz c.u0 c.m0 c.w0 u' m' w'/\Post v u' m'
def Ai (P:Program)(f:FuncId)(args:List Value)(u m:PH)(Post:Value->PH->PH->Prop):Prop:=∀ w,Bx u m w->Calls P f args.toArray w (Alp ⟨w,u,m⟩ Post)
structure B0 where
 post:Value->PH->PH->Prop
 m0:PH
abbrev Amj (P:Program)(fn:Func)(R:Ending->World->Prop):Exit->Act->World->Prop:=bodyPostM Fence.wide 1 P fn R
def Hs (P:Program)(fn:Func)(Post:B0)(c:Cx):List KI->Exit->Act->World->Prop
 |[]=>Amj P fn (Alp c Post.post)
 |.code x::k=>Exit.then (x.wp P (Hs P fn Post c k)) (Hs P fn Post c k)
 |.blk id::k=>Exit.inBlock id (Hs P fn Post c k)
 |.reg _ _ _ _::k=>Hs P fn Post c k
 |.lp J::k=>Exit.then (fun a w=>∃ s u m ρ,Rel c s u m ρ a w/\J s u m) (Hs P fn Post c k)
def Oq (P:Program)(fn:Func)(Post:B0)(ks:List KI)(s:S)(u m:PH):Prop:=∀ c ρ a w,c.m0=Post.m0->Rel c s u m ρ a w->Hs P fn Post c ks .normal a w
def Sym (P:Program)(fn:Func)(Post:B0)(ks:List KI)(s:S)(u m:PH):Prop :=
 match ks with
 |.reg id ops dr l::k=>Ob P id ops dr (Oq P fn Post k) l s u m
 |ks=>Oq P fn Post ks s u m
def Oi (id:Nat):List KI->Option (List KI)
 |.blk j::k=>cond (A17 j id) (some k) (Oi id k)
 |_::k=>Oi id k
 |[]=>none
def Aih (ops:Array Oper)(done:List Nat)(i:Nat):Bool:=match ops[i]? with
 |some o=>!(done.contains i)&&o.after.toList.all fun e=>!Region.binds .any e||done.contains e.on
 |none=>false
def Td (ops:Array Oper):Nat->List Nat->List Nat
 |0,done=>done.reverse
 |f+1,done=>match (A1q ops.size).find? (fun i=>Aih ops done i&&(match ops[i]? with|some o=>D6 o.op|none=>false)) with
  |some i=>Td ops f (i::done)
  |none=>match (A1q ops.size).find? (Aih ops done) with
   |some i=>Td ops f (i::done)
   |none=>done.reverse
def Ao5 (ops:Array Oper):List Nat:=Td ops ops.size []
def Fd:List KI->Bool
 |.reg ..::_=>false
 |_=>true
def one (P:Program)(ks:List KI)(s:S):Option (List KI×S) :=
 match ks with
 |.code .skip::k=>cond (Fd k) (some (k,s)) none
 |.code (.seq x y)::k=>some (.code x::.code y::k,s)
 |.code (.block id x)::k=>some (.code x::.blk id::k,s)
 |.code (.exit id)::k=>match Oi id k with|some k'=>cond (Fd k') (some (k',s)) none|none=>none
 |.code (.cond x y z)::k=>match s.ev x with
  |.v (.bool true)=>some (.code y::k,s)
  |.v (.bool false)=>some (.code z::k,s)
  |_=>none
 |.code (.region id ops false)::k=>some (.reg id ops false (A1q ops.size)::k,s)
 |.code (.region id ops true)::k=>cond (Aho ops s (Ao5 ops)) (some (.reg id ops true (Ao5 ops)::k,s)) none
 |.blk _::k=>cond (Fd k) (some (k,s)) none
 |.reg _ _ _ []::k=>cond (Fd k) (some (k,s)) none
 |.reg id ops dr (i::l)::k=>match ops[i]? with
  |some o=>match Fw s o with
   |true=>match gv s ops o with
    |some true=>match eff P (id*1000+i) s o.op with
     |some (x,hw)=>some (.reg id ops dr l::k,(s.put o.dst x).setb hw)
     |none=>none
    |some false=>some (.reg id ops dr l::k,s.put o.dst (.v undef))
    |none=>none
   |false=>none
  |none=>none
 |_=>none
def run (P:Program):Nat->List KI×S->List KI×S
 |0,st=>st
 |n+1,st=>match one P st.1 st.2 with
  |some st'=>run P n st'
  |none=>st
end based
section sound
variable {P:Program} {fn:Func} {Post:B0}
section based
variable [Dy]
theorem Jd {c:Cx}{id:Nat}:∀ {k k':List KI},Oi id k=some k'->∀ {a:Act} {w:World},Hs P fn Post c k' .normal a w->Hs P fn Post c k (.exit id) a w
 |.blk j::k,k',h,a,w,hc=>by
  unfold Oi at h;cases hb:A17 j id with
  |true =>
   simp[hb]at h;subst h;have:=A1h hb;subst this;simp[Hs,Exit.inBlock];exact hc
  |false =>
   simp[hb]at h;have hne:id≠j:=fun e=>by subst e;simp at hb
   simp only[Hs,Exit.inBlock,if_neg hne];exact Jd h hc
 |.code x::k,k',h,a,w,hc=>by simp only[Oi]at h;simp only[Hs,Exit.then];exact Jd h hc
 |.reg _ _ _ _::k,k',h,a,w,hc=>by simp only[Oi]at h;simp only[Hs];exact Jd h hc
 |.lp J::k,k',h,a,w,hc=>by simp only[Oi]at h;simp only[Hs,Exit.then];exact Jd h hc
 |[],k',h,a,w,hc=>by simp[Oi]at h
theorem K5 {c:Cx}{a:Act}{w:World}(h:Amj P fn (Alp c Post.post) .ret a w):∀ k:List KI,Hs P fn Post c k .ret a w
 |[]=>h
 |.blk j::k=>by simp only[Hs,Exit.inBlock];exact K5 h k
 |.code x::k=>by simp only[Hs,Exit.then];exact K5 h k
 |.reg _ _ _ _::k=>by simp only[Hs];exact K5 h k
 |.lp J::k=>by simp only[Hs,Exit.then];exact K5 h k
theorem Rel.drew {a:Act}(h:Rel c s u m ρ a w):Rel c s u m ρ a { w with drawn:=w.drawn+1 } :=
 ⟨h.sz,h.tm,h.df,h.box,h.inj,h.lv,⟨h.gd.pu,h.gd.pm,h.gd.ap,h.gd.cl⟩,⟨h.gr.sz,h.gr.old,h.gr.us,h.gr.ms,h.gr.io,fun f=>⟨(h.gr.dr f).tape,Nat.le_succ_of_le (h.gr.dr f).dr⟩⟩⟩
theorem Rel.shut (hr:Rel c s u m ρ { tmps:=t,defers:=d::dl } w)(hd:Zu d=true) :
 ∃ r w',d.target=.collected r/\(Instr.takeDeferred r).run P w=.ok [] w'/\Rel c s u m ρ { tmps:=t,defers:=dl } w':=by
 obtain⟨ds,h1,h2,h2',h3⟩:=hr.df;rw[A40,if_pos hd]at h2;rw[A40,if_neg (by simp[hd])]at h2';cases ds with
 |nil=>cases h2
 |cons r ds =>
  rw[List.map_cons,List.cons.injEq]at h2;obtain⟨rfl,h2⟩:=h2;obtain⟨e1,e2,e3,e4⟩:=h3 r List.mem_cons_self;have ho:∀ g,g≠r->(w.putObj r (.deferred none)).heap[g]?=w.heap[g]?:=fun g hg=>World.putObj_heap_other hg;have hs:(w.putObj r (.deferred none)).heap[r]?=some (.deferred none):=World.putObj_heap_same (Bw e1);refine⟨r,w.putObj r (.deferred none),rfl,run_takeDeferred e1,hr.sz,hr.tm,⟨ds,(A3p.1 h1).2,h2,h2',fun r' hr'=>?_⟩,fun k b hb=>?_,hr.inj,hr.lv,⟨fun g o hg=>?_,fun g o hg=>?_,hr.gd.ap,fun g cs' t' fr' j z hg hj=>?_⟩,⟨?_,fun g hg hm=>?_,hr.gr.us,hr.gr.ms,hr.gr.io,fun f=>⟨(hr.gr.dr f).tape,(hr.gr.dr f).dr⟩⟩⟩
  ·rw[ho r' (fun e=>(A3p.1 h1).1 (e▸hr'))];exact h3 r' (A1w _ hr')
  ·obtain⟨⟨cs,f1,f2,f3⟩,f4⟩:=hr.box k b hb;refine⟨⟨cs,?_,f2,f3⟩,f4⟩;rw[ho _ (fun e=>by rw[e,e1]at f1;cases f1)];exact f1
  ·rw[ho g (fun e=>by rw[e,e3]at hg;cases hg)];exact hr.gd.pu g o hg
  ·rw[ho g (fun e=>by rw[e,e4]at hg;cases hg)];exact hr.gd.pm g o hg
  ·rw[ho g (fun e=>by rw[e,hs]at hg;cases hg)]at hg;exact hr.gd.cl g cs' t' fr' j z hg hj
  ·rw[World.putObj_size];exact hr.gr.sz
  ·rw[ho g oV];exact hr.gr.old g hg hm
end based
theorem Rel.marks (hr:Rel c s u m ρ { tmps:=t,defers:=d::dl } w):Zu d=true:=by
 obtain⟨_,_,_,h,_⟩:=hr.df;cases e:Zu d with
 |true=>rfl
 |false=>rw[A40,if_pos (by simp[e])]at h;cases h
theorem Rel.leaves {c:Cx}{R:Ending->World->Prop}{s:S}{u m:PH}{ρ:Nat->Nat}{t:Array Value}{v:Value}:∀ {dl:List Deferred} {w:World},Rel c s u m ρ { tmps:=t,defers:=dl } w ->
 (∀ w',Rel c s u m ρ { tmps:=t,defers:=[] } w'->(results fn t).run P w'=.ok v w'/\R (.returned v) w')->LeavesInM Fence.wide 1 P fn t R dl .returning w
 |[],w,hr,hv=>⟨v,(hv w hr).1,(hv w hr).2⟩
 |d::dl,w,hr,hv=>by
  obtain⟨r,w',h1,h2,h3⟩:=hr.shut (P:=P) hr.marks;exact⟨mV,.inl ⟨r,w',h1,h2,h3.leaves hv⟩⟩
theorem Rel.ends {c:Cx}{R:Ending->World->Prop}{s:S}{u m:PH}{ρ:Nat->Nat}{a:Act}{w:World}(hr:Rel c s u m ρ a w){v:Value}
 (hv:∀ w',Rel c s u m ρ { tmps:=a.tmps,defers:=[] } w'->(results fn a.tmps).run P w'=.ok v w'/\R (.returned v) w'):Amj P fn R .ret a w/\Amj P fn R .normal a w:=by
 have:=hr.leaves (P:=P) (fn:=fn) (R:=R) hv;exact⟨this,this⟩
section based
variable [Dy]
theorem Sym.reg_seq {k:List KI}(h:Ob P id ops false (Oq P fn Post k) (A1q ops.size) s u m):Oq P fn Post (.code (.region id ops false)::k) s u m:=by
 intro c ρ a w hm0 hr;simp only[Hs,Exit.then];exact wp_region (h.wpOps (fun s u m ρ a w hf hr=>hf c ρ a w hm0 hr) hr)
theorem Afd (h:Aho ops s T=true):T.length=ops.size/\(∀ i,i<ops.size->i∈T)/\(∀ i∈T,i<ops.size)/\T.Nodup/\T.Pairwise (fun x y=>Eg ops s x y=true)/\(A1q ops.size).all (Hq ops)=true:=by
 unfold Aho at h;simp only[A05]at h;obtain⟨⟨⟨⟨h1,h2⟩,h3⟩,h4⟩,h5⟩:=h;rw[A08]at h2 h3;refine⟨A1h h1,fun i hi=>by simpa using h2 i (by simpa using hi),fun i hi=>Nat.blt_eq▸h3 i hi,?_,D4 h4,h5⟩;refine (D4 h4).imp fun {x y} hxy e=>?_;unfold Eg at hxy;subst e;simp at hxy
theorem Sym.reg_draw (hm:P.follows .mixedOrders=true)(hB:Aho ops s T=true){k:List KI}(h:Ob P id ops true (Oq P fn Post k) T s u m):Oq P fn Post (.code (.region id ops true)::k) s u m:=by
 intro c ρ a w hm0 hr;simp only[Hs,Exit.then];obtain⟨h1,h2,hlt,hnd,h3,h4⟩:=Afd hB;refine wp_region_any hm ?_;rw[show ops.size=T.length from h1.symm];refine Ob.wpAny (c:=c) hr.lv h4 (fun s u m ρ a w hf hr=>hf c ρ a w hm0 hr) T.length T _ rfl (by simp[h1]) (fun i hi=>?_) hlt hnd (fun i hi=>?_) h3 (Ei.refl _ _) h hr.drew
 ·have:i<T.length:=oV
  simp[A1f,this,h2 i hi]
 ·exfalso;simp only[A1f]at hi;by_cases hlt:i<T.length
  ·simp[hlt]at hi
  ·rw[Array.getElem?_eq_none gV]at hi;simp at hi
theorem Sym.ofNo {ks:List KI}(hn:Fd ks=true):Sym P fn Post ks s u m=Oq P fn Post ks s u m:=by
 cases ks with
 |nil=>rfl
 |cons x k=>cases x<;>first|rfl|simp[Fd]at hn
theorem Ar0 (hm:P.follows .mixedOrders=true){ks ks':List KI}{s s':S}(h:one P ks s=some (ks',s'))(hk:Sym P fn Post ks' s' u m):Sym P fn Post ks s u m:=by
 unfold one at h;split at h
 ·rename_i k;cases hn:Fd k with
  |false=>simp[hn]at h
  |true =>
   simp[hn]at h;obtain⟨rfl,rfl⟩:=h;rw[Sym.ofNo hn]at hk;exact fun c ρ a w hm0 hr=>wp_skip (hk c ρ a w hm0 hr)
 ·simp at h;obtain⟨rfl,rfl⟩:=h;exact fun c ρ a w hm0 hr=>wp_seq (hk c ρ a w hm0 hr)
 ·simp at h;obtain⟨rfl,rfl⟩:=h;exact fun c ρ a w hm0 hr=>wp_block (hk c ρ a w hm0 hr)
 ·rename_i id k;split at h
  ·rename_i k' hk';cases hn:Fd k' with
   |false=>simp[hn]at h
   |true =>
    simp[hn]at h;obtain⟨rfl,rfl⟩:=h;rw[Sym.ofNo hn]at hk;exact fun c ρ a w hm0 hr=>wp_exit (Jd hk' (hk c ρ a w hm0 hr))
  ·cases h
 ·rename_i x y z k;split at h
  ·rename_i hx;simp at h;obtain⟨rfl,rfl⟩:=h;exact fun c ρ a w hm0 hr=>wp_cond_true (by rw[hr.eval x (by rw[hx];simp),hx];rfl) (hk c ρ a w hm0 hr)
  ·rename_i hx;simp at h;obtain⟨rfl,rfl⟩:=h;exact fun c ρ a w hm0 hr=>wp_cond_false (by rw[hr.eval x (by rw[hx];simp),hx];rfl) (hk c ρ a w hm0 hr)
  ·cases h
 ·simp at h;obtain⟨rfl,rfl⟩:=h;exact Sym.reg_seq hk
 ·rename_i id ops k;cases hB:Aho ops s (Ao5 ops) with
  |false=>simp[hB]at h
  |true =>
   simp[hB]at h;obtain⟨rfl,rfl⟩:=h;exact Sym.reg_draw hm hB hk
 ·rename_i id k;cases hn:Fd k with
  |false=>simp[hn]at h
  |true =>
   simp[hn]at h;obtain⟨rfl,rfl⟩:=h;rw[Sym.ofNo hn]at hk;exact fun c ρ a w hm0 hr=>hk c ρ a w hm0 hr
 ·rename_i k;cases hn:Fd k with
  |false=>simp[hn]at h
  |true =>
   simp[hn]at h;obtain⟨rfl,rfl⟩:=h;rw[Sym.ofNo hn]at hk;exact .nil hk
 ·split at h
  ·rename_i o ho;split at h
   ·rename_i hd;split at h
    ·rename_i hg;split at h
     ·rename_i x hw he;simp at h;obtain⟨rfl,rfl⟩:=h;exact .auto ho hg hd he hk
     ·cases h
    ·rename_i hg;simp at h;obtain⟨rfl,rfl⟩:=h;exact .skip ho hg hd hk
    ·cases h
   ·cases h
  ·cases h
 ·cases h
theorem V0 (hm:P.follows .mixedOrders=true){u m:PH}:∀ (n:Nat) (st:List KI×S),Sym P fn Post (run P n st).1 (run P n st).2 u m->Sym P fn Post st.1 st.2 u m
 |0,st,h=>h
 |n+1,st,h=>by
  unfold run at h;split at h
  ·rename_i st' he;obtain⟨ks',s'⟩:=st';exact Ar0 hm he (V0 hm n _ h)
  ·exact h
end based
end sound
end
section
variable {a:Act}{args:List Value}{c:Cx}{env:Operand->Value}{f:Nat}{o:Op}{op:BinOp}{s:S}{w:World}{x y:Value}{ρ:Nat->Nat}
variable [Cc]
section based
variable [Dy]
class Ba (P:Program):Prop where
 mx:P.follows .mixedOrders=true
 ti:P.underlying 3=some (.int .i64)
theorem V1 {P:Program}[h:Ba P]{d:TypeId}{x:TypeDesc}(hd:P.underlying d=some x)(hx:x≠.int .i64):Ald d=false:=by
 unfold Ald;cases e:A17 d 3 with
 |false=>rfl
 |true=>have:=A1h e;subst this;rw[h.ti]at hd;cases hd;exact absurd rfl hx
structure G (P:Program)(fn:Func)(Post:B0)(st:List KI×S)(u m:PH):Prop where
 out:Sym P fn Post st.1 st.2 u m
def adv (P:Program)(st:List KI×S):List KI×S:=run P 3000 st
def ctl (P:Program):Nat->List KI×S->List KI×S
 |0,st=>st
 |n+1,st=>cond (Fd st.1) st (match one P st.1 st.2 with|some st'=>ctl P n st'|none=>st)
def nx (st:List KI×S)(v:Value):List KI×S :=
 match st.1 with
 |.reg id ops dr (i::l)::k=>match ops[i]? with
  |some o=>(.reg id ops dr l::k,st.2.put o.dst (.v v))
  |none=>st
 |_=>st
def Kq (P:Program)(t:TypeId):Option Nat:=match P.underlying t with|some (.slice e)=>szB P e|_=>none
def Jq (P:Program)(t:TypeId):Option (TypeId×Nat×Nat×Value) :=
 match P.underlying t with
 |some (.slice e)=>match P.info? e with
  |some i=>match i.zero with|some z=>some (e,i.size,i.bytes,z)|none=>none
  |none=>none
 |_=>none
def Wc (P:Program)(t:TypeId):Option (Option Nat) :=
 match Jr P t with
 |some true=>match szB P t with|some n=>some (some n)|none=>none
 |some false=>some none
 |none=>none
inductive S2 where
 |other
 |bin (op:BinOp) (x y:Value)
 |binT (op:BinOp) (t:Option TypeDesc) (x y:Value)
 |un (op:UnOp) (x:Value)
 |conv (src dst:Option TypeDesc) (x:Value)
 |index (t:Option TypeDesc) (x i:Value)
 |addr (sz:Option Nat) (x i:Value)
 |slice (sz:Option Nat) (x:Value) (lo hi mx:Option Value)
 |load (k:Option (Option Nat)) (a:Value)
 |store (sz:Option Nat) (a v:Value)
 |make (e:Option (TypeId×Nat×Nat×Value)) (l c:Value)
 |call (f:Nat) (args:List Value)
 |app (e:Option (TypeId×Nat×Nat×Value)) (same:Bool) (args:List Value)
 |blt (b:Builtin) (ts:List TypeId) (args:List Value)
 |build (t:TypeId) (parts:List (Nat×Value))
 |buildS (e:Option (TypeId×Nat×Nat×Value)) (n:Nat) (parts:List (Nat×Value))
 |field (t:TypeId) (x:Value) (f:Nat)
 |fieldA (t:TypeId) (x:Value) (f:Nat)
def A7 (P:Program)(env:Operand->Value):Op->S2
 |.binOp op t x y _=>match env x with
  |.int k a=>.bin op (.int k a) (env y)
  |.string a=>.bin op (.string a) (env y)
  |z=>.binT op (P.underlying t) z (env y)
 |.unOp op _ x=>.un op (env x)
 |.convert s d x=>.conv (P.underlying s) (P.underlying d) (env x)
 |.index t x i=>.index (P.underlying t) (env x) (env i)
 |.indexAddr t x i=>.addr (Kq P t) (env x) (env i)
 |.slice t x lo hi mx=>.slice (Kq P t) (env x) (lo.map env) (hi.map env) (mx.map env)
 |.load t a=>.load (Wc P t) (env a)
 |.store t a v=>.store (szB P t) (env a) (env v)
 |.makeSlice t l c=>.make (Jq P t) (env l) (env c)
 |.build t ps=>.build t (ps.toList.map fun (i,x)=>(i,env x))
 |.buildSlice t n ps=>.buildS (Jq P t) n (ps.toList.map fun (i,x)=>(i,env x))
 |.field t x f=>.field t (env x) f
 |.fieldAddr t x f=>.fieldA t (env x) f
 |.call c=>match c.callee with
  |.value f=>match env f with
   |.func (.func n) first cap=>.call n (first.toList++c.args.toList.map env++cap.toList)
   |_=>.other
  |.builtin b=>match b with
   |.append=>match c.argTypes.toList with
    |[t,t']=>.app (Jq P t) (A17 t t') (c.args.toList.map env)
    |_=>.other
   |b=>.blt b c.argTypes.toList (c.args.toList.map env)
  |_=>.other
 |_=>.other
def Al (P:Program)(st:List KI×S):S2 :=
 match st.1 with
 |.reg _ ops _ (i::_)::_=>match ops[i]? with
  |some o=>match Fw st.2 o&&(Ko st.2 o.op&&Ls o.op) with
   |true=>match gv st.2 ops o with
    |some true=>A7 P (Kg st.2) o.op
    |_=>.other
   |false=>.other
  |none=>.other
 |_=>.other
def W8 (P:Program)(s:S):ResultVar->Option Value
 |.tmp t=>match s.tm t with|.v x=>some x|_=>none
 |.cell a t=>match s.tm a with
  |.p k off=>match s.hp k with
   |some b=>match ldv P t b.cells off with|some (.v y)=>some y|_=>none
   |none=>none
  |_=>none
def O8 (P:Program)(s:S):List ResultVar->Option (List Value)
 |[]=>some []
 |r::l=>match W8 P s r with
  |some x=>match O8 P s l with|some xs=>some (x::xs)|none=>none
  |none=>none
def Ad5:List Value->Value
 |[x]=>x
 |l=>.tuple l.toArray
def Anw (P:Program)(fn:Func)(st:List KI×S):Option Value :=
 match st.1 with
 |.code .ret::_|[]=>match O8 P st.2 fn.results.toList with|some l=>some (Ad5 l)|none=>none
 |_=>none
end based
section rules
variable {P:Program} [Ba P] {fn:Func} {Post:B0} {st:List KI×S} {u m:PH}
section based
variable [Dy]
theorem G.stp (h:G P fn Post (adv P st) u m):G P fn Post st u m:=⟨V0 Ba.mx 3000 st h.out⟩
theorem Is:∀ (n:Nat) (st:List KI×S),Sym P fn Post (ctl P n st).1 (ctl P n st).2 u m->Sym P fn Post st.1 st.2 u m
 |0,st,h=>h
 |n+1,st,h=>by
  unfold ctl at h;cases hn:Fd st.1 with
  |true=>simp[hn]at h;exact h
  |false =>
   simp only[hn,cond_false]at h;split at h
   ·rename_i st' he;obtain⟨ks',s'⟩:=st';exact Ar0 Ba.mx he (Is n _ h)
   ·exact h
theorem Ho {V:S2}(h:Al P st=V)(hV:V≠.other):∃ id ops dr i l k s o,st=(.reg id ops dr (i::l)::k,s)/\ops[i]?=some o/\gv s ops o=some true/\Fw s o=true/\Ko s o.op=true/\Ls o.op=true/\A7 P (Kg s) o.op=V /\
 ∀ v,nx st v=(.reg id ops dr l::k,s.put o.dst (.v v)):=by
 obtain⟨ks,s⟩:=st;unfold Al at h;simp only at h;split at h
 ·rename_i id ops dr i l k;split at h
  ·rename_i o ho;split at h
   ·rename_i hb;simp only[A05]at hb;split at h
    ·rename_i hg;exact⟨id,ops,dr,i,l,k,s,o,rfl,ho,hg,hb.1,hb.2.1,hb.2.2,h,fun v=>by simp[nx,ho]⟩
    ·exact absurd h.symm hV
   ·exact absurd h.symm hV
  ·exact absurd h.symm hV
 ·exact absurd h.symm hV
theorem Adw {V:S2}(h:A7 P env o=V)(hV:V≠.other):Ea o=false:=by
 cases o<;>first|rfl|(simp only[A7]at h;exact absurd h.symm hV)
theorem G.ask {V:S2}{v:Value}(h:Al P (adv P st)=V)(hV:V≠.other)(hr:∀ env (o:Oper),A7 P env o.op=V->∀ w,(F2 o.op=true->Eb u w/\Eb m w)->(execOp env o).run P w=.ok (.value v) w)
 (k:G P fn Post (nx (adv P st) v) u m):G P fn Post st u m:=by
 refine G.stp ?_;obtain⟨id,ops,dr,i,l,kk,s,o,e,ho,hg,hd,hv,hs,hview,hnx⟩:=Ho h hV;have k:=k.out;rw[hnx]at k;rw[e];exact⟨Ob.ask ho hg hd hv hs (Adw hview hV) (fun w hp=>hr _ o hview w hp) k⟩
theorem G.big {V:S2}{K:Value->PH->PH->Prop}(h:Al P (adv P st)=V)(hV:V≠.other)(hf:∀ env op,A7 P env op=V->D6 op=false)(hk:(∀ v u' m',K v u' m'->PH.le m m')\/(∀ env op,A7 P env op=V->Ke op=true))
 (hr:∀ env (o:Oper),A7 P env o.op=V->∀ w,Bx u m w->D3 P env o w fun v w'=>∃ u' m',Bx u' m' w'/\Bz u m w u' m' w'/\K v u' m')
 (k:∀ v u' m',PH.le u u'->K v u' m'->G P fn Post (nx (adv P st) v) u' m'):G P fn Post st u m:=by
 refine G.stp ?_;obtain⟨id,ops,dr,i,l,kk,s,o,e,ho,hg,hd,hv,hs,hview,hnx⟩:=Ho h hV;rw[e];refine⟨?_⟩;refine Ob.big (K:=K) ho hg hd hv hs (hf _ _ hview) (fun v u' m' hK=>?_) (fun w hgd=>hr _ o hview w hgd) (fun v u' m' h1 h2=>?_)
 ·rcases hk with hk|hk
  ·exact .inl (hk v u' m' hK)
  ·exact .inr (.inr (.inl (Afj (hk _ _ hview))))
 ·have:=(k v u' m' h1 h2).out;rw[hnx]at this;exact this
theorem Ai7 (h:A7 P env o=.bin op x y):∃ t X Y yt,o=.binOp op t X Y yt/\env X=x/\env Y=y:=by
 cases o<;>simp only[A7]at h<;>try cases h
 ·split at h
  ·rename_i hx;simp at h;obtain⟨rfl,rfl,rfl⟩:=h;exact⟨_,_,_,_,rfl,hx,rfl⟩
  ·rename_i hx;simp at h;obtain⟨rfl,rfl,rfl⟩:=h;exact⟨_,_,_,_,rfl,hx,rfl⟩
  ·cases h
 ·(repeat' split at h)<;>cases h
theorem Pz {d:Option TypeDesc}(h:A7 P env o=.binT op d x y):∃ t X Y yt,o=.binOp op t X Y yt/\env X=x/\env Y=y/\P.underlying t=d:=by
 cases o<;>simp only[A7]at h<;>try cases h
 ·split at h
  ·cases h
  ·cases h
  ·simp at h;obtain⟨rfl,rfl,rfl,rfl⟩:=h;exact⟨_,_,_,_,rfl,rfl,rfl,rfl⟩
 ·(repeat' split at h)<;>cases h
theorem U2 (h:A7 P env o=.call f args):∃ c F first cap,o=.call c/\c.callee=.value F/\env F=.func (.func f) first cap/\args=first.toList++c.args.toList.map env++cap.toList:=by
 cases o<;>simp only[A7]at h<;>try cases h
 ·split at h<;>cases h
 split at h
 ·rename_i c F hc;split at h
  ·rename_i n first cap he
   simp only[S2.call.injEq]at h;obtain⟨rfl,rfl⟩:=h;exact⟨_,F,first,cap,rfl,hc,he,rfl⟩
  ·cases h
 ·(repeat' split at h)<;>cases h
 ·cases h
theorem G.bin {op:BinOp}{x y:Value}(v:Value)(h:Al P (adv P st)=.bin op x y)(hg:∀ t X Y w,(eqGuard op t X Y x y).run P w=.ok () w)(hr:∀ t w,(binOp op t x y).run P w=.ok v w)
 (k:G P fn Post (nx (adv P st) v) u m):G P fn Post st u m:=by
 refine G.ask h mV (fun env o hview w _=>?_) k;obtain⟨t,X,Y,yt,e,rfl,rfl⟩:=Ai7 hview;obtain⟨dst,opp,type,pos,after,guard⟩:=o;simp only at e;subst e;simp[execOp,hg,hr]
theorem Cy {k:IntKind}{x y:Int}(t:TypeId)(X Y:Operand)(w:World):(eqGuard op t X Y (.int k x) (.int k y)).run P w=.ok () w:=by
 unfold eqGuard;split<;>simp
theorem Cl {z:Int}(h1:-9223372036854775808<=z)(h2:z<=9223372036854775807):IntKind.i64.wrap z=z:=by
 simp only[IntKind.wrap,IntKind.signed,IntKind.bits];simp;omega
theorem G.add (x y z:Int)(h:Al P (adv P st)=.bin .add (.int .i64 x) (.int .i64 y))(hz:x+y=z)(h1:-9223372036854775808<=z)(h2:z<=9223372036854775807)
 (k:G P fn Post (nx (adv P st) (.int .i64 z)) u m):G P fn Post st u m :=
 G.bin _ h Cy (fun t w=>by simp[binOp,Op.intArith,hz,Cl h1 h2]) k
theorem G.sub (x y z:Int)(h:Al P (adv P st)=.bin .sub (.int .i64 x) (.int .i64 y))(hz:x-y=z)(h1:-9223372036854775808<=z)(h2:z<=9223372036854775807)
 (k:G P fn Post (nx (adv P st) (.int .i64 z)) u m):G P fn Post st u m :=
 G.bin _ h Cy (fun t w=>by simp[binOp,Op.intArith,hz,Cl h1 h2]) k
theorem G.mul (x y z:Int)(h:Al P (adv P st)=.bin .mul (.int .i64 x) (.int .i64 y))(hz:x*y=z)(h1:-9223372036854775808<=z)(h2:z<=9223372036854775807)
 (k:G P fn Post (nx (adv P st) (.int .i64 z)) u m):G P fn Post st u m :=
 G.bin _ h Cy (fun t w=>by simp[binOp,Op.intArith,hz,Cl h1 h2]) k
def B4:BinOp->Int->Int->Bool
 |.eql,x,y=>decide (x=y)
 |.neq,x,y=>decide (x≠y)
 |.lss,x,y=>decide (x<y)
 |.leq,x,y=>decide (x<=y)
 |.gtr,x,y=>decide (x>y)
 |.geq,x,y=>decide (x≥y)
 |_,_,_=>false
def Anb:BinOp->Bool
 |.eql|.neq|.lss|.leq|.gtr|.geq=>true
 |_=>false
theorem G.cmpG (op:BinOp)(kk:IntKind)(x y:Int)(b:Bool)(h:Al P (adv P st)=.bin op (.int kk x) (.int kk y))(hop:Anb op=true)(hb:B4 op x y=b)
 (k:G P fn Post (nx (adv P st) (.bool b)) u m):G P fn Post st u m:=by
 refine G.bin _ h Cy (fun t w=>?_) k;subst hb;cases op<;>simp[Anb]at hop<;>simp[binOp,Op.intCmp,B4]
 ·rw[A6u];simp
 ·rw[A6u];simp
theorem G.eqlT (x y:Int)(h:Al P (adv P st)=.bin .eql (.int .i64 x) (.int .i64 y))(hb:x=y)(k:G P fn Post (nx (adv P st) (.bool true)) u m):G P fn Post st u m :=
 G.cmpG .eql .i64 x y true h rfl (by simp only[B4,decide_eq_true_eq];exact hb) k
theorem G.eqlF (x y:Int)(h:Al P (adv P st)=.bin .eql (.int .i64 x) (.int .i64 y))(hb:¬ (x=y))(k:G P fn Post (nx (adv P st) (.bool false)) u m):G P fn Post st u m :=
 G.cmpG .eql .i64 x y false h rfl (by simp only[B4,decide_eq_false_iff_not];exact hb) k
theorem G.neqT (x y:Int)(h:Al P (adv P st)=.bin .neq (.int .i64 x) (.int .i64 y))(hb:x≠y)(k:G P fn Post (nx (adv P st) (.bool true)) u m):G P fn Post st u m :=
 G.cmpG .neq .i64 x y true h rfl (by simp only[B4,decide_eq_true_eq];exact hb) k
theorem G.neqF (x y:Int)(h:Al P (adv P st)=.bin .neq (.int .i64 x) (.int .i64 y))(hb:¬ (x≠y))(k:G P fn Post (nx (adv P st) (.bool false)) u m):G P fn Post st u m :=
 G.cmpG .neq .i64 x y false h rfl (by simp only[B4,decide_eq_false_iff_not];exact hb) k
theorem G.lssT (x y:Int)(h:Al P (adv P st)=.bin .lss (.int .i64 x) (.int .i64 y))(hb:x<y)(k:G P fn Post (nx (adv P st) (.bool true)) u m):G P fn Post st u m :=
 G.cmpG .lss .i64 x y true h rfl (by simp only[B4,decide_eq_true_eq];exact hb) k
theorem G.lssF (x y:Int)(h:Al P (adv P st)=.bin .lss (.int .i64 x) (.int .i64 y))(hb:¬ (x<y))(k:G P fn Post (nx (adv P st) (.bool false)) u m):G P fn Post st u m :=
 G.cmpG .lss .i64 x y false h rfl (by simp only[B4,decide_eq_false_iff_not];exact hb) k
theorem G.leqT (x y:Int)(h:Al P (adv P st)=.bin .leq (.int .i64 x) (.int .i64 y))(hb:x<=y)(k:G P fn Post (nx (adv P st) (.bool true)) u m):G P fn Post st u m :=
 G.cmpG .leq .i64 x y true h rfl (by simp only[B4,decide_eq_true_eq];exact hb) k
theorem G.leqF (x y:Int)(h:Al P (adv P st)=.bin .leq (.int .i64 x) (.int .i64 y))(hb:¬ (x<=y))(k:G P fn Post (nx (adv P st) (.bool false)) u m):G P fn Post st u m :=
 G.cmpG .leq .i64 x y false h rfl (by simp only[B4,decide_eq_false_iff_not];exact hb) k
theorem G.gtrT (x y:Int)(h:Al P (adv P st)=.bin .gtr (.int .i64 x) (.int .i64 y))(hb:x>y)(k:G P fn Post (nx (adv P st) (.bool true)) u m):G P fn Post st u m :=
 G.cmpG .gtr .i64 x y true h rfl (by simp only[B4,decide_eq_true_eq];exact hb) k
theorem G.gtrF (x y:Int)(h:Al P (adv P st)=.bin .gtr (.int .i64 x) (.int .i64 y))(hb:¬ (x>y))(k:G P fn Post (nx (adv P st) (.bool false)) u m):G P fn Post st u m :=
 G.cmpG .gtr .i64 x y false h rfl (by simp only[B4,decide_eq_false_iff_not];exact hb) k
theorem G.geqT (x y:Int)(h:Al P (adv P st)=.bin .geq (.int .i64 x) (.int .i64 y))(hb:x≥y)(k:G P fn Post (nx (adv P st) (.bool true)) u m):G P fn Post st u m :=
 G.cmpG .geq .i64 x y true h rfl (by simp only[B4,decide_eq_true_eq];exact hb) k
theorem G.geqF (x y:Int)(h:Al P (adv P st)=.bin .geq (.int .i64 x) (.int .i64 y))(hb:¬ (x≥y))(k:G P fn Post (nx (adv P st) (.bool false)) u m):G P fn Post st u m :=
 G.cmpG .geq .i64 x y false h rfl (by simp only[B4,decide_eq_false_iff_not];exact hb) k
def Fn0 (P:Program)(f:FuncId)(args:List Value)(u:PH)(R:Value->PH->Prop):Prop:=Ai P f args u PH.mt (fun v u' m'=>m'=PH.mt/\R v u')
theorem Eb.mt (w:World):Eb PH.mt w:=fun _ _ h=>by cases h
theorem Bx.noM (h:Bx u m w):Bx u PH.mt w:=⟨h.pu,Eb.mt w,fun _=>.inr rfl,h.cl⟩
theorem Bx.frame {u':PH}{w w':World}(h:Bx u m w)(g:Bx u' PH.mt w')(gr:Bz u PH.mt w u' PH.mt w'):Bx u' m w'/\Bz u m w u' m w':=by
 refine⟨⟨g.pu,fun b o hb=>?_,fun b=>?_,g.cl⟩,⟨gr.sz,fun b hb _=>gr.old b hb rfl,gr.us,fun b _ hb=>hb,gr.io,gr.dr⟩⟩
 ·rw[gr.old b (h.pm.lt hb) rfl];exact h.pm b o hb
 ·cases hb:m b with
  |none=>exact .inr rfl
  |some o =>
   rw[gr.us b (h.pm.lt hb)];rcases h.ap b with e|e
   ·exact .inl e
   ·rw[hb]at e;cases e
theorem Lz {env:Operand->Value}{o:Oper}{f:Nat}{args:List Value}(hview:A7 P env o.op=.call f args)(hc:∀ args w,(callFunc f args).run P w=.ok (.enter f args) w)(w:World)(K:Value->World->Prop)
 (h:Calls P f args.toArray w fun e w'=>∃ v,e=.returned v/\K v w'):D3 P env o w K:=by
 obtain⟨c,F,first,cap,e,hcal,hF,rfl⟩:=U2 hview
 obtain⟨dst,opp,type,pos,after,guard⟩:=o;simp only at e;subst e;have:(execOp env ⟨dst,.call c,type,pos,after,guard⟩).run P w=.ok (.enter f ((first++c.args.map env)++cap)) w:=by
  simp[execOp,resolve,hcal,hF,Deferred.ofValue,invoke,hc]
 unfold D3;rw[this];simp only;have ea:(first.toList++c.args.toList.map env++cap.toList).toArray=(first++c.args.map env)++cap:=by
  apply Array.ext';simp
 rw[<-ea];exact h
theorem Fm (env:Operand->Value)(op:Op)(h:A7 P env op=.call f args):D6 op=false:=by
 obtain⟨c,F,first,cap,rfl,hcal,_⟩:=U2 h
 obtain⟨cal,a,t⟩:=c;simp only at hcal;subst hcal;rfl
theorem G.call0 (f:Nat)(args:List Value){R:Value->PH->Prop}(h:Al P (adv P st)=.call f args)(hc:∀ args w,(callFunc f args).run P w=.ok (.enter f args) w)(c:Fn0 P f args u R)
 (k:∀ v u',PH.le u u'->R v u'->G P fn Post (nx (adv P st) v) u' m):G P fn Post st u m:=by
 refine G.big (K:=fun v u' m'=>m'=m/\R v u') h mV Fm (.inl fun v u' m' hK=>by rw[hK.1];exact PH.le_refl _) (fun env o hview w hgd=>?_) (fun v u' m' h1 h2=>?_)
 ·refine Lz hview hc w _ (Calls.mono (c w hgd.noM) fun e w' he=>?_);obtain⟨v,u',m',e1,e2,e3,rfl,e4⟩:=he;obtain⟨g1,g2⟩:=hgd.frame e2 e3;exact⟨v,e1,u',m,g1,g2,rfl,e4⟩
 ·obtain⟨rfl,h2⟩:=h2;exact k v u' h1 h2
def S.init (n:Nat)(args:List Value):S:={ n:=n,tm:=fun d=>match args[d]? with|some x=>.v x|none=>.junk,hp:=fun _=>none }
def Ab7 (fn:Func):Code:=match fn.body with|some c=>c|none=>.skip
def st0 (fn:Func)(args:List Value):List KI×S:=([.code (Ab7 fn)],S.init fn.ntmps args)
end based
theorem Ai.of {PostV:Value->PH->PH->Prop}{f:FuncId}(hf:P.funcs[f]?=some fn)(hb:fn.body.isSome=true)(hn:A55 args.length fn.ntmps=true)(h:G P fn ⟨PostV,m⟩ (st0 fn args) u m):Ai P f args u m PostV:=by
 intro w hgd;have hn:=Nat.le_of_ble_eq_true hn;have hb':fn.body=some (Ab7 fn):=by unfold Ab7;cases hc:fn.body with|none=>simp[hc]at hb|some c=>rfl
 refine callsIn_wide.1 (callsIn_of_wp_marks (n:=1) hf hb' trivial (wpIn_wide.2 ?_) rfl);have hr:Rel ⟨w,u,m⟩ (S.init fn.ntmps args) u m (fun _=>0) { tmps:=args.toArray++Array.replicate (fn.ntmps-args.toArray.size) undef,defers:=[] } w:=by
  refine⟨?_,fun d hd=>?_,Aa9.nil _ _ _ _,fun k b hb=>?_,fun k j hk=>absurd rfl hk,⟨fun d k off hd=>?_,fun j b k off hj=>?_⟩,hgd,Bz.refl _ _ _⟩
  ·simp[S.init];omega
  ·simp only[S.init]at hd⊢;split at hd
   ·rename_i x hx;have hlt:d<args.length:=by rcases List.getElem?_eq_some_iff.1 hx with ⟨h,_⟩;exact h
    simp only[hx,SV.den];rw[Array.getElem?_append_left (by simpa using hlt)];simpa using hx
   ·exact absurd rfl hd
  ·cases hb
  ·simp only[S.init]at hd;split at hd<;>cases hd
  ·cases hj
 exact h.out _ _ _ _ rfl hr
theorem Fn0.of {R:Value->PH->Prop}{f:FuncId}{args:List Value}(hf:P.funcs[f]?=some fn)(hb:fn.body.isSome=true)(hn:A55 args.length fn.ntmps=true)(h:G P fn ⟨fun v u' m'=>m'=PH.mt/\R v u',PH.mt⟩ (st0 fn args) u PH.mt):Fn0 P f args u R :=
 Ai.of hf hb hn h
section based
variable [Dy]
def Tu (t:Array Value):ResultVar->Sem Value
 |.tmp d=>pure (t.getD d undef)
 |.cell p ty=>do loadVar ty (<-asAddr (t.getD p undef))
theorem Abq (hr:Rel c s u m ρ a w){r:ResultVar}(h:W8 P s r=some x):(Tu a.tmps r).run P w=.ok x w:=by
 cases r with
 |tmp t =>
  simp only[W8]at h;split at h
  ·rename_i y hy;simp at h;subst h;have:=hr.tm t (by rw[hy];simp);rw[hy]at this;simp[Tu,this,SV.den]
  ·cases h
 |cell p t =>
  simp only[W8]at h;split at h
  ·rename_i k off hp;split at h
   ·rename_i b hb;split at h
    ·rename_i y hy;simp at h;subst h;have:=hr.tm p (by rw[hp];simp);rw[hp]at this;obtain⟨h1,_,_⟩:=Aen (P:=P) (w:=w) (hr.box k b hb).1 hy;simp[Tu,this,SV.den,asAddr];exact h1
    ·cases h
   ·cases h
  ·cases h
theorem P9 (hr:Rel c s u m ρ a w){l:List Value}(h:O8 P s fn.results.toList=some l):(results fn a.tmps).run P w=.ok (Ad5 l) w:=by
 have key:∀ (rs:List ResultVar) (l:List Value),O8 P s rs=some l->(rs.mapM (Tu a.tmps)).run P w=.ok l w:=by
  intro rs;induction rs with
  |nil=>intro l h;simp[O8]at h;subst h;simp
  |cons r rs ih =>
   intro l h;unfold O8 at h;split at h
   ·rename_i x hx;split at h
    ·rename_i xs hxs;simp at h;subst h;rw[List.mapM_cons];simp only[A1n,Abq hr hx,A0y,ih xs hxs,A3g]
    ·cases h
   ·cases h
 have e:results fn a.tmps=(do let vs <-fn.results.mapM (Tu a.tmps);pure (if h:vs.size=1 then vs[0] else .tuple vs)):=by
  unfold results;rfl
 rw[e,<-Array.toArray_toList (xs:=fn.results),List.mapM_toArray];simp only[A1n,Sem.run_map,key _ l h,A0y,A3g]
 congr 1
 match l with
 |[]=>rfl
 |[x]=>rfl
 |x::y::l=>rfl
end based
theorem G.ret (v:Value)(h:Anw P fn (adv P st)=some v)(hp:Post.post v u m):G P fn Post st u m:=by
 refine G.stp ?_;generalize adv P st=st' at h;obtain⟨ks,s⟩:=st';unfold Anw at h;simp only at h;split at h
 ·rename_i k;split at h
  ·rename_i l hl;simp at h;subst h;refine⟨?_⟩;intro c ρ a w hm0 hr;exact wp_ret (K5 (hr.ends fun w' hr'=>⟨P9 (a:=⟨a.tmps,[]⟩) hr' hl,_,_,_,rfl,hr'.gd,hr'.gr,hp⟩).1 _)
  ·cases h
 ·split at h
  ·rename_i l hl;simp at h;subst h;refine⟨?_⟩;intro c ρ a w hm0 hr;exact (hr.ends fun w' hr'=>⟨P9 (a:=⟨a.tmps,[]⟩) hr' hl,_,_,_,rfl,hr'.gd,hr'.gr,hp⟩).2
  ·cases h
 ·cases h
end rules
end
section
variable {B:List (Nat×Blk)}{T:List (Nat×SV)}
variable [Cc] [Dy]
def Ado (d:Nat):List (Nat×SV)->SV
 |[]=>.junk
 |(e,x)::l=>cond (A17 d e) x (Ado d l)
def Rd (d:Nat):List (Nat×Blk)->Option Blk
 |[]=>none
 |(e,x)::l=>cond (A17 d e) (some x) (Rd d l)
def S.of (n:Nat)(T:List (Nat×SV))(B:List (Nat×Blk)):S:={ n:=n,tm:=fun d=>Ado d T,hp:=fun k=>Rd k B }
def Aia (B:List (Nat×Blk)):SV->Bool
 |.p k _=>B.any fun q=>A17 q.1 k
 |_=>true
def Qm (T:List (Nat×SV))(B:List (Nat×Blk)):Bool:=T.all (fun p=>Aia B p.2)&&B.all (fun q=>q.2.cells.all (Aia B))
structure Cov (N:Nat)(s:S)(T:List (Nat×SV))(B:List (Nat×Blk)):Prop where
 n:s.n=N
 t:T.map (fun p=>s.tm p.1)=T.map (·.2)
 b:B.map (fun p=>s.hp p.1)=B.map (fun p=>some p.2)
theorem Ph {d:Nat}{x:SV}:∀ {T:List (Nat×SV)},Ado d T=x->x≠.junk->(d,x)∈T
 |[],h,hx=>absurd h.symm hx
 |(e,y)::l,h,hx=>by
  unfold Ado at h;cases hb:A17 d e with
  |true=>simp[hb]at h;have:=A1h hb;subst this;subst h;simp
  |false=>simp[hb]at h;exact A1w _ (Ph h hx)
theorem L7 {d:Nat}{x:Blk}:∀ {B:List (Nat×Blk)},Rd d B=some x->(d,x)∈B
 |[],h=>by cases h
 |(e,y)::l,h=>by
  unfold Rd at h;cases hb:A17 d e with
  |true=>simp[hb]at h;have:=A1h hb;subst this;subst h;simp
  |false=>simp[hb]at h;exact A1w _ (L7 h)
theorem Jz {k:Nat}:∀ {B:List (Nat×Blk)},B.any (fun q=>A17 q.1 k)=true->Rd k B≠none
 |[],h=>by simp at h
 |(e,y)::l,h=>by
  unfold Rd;cases hb:A17 k e with
  |true=>simp
  |false =>
   simp only[cond_false];refine Jz ?_;simp only[List.any_cons,Bool.or_eq_true]at h;rcases h with h|h
   ·have:=A1h h;subst this;simp at hb
   ·exact h
theorem Ak6 {n:Nat}(h:Qm T B=true):La (S.of n T B):=by
 unfold Qm at h;simp only[A05,A08]at h;refine⟨fun d k off hd=>?_,fun j b k off hj hm=>?_⟩
 ·have:=h.1 _ (Ph hd mV);exact Jz this
 ·have:=h.2 _ (L7 hj) _ hm;exact Jz this
theorem Rel.cov {c:Cx}{s:S}{u m:PH}{ρ:Nat->Nat}{a:Act}{w:World}(h:Rel c s u m ρ a w){N:Nat}(hc:Cov N s T B)(hl:Qm T B=true):Rel c (S.of N T B) u m ρ a w:=by
 have ht:∀ d x,(d,x)∈T->s.tm d=x:=by
  intro d x hm;have:=hc.t;rw[Ba2]at this;exact this _ hm
 have hb:∀ d x,(d,x)∈B->s.hp d=some x:=by
  intro d x hm;have:=hc.b;rw[Ba2]at this;exact this _ hm
 refine⟨h.sz.trans hc.n,fun d hd=>?_,h.df,fun k b hk=>h.box k b (hb k b (L7 hk)),fun k j hk hj=>?_,Ak6 hl,h.gd,h.gr⟩
 ·have:=ht d _ (Ph rfl hd);have h2:=h.tm d (by rw[this];exact hd);rw[this]at h2;exact h2
 ·have h1:∀ k,(S.of N T B).hp k≠none->s.hp k≠none:=by
   intro k hk;cases hq:Rd k B with
   |none=>exact absurd hq hk
   |some b=>rw[hb k b (L7 hq)];simp
  exact h.inj k j (h1 k hk) (h1 j hj)
def Aka (st:List KI×S):Bool:=match st.1 with|.code (.loop _)::_=>true|_=>false
def Ajb (st:List KI×S)(J:S->PH->PH->Prop)(T:List (Nat×SV))(B:List (Nat×Blk)):List KI×S:=match st.1 with
 |.code (.loop c)::k=>(.code c::.lp J::k,S.of st.2.n T B)
 |_=>st
def Aor:List KI->Option (S->PH->PH->Prop)
 |.lp J::_=>some J
 |_=>none
section rules
variable {P:Program} [Ba P] {fn:Func} {Post:B0} {st:List KI×S} {u m:PH}
theorem G.back {J:S->PH->PH->Prop}(h:Aor (adv P st).1=some J)(hj:J (adv P st).2 u m):G P fn Post st u m:=by
 refine G.stp ?_;generalize adv P st=st' at h hj;obtain⟨ks,s⟩:=st'
 match ks,h with
 |.lp J'::k,h =>
  simp only[Aor,A0t]at h;subst h;exact⟨fun c ρ a w hm0 hr=>⟨s,u,m,ρ,hr,hj⟩⟩
theorem G.loop {ι:Type}(T:ι->List (Nat×SV))(B:ι->List (Nat×Blk))(Inv:ι->PH->PH->Prop)(μ:ι->Nat)(i0:ι)(h:Aka (adv P st)=true)(hl:∀ i,Qm (T i) (B i)=true)(h0:Cov (adv P st).2.n (adv P st).2 (T i0) (B i0))(hI:Inv i0 u m)
 (hR:∀ (J:S->PH->PH->Prop) (i:ι),(∀ i' s' u' m',Cov (adv P st).2.n s' (T i') (B i')->PH.le u u'->Inv i' u' m'->μ i' < μ i->J s' u' m')->∀ u' m',PH.le u u'->Inv i u' m'->G P fn Post (Ajb (adv P st) J (T i) (B i)) u' m'):G P fn Post st u m:=by
 refine G.stp ?_;generalize adv P st=st' at h h0 hR;obtain⟨ks,s⟩:=st'
 match ks,h with
 |.code (.loop x)::k,_ =>
  refine⟨?_⟩;intro c ρ a w hm0 hr;show (Code.loop x).wp P (Hs P fn Post c k) a w;refine wp_loop_ghost (fun n a w=>∃ i u' m' ρ',Rel c (S.of s.n (T i) (B i)) u' m' ρ' a w/\PH.le u u'/\Inv i u' m'/\μ i=n) (μ i0) ⟨i0,u,m,ρ,hr.cov h0 (hl i0),PH.le_refl _,hI,rfl⟩ ?_;rintro n a w ⟨i,u',m',ρ',h1,h2,h3,rfl⟩;have:=(hR (fun s' u' m'=>∃ i',Cov s.n s' (T i') (B i')/\PH.le u u'/\Inv i' u' m'/\μ i' < μ i) i (fun i' s' u' m' k1 k2 k3 k4=>⟨i',k1,k2,k3,k4⟩) u' m' h2 h3).out c ρ' a w hm0 h1;refine wp_mono this fun e a w hq=>?_;cases e with
  |normal =>
   obtain⟨s',u1,m1,ρ1,r1,i',k1,k2,k3,k4⟩:=hq;exact⟨_,k4,i',u1,m1,ρ1,r1.cov k1 (hl i'),k2,k3,rfl⟩
  |_=>exact hq
end rules
end
section
variable [Cc] [Dy]
variable {P:Program} [Ba P] {fn:Func} {Post:B0} {st:List KI×S} {u m:PH}
theorem cV {N:Nat}{s:S}{T:List (Nat×SV)}{B:List (Nat×Blk)}(a:s.n=N:=by kernel_rfl)(b:T.map (fun p=>s.tm p.1)=T.map (·.2):=by kernel_rfl)(c:B.map (fun p=>s.hp p.1)=B.map (fun p=>some p.2):=by kernel_rfl):Cov N s T B:=⟨a,b,c⟩
theorem G.c {f:Nat}{args:List Value}{R:Value->PH->Prop}(hc:∀ args w,(callFunc f args).run P w=.ok (.enter f args) w)(c:Fn0 P f args u R)(k:∀ v u',PH.le u u'->R v u'->G P fn Post (nx (adv P st) v) u' m)(h:Al P (adv P st)=.call f args:=by kernel_rfl):G P fn Post st u m:=G.call0 f args h hc c k
theorem G.eT (x y:Int)(k:G P fn Post (nx (adv P st) (.bool true)) u m)(h:Al P (adv P st)=.bin .eql (.int .i64 x) (.int .i64 y):=by kernel_rfl)(hb:x=y:=by omega):G P fn Post st u m:=G.eqlT x y h hb k
theorem G.eF (x y:Int)(k:G P fn Post (nx (adv P st) (.bool false)) u m)(h:Al P (adv P st)=.bin .eql (.int .i64 x) (.int .i64 y):=by kernel_rfl)(hb:¬ (x=y):=by omega):G P fn Post st u m:=G.eqlF x y h hb k
theorem G.nT (x y:Int)(k:G P fn Post (nx (adv P st) (.bool true)) u m)(h:Al P (adv P st)=.bin .neq (.int .i64 x) (.int .i64 y):=by kernel_rfl)(hb:x≠y:=by omega):G P fn Post st u m:=G.neqT x y h hb k
theorem G.nF (x y:Int)(k:G P fn Post (nx (adv P st) (.bool false)) u m)(h:Al P (adv P st)=.bin .neq (.int .i64 x) (.int .i64 y):=by kernel_rfl)(hb:¬ (x≠y):=by omega):G P fn Post st u m:=G.neqF x y h hb k
theorem G.lT (x y:Int)(k:G P fn Post (nx (adv P st) (.bool true)) u m)(h:Al P (adv P st)=.bin .lss (.int .i64 x) (.int .i64 y):=by kernel_rfl)(hb:x<y:=by omega):G P fn Post st u m:=G.lssT x y h hb k
theorem G.lF (x y:Int)(k:G P fn Post (nx (adv P st) (.bool false)) u m)(h:Al P (adv P st)=.bin .lss (.int .i64 x) (.int .i64 y):=by kernel_rfl)(hb:¬ (x<y):=by omega):G P fn Post st u m:=G.lssF x y h hb k
theorem G.kT (x y:Int)(k:G P fn Post (nx (adv P st) (.bool true)) u m)(h:Al P (adv P st)=.bin .leq (.int .i64 x) (.int .i64 y):=by kernel_rfl)(hb:x<=y:=by omega):G P fn Post st u m:=G.leqT x y h hb k
theorem G.kF (x y:Int)(k:G P fn Post (nx (adv P st) (.bool false)) u m)(h:Al P (adv P st)=.bin .leq (.int .i64 x) (.int .i64 y):=by kernel_rfl)(hb:¬ (x<=y):=by omega):G P fn Post st u m:=G.leqF x y h hb k
theorem G.gT (x y:Int)(k:G P fn Post (nx (adv P st) (.bool true)) u m)(h:Al P (adv P st)=.bin .gtr (.int .i64 x) (.int .i64 y):=by kernel_rfl)(hb:x>y:=by omega):G P fn Post st u m:=G.gtrT x y h hb k
theorem G.gF (x y:Int)(k:G P fn Post (nx (adv P st) (.bool false)) u m)(h:Al P (adv P st)=.bin .gtr (.int .i64 x) (.int .i64 y):=by kernel_rfl)(hb:¬ (x>y):=by omega):G P fn Post st u m:=G.gtrF x y h hb k
theorem G.hT (x y:Int)(k:G P fn Post (nx (adv P st) (.bool true)) u m)(h:Al P (adv P st)=.bin .geq (.int .i64 x) (.int .i64 y):=by kernel_rfl)(hb:x≥y:=by omega):G P fn Post st u m:=G.geqT x y h hb k
theorem G.hF (x y:Int)(k:G P fn Post (nx (adv P st) (.bool false)) u m)(h:Al P (adv P st)=.bin .geq (.int .i64 x) (.int .i64 y):=by kernel_rfl)(hb:¬ (x≥y):=by omega):G P fn Post st u m:=G.geqF x y h hb k
theorem G.eT' (x y:Int)(hb:x=y)(k:G P fn Post (nx (adv P st) (.bool true)) u m)(h:Al P (adv P st)=.bin .eql (.int .i64 x) (.int .i64 y):=by kernel_rfl):G P fn Post st u m:=G.eqlT x y h hb k
theorem G.eF' (x y:Int)(hb:¬ (x=y))(k:G P fn Post (nx (adv P st) (.bool false)) u m)(h:Al P (adv P st)=.bin .eql (.int .i64 x) (.int .i64 y):=by kernel_rfl):G P fn Post st u m:=G.eqlF x y h hb k
theorem G.nT' (x y:Int)(hb:x≠y)(k:G P fn Post (nx (adv P st) (.bool true)) u m)(h:Al P (adv P st)=.bin .neq (.int .i64 x) (.int .i64 y):=by kernel_rfl):G P fn Post st u m:=G.neqT x y h hb k
theorem G.nF' (x y:Int)(hb:¬ (x≠y))(k:G P fn Post (nx (adv P st) (.bool false)) u m)(h:Al P (adv P st)=.bin .neq (.int .i64 x) (.int .i64 y):=by kernel_rfl):G P fn Post st u m:=G.neqF x y h hb k
theorem G.lT' (x y:Int)(hb:x<y)(k:G P fn Post (nx (adv P st) (.bool true)) u m)(h:Al P (adv P st)=.bin .lss (.int .i64 x) (.int .i64 y):=by kernel_rfl):G P fn Post st u m:=G.lssT x y h hb k
theorem G.lF' (x y:Int)(hb:¬ (x<y))(k:G P fn Post (nx (adv P st) (.bool false)) u m)(h:Al P (adv P st)=.bin .lss (.int .i64 x) (.int .i64 y):=by kernel_rfl):G P fn Post st u m:=G.lssF x y h hb k
theorem G.kT' (x y:Int)(hb:x<=y)(k:G P fn Post (nx (adv P st) (.bool true)) u m)(h:Al P (adv P st)=.bin .leq (.int .i64 x) (.int .i64 y):=by kernel_rfl):G P fn Post st u m:=G.leqT x y h hb k
theorem G.kF' (x y:Int)(hb:¬ (x<=y))(k:G P fn Post (nx (adv P st) (.bool false)) u m)(h:Al P (adv P st)=.bin .leq (.int .i64 x) (.int .i64 y):=by kernel_rfl):G P fn Post st u m:=G.leqF x y h hb k
theorem G.gT' (x y:Int)(hb:x>y)(k:G P fn Post (nx (adv P st) (.bool true)) u m)(h:Al P (adv P st)=.bin .gtr (.int .i64 x) (.int .i64 y):=by kernel_rfl):G P fn Post st u m:=G.gtrT x y h hb k
theorem G.gF' (x y:Int)(hb:¬ (x>y))(k:G P fn Post (nx (adv P st) (.bool false)) u m)(h:Al P (adv P st)=.bin .gtr (.int .i64 x) (.int .i64 y):=by kernel_rfl):G P fn Post st u m:=G.gtrF x y h hb k
theorem G.hT' (x y:Int)(hb:x≥y)(k:G P fn Post (nx (adv P st) (.bool true)) u m)(h:Al P (adv P st)=.bin .geq (.int .i64 x) (.int .i64 y):=by kernel_rfl):G P fn Post st u m:=G.geqT x y h hb k
theorem G.hF' (x y:Int)(hb:¬ (x≥y))(k:G P fn Post (nx (adv P st) (.bool false)) u m)(h:Al P (adv P st)=.bin .geq (.int .i64 x) (.int .i64 y):=by kernel_rfl):G P fn Post st u m:=G.geqF x y h hb k
theorem G.i (i:Nat)(k:G P fn Post (nx (adv P st) (.int .i64 ((i+1:Nat):Int))) u m)(h:Al P (adv P st)=.bin .add (.int .i64 (i:Int)) (.int .i64 1):=by kernel_rfl)(h2:((i+1:Nat):Int)<=9223372036854775807:=by omega):G P fn Post st u m:=G.add (i:Int) 1 ((i+1:Nat):Int) h (by omega) (by omega) h2 k
theorem G.p (x y z:Int)(k:G P fn Post (nx (adv P st) (.int .i64 z)) u m)(h:Al P (adv P st)=.bin .add (.int .i64 x) (.int .i64 y):=by kernel_rfl)(hz:x+y=z:=by omega)(h1:-9223372036854775808<=z:=by omega)(h2:z<=9223372036854775807:=by omega):G P fn Post st u m:=G.add x y z h hz h1 h2 k
theorem G.s (x y z:Int)(k:G P fn Post (nx (adv P st) (.int .i64 z)) u m)(h:Al P (adv P st)=.bin .sub (.int .i64 x) (.int .i64 y):=by kernel_rfl)(hz:x-y=z:=by omega)(h1:-9223372036854775808<=z:=by omega)(h2:z<=9223372036854775807:=by omega):G P fn Post st u m:=G.sub x y z h hz h1 h2 k
theorem G.b {J:S->PH->PH->Prop}(hj:J (adv P st).2 u m)(h:Aor (adv P st).1=some J:=by kernel_rfl):G P fn Post st u m:=G.back h hj
theorem G.l {ι:Type}(T:ι->List (Nat×SV))(B:ι->List (Nat×Blk))(Inv:ι->PH->PH->Prop)(μ:ι->Nat)(i0:ι)(hI:Inv i0 u m)
    (hR:∀ (J:S->PH->PH->Prop) (i:ι),(∀ i' s' u' m',Cov (adv P st).2.n s' (T i') (B i')->PH.le u u'->Inv i' u' m'->μ i' < μ i->J s' u' m')->∀ u' m',PH.le u u'->Inv i u' m'->G P fn Post (Ajb (adv P st) J (T i) (B i)) u' m') (h:Aka (adv P st)=true:=by kernel_rfl) (hl:∀ i,Qm (T i) (B i)=true:=by exact fun _=>by kernel_rfl) (h0:Cov (adv P st).2.n (adv P st).2 (T i0) (B i0):=by exact cV):G P fn Post st u m:=G.loop T B Inv μ i0 h hl h0 hI hR
end
section
variable [Cc]
variable {P:Program} [Ba P] {fn:Func} {Post:B0} {st:List KI×S} {u m:PH}
theorem G.r (v:Value)(hp:Post.post v u m)(h:Anw P fn (adv P st)=some v:=by kernel_rfl):G P fn Post st u m:=G.ret v h hp
theorem Fn0.o {R:Value->PH->Prop}{f:FuncId}{args:List Value}(hf:P.funcs[f]?=some fn)(h:G P fn ⟨fun v u' m'=>m'=PH.mt/\R v u',PH.mt⟩ (st0 fn args) u PH.mt)(hb:fn.body.isSome=true:=by kernel_rfl)(hn:A55 args.length fn.ntmps=true:=by kernel_rfl):Fn0 P f args u R:=Fn0.of hf hb hn h
theorem Ai.o {PostV:Value->PH->PH->Prop}{f:FuncId}{args:List Value}(hf:P.funcs[f]?=some fn)(h:G P fn ⟨PostV,m⟩ (st0 fn args) u m)(hb:fn.body.isSome=true:=by kernel_rfl)(hn:A55 args.length fn.ntmps=true:=by kernel_rfl):Ai P f args u m PostV:=Ai.of hf hb hn h
end
section
variable {a:Option Addr}{cs:List Value}{w:World}
def Ext (w w':World):Prop:=Below w.heap.size w w'
theorem Ext.refl (w:World):Ext w w:=Below.refl _ _
theorem Ext.trans {a b c:World}(h:Ext a b)(k:Ext b c):Ext a c:=Below.trans h (Below.mono k h.size)
theorem Ext.alloc {a w:World}(h:Ext a w)(o:Obj):Ext a (w.alloc o):=Below.alloc h h.size o
theorem Ext.drew {a w:World}(h:Ext a w):Ext a w.drew:=Below.drew h
theorem Ext.cell {w w':World}(h:Ext w w'){p:Addr}{v:Value}(hp:w.cell? p=some v):w'.cell? p=some v:=by
 rw[Below.cell h (block_lt_of_cell hp)];exact hp
theorem Ext.size {w w':World}(h:Ext w w'):w.heap.size<=w'.heap.size:=Below.size h
theorem Ext.setCell {a w:World}(h:Ext a w){p:Addr}(hp:a.heap.size<=p.block)(u:Value):Ext a (w.setCell p u):=Below.setCell h hp u
theorem Ext.grown {a w w':World}{row:Option Nat}(h:Ext a w)(hg:w.grownBy w' row)(hr:∀ k,row=some k->a.heap.size<=k):Ext a w' :=
 Below.grown h hg h.size hr
def Row (w:World)(a:Option Addr)(cs:List Value):Prop :=
 ∀ j,j<cs.length->∃ b off,a=some ⟨b,off,none⟩/\w.cell? ⟨b,off+j,none⟩=some (cs.getD j (.bool false))
theorem Row.ext {w w':World}(h:Row w a cs)(x:Ext w w'):Row w' a cs:=by
 intro j hj;obtain⟨b,off,h1,h2⟩:=h j hj;exact⟨b,off,h1,x.cell h2⟩
theorem Row.nil (w:World)(a:Option Addr):Row w a []:=fun j hj=>absurd hj mV
theorem Row.take (h:Row w a cs)(k:Nat):Row w a (cs.take k):=by
 intro j hj;rw[A00]at hj;obtain⟨b,off,h1,h2⟩:=h j oV;refine⟨b,off,h1,?_⟩;rw[h2,A0o,A0o,A3m,if_pos oV]
theorem Row.of_owns {w:World}{base:Nat}{e:TypeId}{size:Nat}{g n cap:Nat}{xs:List Value}
 (h:w.ownsRow base e size (.slice (some ⟨g,0,none⟩) n cap) n xs):Row w (some ⟨g,0,none⟩) xs:=by
 intro j hj;refine⟨g,0,rfl,?_⟩;rw[h.1]at hj;have:=h.cellAt j hj;rw[A2b,this,A0o];have hj':j<xs.length:=by rw[h.1];exact hj
 rw[List.getElem?_eq_getElem hj'];rfl
def E2 (l:List Nat):List Value:=l.map fun (n:Nat)=>A15 .u64 (n:Int)
@[simp] theorem Qh (l:List Nat):(E2 l).length=l.length:=by simp[E2]
theorem Row.at {l:List Nat}(h:Row w a (E2 l)){j:Nat}(hj:j<l.length) :
 ∃ b off,a=some ⟨b,off,none⟩/\w.cell? ⟨b,off+j,none⟩=some (.int .u64 (l.getD j 0:Nat)):=by
 obtain⟨b,off,h1,h2⟩:=h j (by simpa[E2] using hj);exact⟨b,off,h1,by rw[h2];simp[E2,hj]⟩
theorem Ss (l:List Nat)(j n:Nat):(E2 l).set j (.int .u64 (n:Int))=E2 (l.set j n):=by simp[E2,List.map_set]
theorem U1 (l:List Nat)(k:Nat):(E2 l).take k=E2 (l.take k):=by simp[E2,List.map_take]
theorem Ab2 (n:Nat):A0x n (A15 .u64 0)=E2 (A0x n 0):=by simp[E2]
def Sn (w:World)(v:Value)(l:List Nat):Prop:=∃ a cap,v=.slice a l.length cap/\l.length<=cap/\Row w a (E2 l)
def Ci (w:World)(v:Value)(n:Nat):Prop:=Sn w v (Aa n)
theorem Sn.ext {w w':World}{v:Value}{l:List Nat}(h:Sn w v l)(x:Ext w w'):Sn w' v l:=by
 obtain⟨a,cap,h1,h2,h3⟩:=h;exact⟨a,cap,h1,h2,h3.ext x⟩
theorem Ci.ext {w w':World}{v:Value}{n:Nat}(h:Ci w v n)(x:Ext w w'):Ci w' v n:=Sn.ext h x
theorem Ci.zero (w:World)(a:Option Addr)(cap:Nat):Ci w (.slice a 0 cap) 0:=by
 refine⟨a,cap,by rw[Bd];rfl,by rw[Bd];simp,?_⟩;rw[Bd];simp[E2];exact Row.nil _ _
end
section
theorem Us {a:Option Addr}{m n c:Nat}(h:m=n):Ending.returned (.slice a m c)=.returned (.slice a n c):=by rw[h]
theorem Al8 {k:IntKind}{a b:Int}(h:a=b):Ending.returned (.int k a)=.returned (.int k b):=by rw[h]
theorem Agq (a:Option Addr)(cap:Nat)(l:List Nat)(w:World)(hlen:l.length<=9223372036854775807)(hcap:l.length<=cap)
 (hc:Row w a (E2 l)) :
 Calls prog 228 #[.slice a l.length cap] w fun e w'=>e=.returned (.slice a (Bj l l.length) cap)/\w=w':=by
 have HC:=A0r hc;clear hc
 go_enter func228,ntmps228
 go_wp2
 go_loop [3] (fun n=>∃ k:Nat,k<=l.length/\n=.int .i64 k/\Bj l l.length=Bj l k) (fun n=>(intOf n).toNat)
 case atStart=>exact⟨l.length,oV,rfl,rfl⟩
 case round =>
  obtain⟨k,hk,rfl,ht⟩:=hrel;have HT:=A0r ht;clear ht;rcases k with _|k
  ·go_wp2
   go_ret
   exact⟨Us (by rw[HT.out];rfl),rfl⟩
  ·obtain⟨b,off,rfl,h1⟩:=HC.out.at (j:=k) oV;obtain⟨x,hx⟩:∃ x,x=l.getD k 0:=⟨_,rfl⟩;rw[<-hx]at h1;have HX:=A0r hx;clear hx;by_cases h0:x=0
   ·subst h0
    go_wp2
    go_round
    case rel=>exact⟨k,oV,rfl,by rw[HT.out];simp only[Bj,<-HX.out,if_true]⟩
    case measure=>simp[intOf]
   ·have h2:((x:Int)==0)=false:=gV
    go_wp2
    go_ret
    exact⟨Us (by rw[HT.out];simp only[Bj,<-HX.out,if_neg h0]),rfl⟩
theorem Tk (a:Option Addr)(cap:Nat)(l:List Nat)(i:Int)(w:World)(hlen:l.length<=9223372036854775807)(hi:0<=i)
 (hc:Row w a (E2 l)) :
 Calls prog 267 #[.slice a l.length cap,.int .i64 i] w fun e w'=>e=.returned (.int .u64 (l.getD i.toNat 0:Nat))/\w=w':=by
 obtain⟨k,rfl⟩:=Int.eq_ofNat_of_zero_le hi;rw[A22];have HC:=A0r hc;clear hc;by_cases hk:k<l.length
 ·obtain⟨b,off,rfl,h1⟩:=HC.out.at (j:=k) hk;obtain⟨x,hx⟩:∃ x,x=l.getD k 0:=⟨_,rfl⟩;rw[<-hx]at h1⊢;clear HC hx
  go_enter func267,ntmps267
  go_wp2
  go_ret
  exact⟨rfl,rfl⟩
 ·have h1:l.getD k 0=0:=by
   have:l[k]?=none:=A1g oV;simp[this]
  rw[h1];clear HC h1
  go_enter func267,ntmps267
  go_wp2
  go_ret
  exact⟨rfl,rfl⟩
def sgn (n:Int):Int:=if n<0 then -1 else if 0<n then 1 else 0
theorem Aha (n:Int)(w:World) :
 Calls prog 268 #[.int .i64 n] w fun e w'=>e=.returned (.int .i64 (sgn n))/\w=w':=by
 rcases Int.lt_trichotomy n 0 with h|h|h
 ·have h1:sgn n = -1:=by simp[sgn,h]
  rw[h1];clear h1
  go_enter func268,ntmps268
  go_wp2
  go_ret
  exact⟨rfl,rfl⟩
 ·subst h
  go_enter func268,ntmps268
  go_wp2
  go_ret
  exact⟨rfl,rfl⟩
 ·have h1:sgn n=1:=by simp[sgn,h];omega
  rw[h1];clear h1;have h2:¬ n<0:=oV
  go_enter func268,ntmps268
  go_wp2
  go_ret
  exact⟨rfl,rfl⟩
theorem Fk (a:Option Addr)(cap n:Nat)(l:List Nat)(w:World)(hn:l.length=n)(hlen:n<=9223372036854775807)(hcap:n<=cap)
 (hc:Row w a (E2 l)) :
 Calls prog 228 #[.slice a n cap] w fun e w'=>e=.returned (.slice a (Bj l l.length) cap)/\w=w':=by
 subst hn;exact Agq a cap l w hlen hcap hc
end
section
variable {a b o ys:List Nat}{c d i k r x y:Nat}
theorem Gy (p t:Nat):p*(t%1000000000)+p*1000000000*(t/1000000000)=p*t:=by
 rw[A1x,<-A2a,Nat.mod_add_div]
structure I2 (a b:List Nat)(k:Nat)(ys:List Nat)(c:Nat):Prop where
 len:ys.length=k
 low:Low ys
 carry:c<=1
 sum:val ys+1000000000^k*c=val (a.take k)+val (b.take k)
theorem I2.start (a b:List Nat):I2 a b 0 [] 0:=⟨rfl,Low.nil,oV,by simp[val]⟩
theorem I2.step (h:I2 a b k ys c)(ha:Low a)(hb:Low b)(hx:x=a.getD k 0)(hy:y=b.getD k 0) :
 I2 a b (k+1) (ys++[(x+y+c)%1000000000]) ((x+y+c)/1000000000):=by
 have h1:=ha.getD k;have h2:=hb.getD k;have h3:=h.carry;rw[<-hx]at h1;rw[<-hy]at h2;refine⟨by simp[h.len],h.low.append (Low.cons oV Low.nil),oV,?_⟩;rw[Hp,B3,B3,h.len,<-hx,<-hy,A16,A28,Gy];have:=h.sum;rw[A2a,A2a];omega
theorem I2.done (h:I2 a b (max a.length b.length+1) ys c)(ha:Low a)(hb:Low b):val ys=val a+val b:=by
 have hs:=h.sum;rw[A03 oV,A03 oV]at hs;have h1:=Ip ha;have h2:=Ip hb;have h3:1000000000^a.length<=1000000000^max a.length b.length:=A1l oV oV;have h4:1000000000^b.length<=1000000000^max a.length b.length:=A1l oV oV;rw[A16]at hs;have h5:=A2e h1 h3;have h6:=A2e h2 h4;have hc:=h.carry;clear h1 h2 h3 h4 h;generalize 1000000000^max a.length b.length=p at *
 rcases A1p c with h0|h0
 ·subst h0;rw[A3n,A3f]at hs;exact hs
 ·have h1:c=1:=A76 hc h0;subst h1;rw[A5y]at hs;omega
structure It (a b:List Nat)(k:Nat)(ys:List Nat)(c:Nat):Prop where
 len:ys.length=k
 low:Low ys
 carry:c<=1
 sum:val ys+val (b.take k)=val (a.take k)+1000000000^k*c
theorem It.start (a b:List Nat):It a b 0 [] 0:=⟨rfl,Low.nil,oV,by simp[val]⟩
theorem It.step (h:It a b k ys c)(ha:Low a)(hb:Low b)(hx:x=a.getD k 0)(hy:y=b.getD k 0) :
 It a b (k+1) (ys++[(x+1000000000-y-c)%1000000000]) (1-(x+1000000000-y-c)/1000000000):=by
 have h1:=ha.getD k;have h2:=hb.getD k;have h3:=h.carry;rw[<-hx]at h1;rw[<-hy]at h2;refine⟨by simp[h.len],h.low.append (Low.cons oV Low.nil),oV,?_⟩;rw[Hp,B3,B3,h.len,<-hx,<-hy,A16];have hs:=h.sum;generalize 1000000000^k=p at *
 obtain⟨t,ht⟩:∃ t,t=x+1000000000-y-c:=⟨_,rfl⟩;rw[<-ht];have e1:t%1000000000+y+c=x+1000000000*(1-t/1000000000):=oV
 have e2:p*(t%1000000000)+p*y+p*c=p*x+p*1000000000*(1-t/1000000000):=by
  rw[A1x,<-A2a,<-A2a,<-A2a,e1]
 omega
theorem It.done (h:It a b a.length ys c)(hb:b.length<=a.length)(hle:val b<=val a):val ys=val a-val b:=by
 have hs:=h.sum;rw[A03 (A0w _),A03 hb]at hs;have h1:=Ip h.low;rw[h.len]at h1;rcases A1p c with h0|h0
 ·subst h0;simp at hs;omega
 ·have:1000000000^a.length*1<=1000000000^a.length*c:=A2i _ h0;omega
theorem E5 (l:List Nat)(k:Nat)(hk:k<=l.length):val l=val (l.take k)+1000000000^k*val (l.drop k):=by
 have:=Nb (l.take k) (l.drop k);rw[List.take_append_drop,A00,A32 hk]at this;exact this
theorem Aqh (l:List Nat)(k:Nat)(hk:k<l.length):l.drop k=l.getD k 0::l.drop (k+1):=by
 rw[List.drop_eq_getElem_cons hk];simp[hk]
theorem Fq {a b:List Nat}{k:Nat}(hl:a.length=b.length)(hk:k<a.length)(ha:Low a)(hd:a.drop (k+1)=b.drop (k+1))
 (h:a.getD k 0<b.getD k 0):val a<val b:=by
 rw[E5 a k oV,E5 b k oV,Aqh a k hk,Aqh b k oV,hd];simp only[val];have h1:=Ip (ha.take k);rw[A00,A32 oV]at h1;generalize 1000000000^k=p at *
 generalize val (Bb4 (k+1) b)=q;have:p*(a.getD k 0+1+1000000000*q)<=p*(b.getD k 0+1000000000*q):=A2i _ oV;have e:p*(a.getD k 0+1+1000000000*q)=p*(a.getD k 0+1000000000*q)+p:=by
  rw[show a.getD k 0+1+1000000000*q=(a.getD k 0+1000000000*q)+1 by omega,A2a,A5y]
 omega
theorem Il {m n:Nat}(h:nl m<nl n):m<n:=by
 rcases A11 m n with h1|h1
 ·exact h1
 ·have:=C6 h1;omega
structure Ey (a b:List Nat)(i k:Nat)(o:List Nat)(c:Nat):Prop where
 len:o.length=a.length+b.length
 low:Low o
 carry:c<1000000000
 sum:val o+1000000000^(i+k)*c=val (a.take i)*val b+1000000000^i*(a.getD i 0*val (b.take k))
 high:∀ j,i+b.length<=j->o.getD j 0=0
theorem Adc (l:List Nat)(j d:Nat)(hj:j<l.length):val (l.set j d)+1000000000^j*l.getD j 0=val l+1000000000^j*d:=by
 induction l generalizing j with
 |nil=>simp at hj
 |cons x l ih =>
  cases j with
  |zero=>simp[val];omega
  |succ j =>
   have:=ih j (by simpa using hj);simp only[List.set_cons_succ,val,List.getD_cons_succ,A16];have e1:1000000000^j*1000000000*l.getD j 0=1000000000*(1000000000^j*l.getD j 0):=by rw[A10 (1000000000^j),A1x]
   have e2:1000000000^j*1000000000*d=1000000000*(1000000000^j*d):=by rw[A10 (1000000000^j),A1x]
   rw[e1,e2];omega
theorem Low.set {l:List Nat}(h:Low l)(j:Nat)(hd:d<1000000000):Low (l.set j d):=by
 intro x hx;rcases List.mem_or_eq_of_mem_set hx with hx|rfl
 ·exact h x hx
 ·exact hd
theorem Ev (l:List Nat){i j:Nat}(d:Nat)(h:i≠j):(l.set i d).getD j 0=l.getD j 0:=by
 simp[A0o,h]
theorem Ey.start (a b:List Nat):Ey a b 0 0 (A0x (a.length+b.length) 0) 0:=by
 refine⟨mV,Low.zeros _,oV,by simp[Vi,val],fun j _=>?_⟩;rw[A0o,List.getElem?_replicate];split<;>rfl
theorem Ey.step {a b o:List Nat}{i k c x y z t:Nat}(h:Ey a b i k o c)(ha:Low a)(hb:Low b)(hk:k<b.length)(hi:i<a.length)
 (hx:x=a.getD i 0) (hy:y=b.getD k 0) (hz:z=o.getD (i+k) 0) (ht:t=z+x*y+c) :
 Ey a b i (k+1) (o.set (i+k) (t%1000000000)) (t/1000000000):=by
 have h1:=ha.getD i;have h2:=hb.getD k;have h3:=h.low.getD (i+k);have h4:=h.carry;rw[<-hx]at h1;rw[<-hy]at h2;rw[<-hz]at h3;have hxy:x*y<=999999999*999999999:=A3j oV oV;refine⟨by simp[h.len],h.low.set _ (A2s _ oV),oV,?_,fun j hj=>?_⟩
 ·have hv:=Adc o (i+k) (t%1000000000) (by have:=h.len;omega);rw[<-hz]at hv;have hs:=h.sum;rw[<-hx]at hs;have hr:val (a.take i)*val b+1000000000^i*(x*val (b.take (k+1)))=val o+1000000000^(i+k)*c+1000000000^i*(x*(1000000000^k*y)):=by
   rw[hs,B3,<-hy,A2a x,A2a (1000000000^i),A28]
  rw[<-hx,hr];rw[show i+(k+1)=i+k+1 by omega,A16];have hc:=Gy (1000000000^(i+k)) t;have e:1000000000^i*(x*(1000000000^k*y))=1000000000^(i+k)*(x*y):=by
   rw[A5f,A1x];congr 1;rw[<-A1x,A10 x,A1x]
  rw[e];generalize 1000000000^(i+k)=p at *
  have e2:p*t=p*z+p*(x*y)+p*c:=by rw[ht,A2a,A2a]
  omega
 ·rw[Ev _ _ oV];exact h.high j hj
theorem Ey.next (h:Ey a b i b.length o c)(hi:i<a.length) :
 o.getD (i+b.length) 0=0/\Ey a b (i+1) 0 (o.set (i+b.length) c) 0:=by
 have h0:=h.high (i+b.length) (A0w _);refine⟨h0,by simp[h.len],h.low.set _ h.carry,oV,?_,fun j hj=>?_⟩
 ·have hv:=Adc o (i+b.length) c (by have:=h.len;omega);rw[h0]at hv;have hs:=h.sum;rw[A03 (A0w _)]at hs;rw[B3,A1o];have e:1000000000^i*a.getD i 0*val b=1000000000^i*(a.getD i 0*val b):=A1x _ _ _;rw[e,<-hs];rw[A3n,A3f]at hv;rw[List.take_zero,val,A3n,A3n,A3n,A3f,A3f];exact hv
 ·rw[Ev _ _ oV];exact h.high j oV
theorem Ey.done (h:Ey a b a.length 0 o 0):val o=val a*val b:=by
 have hs:=h.sum;rw[A03 (A0w _)]at hs;simpa[val] using hs
structure G7 (a:List Nat)(d k:Nat)(o:List Nat)(r:Nat):Prop where
 len:o.length=a.length
 low:Low o
 rest:r<d
 sum:val (a.drop k)=d*val (o.drop k)+r
theorem G7.start (a:List Nat)(d:Nat)(hd:0<d):G7 a d a.length (A0x a.length 0) 0 :=
 ⟨mV,Low.zeros _,hd,by simp[val]⟩
theorem G7.step (h:G7 a d (k+1) o r)(ha:Low a)(hk:k<a.length)(hx:x=a.getD k 0) :
 G7 a d k (o.set k ((r*1000000000+x)/d)) ((r*1000000000+x)%d):=by
 have hd:0<d:=A2q (A1m _) h.rest;have h1:=ha.getD k;rw[<-hx]at h1;have hq:(r*1000000000+x)/d<1000000000:=by
  rw[A2w hd];have:(r+1)*1000000000<=d*1000000000:=A12 _ h.rest;rw[A10 1000000000 d];omega
 refine⟨by simp[h.len],h.low.set _ hq,A2s _ hd,?_⟩;have e1:=Aqh a k hk;have e2:=Aqh (o.set k ((r*1000000000+x)/d)) k (by simp[h.len,hk]);rw[e1,e2,A6r oV];simp only[val,<-hx];have e3:(o.set k ((r*1000000000+x)/d)).getD k 0=(r*1000000000+x)/d:=by
  simp[A0o,h.len,hk]
 rw[e3];have hs:=h.sum;have hdm:=A26 (r*1000000000+x) d;generalize (r*1000000000+x)/d=q at *
 generalize (r*1000000000+x)%d=s at *
 rw[hs,A2a,A2a,show d*(1000000000*val (Bb4 (k+1) o))=1000000000*(d*val (Bb4 (k+1) o)) by rw[<-A1x,A10 d,A1x]];omega
theorem G7.done (h:G7 a d 0 o r):val o=val a/d/\r=val a%d:=by
 have hs:=h.sum;simp only[A41]at hs;have hd:0<d:=A2q (A1m _) h.rest;rw[hs];constructor
 ·rw[Nat.mul_add_div hd,A4a h.rest];rfl
 ·rw[Nat.mul_add_mod,A5d h.rest]
end
section
def Tj (w:World)(n:Nat)(e:Ending)(w':World):Prop:=∃ v,e=.returned v/\Ci w' v n/\Ext w w'
theorem Tryz.info266:(prog.info? 266).map (fun i=>(i.zero,i.size,i.bytes))=some (some (.int .u64 0),1,8):=kV
theorem Jf (n:Nat):(madeCells (A15 .u64 0).cells (n*1)).toList=E2 (A0x n 0):=by
 rw[A5y];exact (toList_madeCells_one _ _).trans (Ab2 n)
theorem C3 {w:World}{a:Option Addr}{l:List Nat}{cap n:Nat}(hl:Low l)(hr:Row w a (E2 l))(hn:val l=n)(hc:l.length<=cap) :
 Ci w (.slice a (Bj l l.length) cap) n:=by
 have h:=Hl hl;rw[hn]at h;have hle:=I9 l l.length;have hlen:(Aa n).length=Bj l l.length:=by rw[h,A00,A32 hle]
 refine⟨a,cap,by rw[hlen],oV,?_⟩;rw[h,<-U1];exact hr.take _
def Anl (w:World)(l m:List Nat)(n:Nat)(c i:Value)(wr:World):Prop :=
 ∃ (k:Nat) (ys:List Nat) (cc:Nat),k<=n/\i=.int .i64 k/\c=.int .u64 (cc:Int)/\I2 l m k ys cc /\
  wr.ownsRow w.heap.size 266 1 (.slice (some ⟨w.heap.size,0,none⟩) n n) n (E2 (ys++A0x (n-k) 0))/\Ext w wr
theorem Vt {w wr:World}{e:TypeId}{n k:Nat}{ys:List Nat}{d:Nat}(hk:k<n)(hl:ys.length=k)
 (h:wr.ownsRow w.heap.size e 1 (.slice (some ⟨w.heap.size,0,none⟩) n n) n (E2 (ys++A0x (n-k) 0))) (x:Ext w wr) :
 (wr.setCell ⟨w.heap.size,k,none⟩ (.int .u64 (d:Int))).ownsRow w.heap.size e 1 (.slice (some ⟨w.heap.size,0,none⟩) n n) n (E2 ((ys++[d])++A0x (n-(k+1)) 0)) /\
  Ext w (wr.setCell ⟨w.heap.size,k,none⟩ (.int .u64 (d:Int))):=by
 obtain⟨h1,h2⟩:=h.stored k (.int .u64 (d:Int));refine⟨?_,x.setCell (A0w _) _⟩;rw[Ss]at h1;have e:(ys++A0x (n-k) 0).set k d=(ys++[d])++A0x (n-(k+1)) 0:=by
  rw[List.set_append_right _ _ oV,hl,A45];obtain⟨r,hr⟩:∃ r,n-k=r+1:=⟨n-k-1,oV⟩;rw[hr,show n-(k+1)=r by omega,List.replicate_succ,List.set_cons_zero,List.append_assoc];rfl
 rw[e]at h1;exact h1
set_option maxRecDepth 100000 in
theorem Aj0 (a b:Option Addr)(ca cb:Nat)(l m:List Nat)(w:World)(ha:Row w a (E2 l))(hb:Row w b (E2 m))(la:Low l)(lb:Low m)
 (sa:l.length<=10000000000000) (sb:m.length<=10000000000000) :
 Calls prog 222 #[.slice a l.length ca,.slice b m.length cb] w (Tj w (val l+val m)):=by
 obtain⟨i0,hi,hz0,hz1,hz2⟩:=info_parts Tryz.info266;have HI:=A0r hi;have HZ0:=A0r hz0;have HZ1:=A0r hz1;have HZ2:=A0r hz2;clear hi hz0 hz1 hz2;have HA:=A0r ha;have HB:=A0r hb;have LA:=A0r la;have LB:=A0r lb;clear ha hb la lb;obtain⟨n,hn⟩:∃ n,n=max l.length m.length+1:=⟨_,rfl⟩;have HN:=A0r hn;have hn1:n<=10000000000001:=oV
 clear hn;rcases A11 l.length m.length with hlm|hlm;all_goals
  go_enter func222,ntmps222
  go_wp2_with (at_make;refine wpList_make_full _ rfl _ _ 112 rfl w.heap.size 266 i0 (.int .u64 0) 1 Tryz.underlying112 HI.out HZ0.out HZ1.out .i64 .i64 _ _ n rfl rfl (by have:=HN.out;omega) (by have:=HN.out;omega) (by rw[HZ2.out];omega) (by unfold maxLen;omega) (A0w _) ?_;intro w1 hown hgrow)
  rw[Jf]at hown;have HO:=A0r hown;have X1:Hid (Ext w w1):=(Ext.refl w).grown hgrow (fun k hk=>by cases hk);clear hown hgrow
  go_loopw [6,18] (Anl w l m n) (fun _ i _=>n-(intOf i).toNat)
  case atStart=>exact⟨0,[],0,A1m _,rfl,rfl,I2.start _ _,by simpa using HO.out,X1.out⟩
  case round =>
   obtain⟨k,ys,cc,hk,rfl,rfl,hst,hown,hx⟩:=hrel;have HS:=A0r hst;have HW:=A0r hown;have HX:=A0r hx;have hc1:=hst.carry;clear hst hown hx HO X1;by_cases hlt:k<n
   ·obtain⟨x,hx⟩:∃ x,x=l.getD k 0:=⟨_,rfl⟩;obtain⟨y,hy⟩:∃ y,y=m.getD k 0:=⟨_,rfl⟩;have hx1:x<1000000000:=by rw[hx];exact LA.out.getD k
    have hy1:y<1000000000:=by rw[hy];exact LB.out.getD k
    have XX:=A0r hx;have YY:=A0r hy;clear hx hy;have hf:=HW.out.frozenAt k;have hce:∃ u,wr.cell? ⟨w.heap.size,k,none⟩=some u:=by
     obtain⟨b,off,h1,h2⟩:=Row.of_owns HW.out k (by simp[HS.out.len];omega);simp only[A0t,Addr.mk.injEq,and_true]at h1;obtain⟨rfl,rfl⟩:=h1;rw[A2b]at h2;exact⟨_,h2⟩
    obtain⟨u,hce⟩:=hce
    go_wp2_with fail
    refine (Tk _ _ _ _ _ oV oV (HA.out.ext HX.out)).mono ?_;rw[A22,<-XX.out];rintro e w' ⟨rfl,rfl⟩
    go_wp2_with fail
    refine (Tk _ _ _ _ _ oV oV (HB.out.ext HX.out)).mono ?_;rw[A22,<-YY.out];rintro e w' ⟨rfl,rfl⟩
    go_wp2
    rw[show ((x:Int)+y+cc)%1000000000=(((x+y+cc)%1000000000:Nat):Int) by omega,show ((x:Int)+y+cc)/1000000000=(((x+y+cc)/1000000000:Nat):Int) by omega];have hs:=HS.out.step LA.out LB.out XX.out YY.out;have hfill:=Vt (d:=(x+y+cc)%1000000000) hlt HS.out.len HW.out HX.out;exact⟨⟨k+1,_,_,oV,by go_num,rfl,hs,hfill.1,hfill.2⟩,by simp only[intOf];omega⟩
   ·obtain rfl:k=n:=oV
    have hlen:=HS.out.len;have hown:=HW.out;rw[A45,A5c,A1i]at hown;have hrow:=A0r (Row.of_owns hown);have hnat:=A0r (C3 (cap:=k) (n:=val l+val m) HS.out.low hrow.out (by have h:=HS.out;rw[HN.out]at h;exact h.done LA.out LB.out) oV);have HL:=A0r hlen;clear hown hlen
    go_wp2_with fail
    ((with_reducible refine (Fk _ _ _ ys _ HL.out oV oV hrow.out).mono ?_);rintro e w' ⟨rfl,rfl⟩)
    go_wp2
    go_ret
    exact⟨_,rfl,hnat.out,HX.out⟩
theorem Acx (va vb:Value)(m n:Nat)(w:World)(ha:Ci w va m)(hb:Ci w vb n)(sa:nl m<=10000000000000)(sb:nl n<=10000000000000) :
 Calls prog 222 #[va,vb] w (Tj w (m+n)):=by
 obtain⟨a,ca,rfl,_,ra⟩:=ha;obtain⟨b,cb,rfl,_,rb⟩:=hb;have:=Aj0 a b ca cb (Aa m) (Aa n) w ra rb (Am _) (Am _) sa sb;rw[Aj,Aj]at this;exact this
end
section
variable {n:Int}{v:Value}{w:World}
theorem Ext.drewN {a w:World}(h:Ext a w)(n:Nat):Ext a (w.drewN n):=by
 obtain⟨h1,h2,h3,h4,h5⟩:=h;exact⟨h1,h2,h3,h4,h5⟩
theorem Row.drewN {w:World}{a:Option Addr}{cs:List Value}(h:Row w a cs)(n:Nat):Row (w.drewN n) a cs:=h.ext ((Ext.refl w).drewN n)
theorem Mm {base:Nat}{e:TypeId}{size:Nat}{n:Nat}{xs:List Value}(h:w.ownsRow base e size v n xs)(k:Nat):(w.drewN k).ownsRow base e size v n xs:=h
def Aob (w:World)(l m:List Nat)(n:Nat)(c i:Value)(wr:World):Prop :=
 ∃ (k:Nat) (ys:List Nat) (cc:Nat),k<=n/\i=.int .i64 k/\c=.int .u64 (cc:Int)/\It l m k ys cc /\
  wr.ownsRow w.heap.size 266 1 (.slice (some ⟨w.heap.size,0,none⟩) n n) n (E2 (ys++A0x (n-k) 0))/\Ext w wr
set_option maxRecDepth 100000 in
theorem Aib (a b:Option Addr)(ca cb:Nat)(l m:List Nat)(w:World)(ha:Row w a (E2 l))(hb:Row w b (E2 m))(la:Low l)(lb:Low m)
 (sa:l.length<=10000000000000) (sb:m.length<=l.length) (hle:val m<=val l) :
 Calls prog 224 #[.slice a l.length ca,.slice b m.length cb] w (Tj w (val l-val m)):=by
 obtain⟨i0,hi,hz0,hz1,hz2⟩:=info_parts Tryz.info266;have HI:=A0r hi;have HZ0:=A0r hz0;have HZ1:=A0r hz1;have HZ2:=A0r hz2;clear hi hz0 hz1 hz2;have HA:=A0r ha;have HB:=A0r hb;have LA:=A0r la;have LB:=A0r lb;have LE:=A0r hle;clear ha hb la lb hle;obtain⟨n,hn⟩:∃ n,n=l.length:=⟨_,rfl⟩;have HN:=A0r hn;have hn1:n<=10000000000001:=oV
 clear hn
 go_enter func224,ntmps224
 go_wp2_with (at_make;refine wpList_make_full _ rfl _ _ 112 rfl w.heap.size 266 i0 (.int .u64 0) 1 Tryz.underlying112 HI.out HZ0.out HZ1.out .i64 .i64 _ _ n rfl rfl (by have:=HN.out;omega) (by have:=HN.out;omega) (by rw[HZ2.out];omega) (by unfold maxLen;omega) (A0w _) ?_;intro w1 hown hgrow)
 rw[Jf]at hown;have HO:=A0r hown;have X1:Hid (Ext w w1):=(Ext.refl w).grown hgrow (fun k hk=>by cases hk);clear hown hgrow
 go_loopw [6,14] (Aob w l m n) (fun _ i _=>n-(intOf i).toNat)
 case atStart=>exact⟨0,[],0,A1m _,rfl,rfl,It.start _ _,by simpa using HO.out,X1.out⟩
 case round =>
  obtain⟨k,ys,cc,hk,rfl,rfl,hst,hown,hx⟩:=hrel;have HS:=A0r hst;have HW:=A0r hown;have HX:=A0r hx;have hc1:=hst.carry;clear hst hown hx HO X1;by_cases hlt:k<l.length
  ·have hkn:k<n:=by rw[HN.out];exact hlt
   obtain⟨x,hx⟩:∃ x,x=l.getD k 0:=⟨_,rfl⟩;obtain⟨y,hy⟩:∃ y,y=m.getD k 0:=⟨_,rfl⟩;have hx1:x<1000000000:=by rw[hx];exact LA.out.getD k
   have hy1:y<1000000000:=by rw[hy];exact LB.out.getD k
   obtain⟨ba,offa,rfl,hca⟩:=(HA.out.ext HX.out).at hlt;rw[<-hx]at hca;have hat:∀ q,Calls prog 267 #[.slice b m.length cb,.int .i64 k] (wr.drewN q) fun e w'=>e=.returned (.int .u64 (y:Int))/\w'=wr.drewN q:=fun q=>by
    have:=Tk b cb m k (wr.drewN q) oV oV ((HB.out.ext HX.out).drewN q);rw[A22,<-hy]at this;exact this.mono fun _ _ h=>⟨h.1,h.2.symm⟩
   have HAT:=A0r hat;have XX:=A0r hx;have YY:=A0r hy;clear hx hy hat;have hf:=HW.out.frozenAt k;have hce:∃ u,wr.cell? ⟨w.heap.size,k,none⟩=some u:=by
    obtain⟨b,off,h1,h2⟩:=Row.of_owns HW.out k (by simp[HS.out.len];omega);simp only[A0t,Addr.mk.injEq,and_true]at h1;obtain⟨rfl,rfl⟩:=h1;rw[A2b]at h2;exact⟨_,h2⟩
   obtain⟨u,hce⟩:=hce
   go_wp2_with fail
   go_quiet ((go_at_call 267;exact Calls.quiet_of_same (HAT.out _)))
   go_wp2
   rw[show ((x:Int)+1000000000-y-cc)%1000000000=(((x+1000000000-y-cc)%1000000000:Nat):Int) by omega,show 1-((x:Int)+1000000000-y-cc)/1000000000=((1-(x+1000000000-y-cc)/1000000000:Nat):Int) by omega];have hs:=HS.out.step LA.out LB.out XX.out YY.out;have hfill:=Vt (d:=(x+1000000000-y-cc)%1000000000) hkn HS.out.len (Mm HW.out nq) (HX.out.drewN nq);exact⟨⟨k+1,_,_,oV,by go_num,rfl,hs,hfill.1,hfill.2⟩,by simp only[intOf];omega⟩
  ·obtain rfl:k=n:=by have:=HN.out;omega
   have hlen:=HS.out.len;have hown:=HW.out;rw[A45,A5c,A1i]at hown;have hrow:=A0r (Row.of_owns hown);have hnat:=A0r (C3 (cap:=k) (n:=val l-val m) HS.out.low hrow.out (by have h:=HS.out;rw[HN.out]at h;exact h.done sb LE.out) oV);have HL:=A0r hlen;clear hown hlen
   go_wp2_with fail
   ((with_reducible refine (Fk _ _ _ ys _ HL.out oV oV hrow.out).mono ?_);rintro e w' ⟨rfl,rfl⟩)
   go_wp2
   go_ret
   exact⟨_,rfl,hnat.out,HX.out⟩
theorem Acl (va vb:Value)(m n:Nat)(w:World)(ha:Ci w va m)(hb:Ci w vb n)(sa:nl m<=10000000000000)(hle:n<=m) :
 Calls prog 224 #[va,vb] w (Tj w (m-n)):=by
 obtain⟨a,ca,rfl,_,ra⟩:=ha;obtain⟨b,cb,rfl,_,rb⟩:=hb;have:=Aib a b ca cb (Aa m) (Aa n) w ra rb (Am _) (Am _) sa (C6 hle) (by rw[Aj,Aj];exact hle);rw[Aj,Aj]at this;exact this
def Aou (w:World)(l m:List Nat)(i:Value)(wr:World):Prop :=
 ∃ k:Nat,k<=l.length/\i=.int .i64 ((k:Int)-1)/\l.drop k=m.drop k/\∃ q,wr=w.drewN q
theorem B9 (h:0<n):sgn n=1:=by unfold sgn;rw[if_neg oV,if_pos h]
theorem C0 (h:n<0):sgn n = -1:=by unfold sgn;rw[if_pos h]
theorem Ny:sgn 0=0:=by simp[sgn]
def Np (w:World)(v:Value)(e:Ending)(w':World):Prop:=e=.returned v/\∃ q,w'=w.drewN q
theorem Np.ext {e:Ending}{w':World}(h:Np w v e w'):e=.returned v/\Ext w w':=by
 obtain⟨h1,q,rfl⟩:=h;exact⟨h1,(Ext.refl w).drewN q⟩
set_option maxRecDepth 100000 in
theorem Wz (a b:Option Addr)(ca cb:Nat)(l m:List Nat)(w:World)(ha:Row w a (E2 l))(hb:Row w b (E2 m))(la:Low l)(lb:Low m)
 (sa:l.length<=10000000000000) (sb:m.length=l.length) :
 Calls prog 223 #[.slice a l.length ca,.slice b l.length cb] w (Np w (.int .i64 (sgn ((val l:Int)-val m)))):=by
 have HA:=A0r ha;have HB:=A0r hb;have LA:=A0r la;have LB:=A0r lb;have SB:=A0r sb;clear ha hb la lb sb
 go_enter func223,ntmps223
 go_wp2_with fail
 go_loopw [5] (Aou w l m) (fun i _=>(intOf i+1).toNat)
 case atStart=>exact⟨l.length,oV,rfl,by rw[A1u (A0w _),A1u (by rw[SB.out];exact A0w _)],0,rfl⟩
 case round =>
  obtain⟨k,hk,rfl,hd,q,rfl⟩:=hrel;have HD:=A0r hd;clear hd;rcases k with _|k
  ·go_wp2_with fail
   have h0:(val l:Int)-val m=0:=by have:=HD.out;simp only[A41]at this;rw[this];omega
   go_ret
   refine⟨?_,q,rfl⟩;rw[h0,Ny];rfl
  ·rw[show ((k+1:Nat):Int)-1=k by omega];have hkl:k<l.length:=oV
   obtain⟨ba,offa,rfl,hca⟩:=HA.out.at hkl;obtain⟨bb,offb,rfl,hcb⟩:=HB.out.at (j:=k) (by rw[SB.out];exact hkl);obtain⟨x,hx⟩:∃ x,x=l.getD k 0:=⟨_,rfl⟩;obtain⟨y,hy⟩:∃ y,y=m.getD k 0:=⟨_,rfl⟩;rw[<-hx]at hca;rw[<-hy]at hcb;have XX:=A0r hx;have YY:=A0r hy;clear hx hy;rcases A5t x y with hlt|heq|hgt
   ·go_wp2_with fail
    go_quiet (fail)
    go_wp2_with fail
    have h0:(val l:Int)-val m<0:=by
     have:=Fq SB.out.symm hkl LA.out HD.out (by rw[<-XX.out,<-YY.out];exact hlt);omega
    go_ret
    refine⟨?_,_,A7e _ _ _⟩;rw[C0 h0];rfl
   ·subst heq
    go_wp2_with fail
    go_quiet (fail)
    go_wp2_with fail
    go_quiet (fail)
    go_wp2_with fail
    refine⟨⟨k,oV,by go_num,?_,_,rfl⟩,by simp only[intOf];omega⟩;rw[Aqh l k hkl,Aqh m k (by rw[SB.out];exact hkl),HD.out,<-XX.out,<-YY.out]
   ·have hnlt:¬ x<y:=oV
    go_wp2_with fail
    go_quiet (fail)
    go_wp2_with fail
    go_quiet (fail)
    go_wp2_with fail
    have h0:0<(val l:Int)-val m:=by
     have:=Fq SB.out (by rw[SB.out];exact hkl) LB.out HD.out.symm (by rw[<-XX.out,<-YY.out];exact hgt);omega
    go_ret
    refine⟨?_,_,by rw[A7e,A7e]⟩;rw[B9 h0];rfl
set_option maxRecDepth 100000 in
theorem Aa1 (a b:Option Addr)(ca cb m n:Nat)(w:World)(sa:m<=10000000000000)(sb:n<=10000000000000)(hne:m≠n) :
 Calls prog 223 #[.slice a m ca,.slice b n cb] w (Np w (.int .i64 (sgn ((m:Int)-n)))):=by
 have h1:((m:Int) != n)=true:=by rw[bne_iff_ne];omega
 clear hne
 go_enter func223,ntmps223
 go_wp2_with fail
 refine (Aha _ _).mono ?_;rintro e w' ⟨rfl,rfl⟩
 go_wp2_with fail
 go_ret
 exact⟨rfl,0,rfl⟩
theorem Af0 {a b c d:Nat}(h1:a<b↔c<d)(h2:b<a↔d<c):sgn ((a:Int)-b)=sgn ((c:Int)-d):=by
 rcases A5t a b with h|h|h
 ·have:=h1.1 h;rw[C0 oV,C0 oV]
 ·have h3:¬ c<d:=fun h'=>by have:=h1.2 h';omega
  have h4:¬ d<c:=fun h'=>by have:=h2.2 h';omega
  rw[show (a:Int)-b=0 by omega,show (c:Int)-d=0 by omega]
 ·have:=h2.1 h;rw[B9 oV,B9 oV]
theorem Fa (va vb:Value)(m n:Nat)(w:World)(ha:Ci w va m)(hb:Ci w vb n)(sa:nl m<=10000000000000)(sb:nl n<=10000000000000) :
 Calls prog 223 #[va,vb] w (Np w (.int .i64 (sgn ((m:Int)-n)))):=by
 obtain⟨a,ca,rfl,_,ra⟩:=ha;obtain⟨b,cb,rfl,_,rb⟩:=hb;by_cases h:(Aa n).length=(Aa m).length
 ·have:=Wz a b ca cb (Aa m) (Aa n) w ra rb (Am _) (Am _) sa h;rw[Aj,Aj]at this;rw[h];exact this
 ·have:=Aa1 a b ca cb (Aa m).length (Aa n).length w sa sb (fun e=>h e.symm);rw[Af0 (a:=(Aa m).length) (b:=(Aa n).length) (c:=m) (d:=n)]at this
  ·exact this
  ·constructor
   ·exact fun h'=>Il h'
   ·intro h';have:=C6 (A62 h');unfold nl at this;omega
  ·constructor
   ·exact fun h'=>Il h'
   ·intro h';have:=C6 (A62 h');unfold nl at this;omega
end
section
variable {e:TypeId}{n:Nat}{o:List Nat}{w wr:World}
def Ao0 (w:World)(l m:List Nat)(n:Nat)(i:Value)(wr:World):Prop :=
 ∃ (k:Nat) (o:List Nat),k<=l.length/\i=.int .i64 k/\Ey l m k 0 o 0 /\
  wr.ownsRow w.heap.size 266 1 (.slice (some ⟨w.heap.size,0,none⟩) n n) n (E2 o)/\Ext w wr
def Akq (w:World)(l m:List Nat)(n j:Nat)(c i:Value)(wr:World):Prop :=
 ∃ (k:Nat) (o:List Nat) (cc:Nat),k<=m.length/\i=.int .i64 k/\c=.int .u64 (cc:Int)/\Ey l m j k o cc /\
  wr.ownsRow w.heap.size 266 1 (.slice (some ⟨w.heap.size,0,none⟩) n n) n (E2 o)/\Ext w wr
theorem Mv {n j:Nat}(h:wr.ownsRow w.heap.size e 1 (.slice (some ⟨w.heap.size,0,none⟩) n n) n (E2 o))(hj:j<o.length) :
 wr.cell? ⟨w.heap.size,j,none⟩=some (.int .u64 (o.getD j 0:Nat)):=by
 obtain⟨b,off,h1,h2⟩:=(Row.of_owns h).at hj;simp only[A0t,Addr.mk.injEq,and_true]at h1;obtain⟨rfl,rfl⟩:=h1;rw[A2b]at h2;exact h2
theorem Pg (j d:Nat)(h:wr.ownsRow w.heap.size e 1 (.slice (some ⟨w.heap.size,0,none⟩) n n) n (E2 o))(x:Ext w wr) :
 (wr.setCell ⟨w.heap.size,j,none⟩ (.int .u64 (d:Int))).ownsRow w.heap.size e 1 (.slice (some ⟨w.heap.size,0,none⟩) n n) n (E2 (o.set j d)) /\
  Ext w (wr.setCell ⟨w.heap.size,j,none⟩ (.int .u64 (d:Int))):=by
 refine⟨?_,x.setCell (A0w _) _⟩;have:=(h.stored j (.int .u64 (d:Int))).1;rw[Ss]at this;exact this
def Yk (w:World)(n:Nat)(e:Ending)(w':World):Prop:=∃ k cap,e=.returned (.slice (some ⟨w.heap.size,0,none⟩) k cap)/\Ci w' (.slice (some ⟨w.heap.size,0,none⟩) k cap) n/\Ext w w'
set_option maxRecDepth 100000 in
theorem Ahd (a b:Option Addr)(ca cb:Nat)(l m:List Nat)(w:World)(ha:Row w a (E2 l))(hb:Row w b (E2 m))(la:Low l)(lb:Low m)
 (sa:l.length<=10000000000000) (sb:m.length<=10000000000000) :
 Calls prog 198 #[.slice a l.length ca,.slice b m.length cb] w (Yk w (val l*val m)):=by
 obtain⟨i0,hi,hz0,hz1,hz2⟩:=info_parts Tryz.info266;have HI:=A0r hi;have HZ0:=A0r hz0;have HZ1:=A0r hz1;have HZ2:=A0r hz2;clear hi hz0 hz1 hz2;have HA:=A0r ha;have HB:=A0r hb;have LA:=A0r la;have LB:=A0r lb;clear ha hb la lb;obtain⟨n,hn⟩:∃ n,n=l.length+m.length:=⟨_,rfl⟩;have HN:=A0r hn;have hn1:n<=20000000000001:=oV
 have hn2:l.length+m.length<=n:=oV
 clear hn
 go_enter func198,ntmps198
 go_wp2_with (at_make;refine wpList_make_full _ rfl _ _ 112 rfl w.heap.size 266 i0 (.int .u64 0) 1 Tryz.underlying112 HI.out HZ0.out HZ1.out .i64 .i64 _ _ n rfl rfl (by have:=HN.out;omega) (by have:=HN.out;omega) (by rw[HZ2.out];omega) (by unfold maxLen;omega) (A0w _) ?_;intro w1 hown hgrow)
 rw[Jf]at hown;have HO:=A0r hown;have X1:Hid (Ext w w1):=(Ext.refl w).grown hgrow (fun k hk=>by cases hk);clear hown hgrow
 go_loopw [20] (Ao0 w l m n) (fun i _=>l.length-(intOf i).toNat)
 case atStart=>exact⟨0,_,A1m _,rfl,Ey.start _ _,by rw[<-HN.out];exact HO.out,X1.out⟩
 case round =>
  obtain⟨j,o,hk,rfl,hst,hown,hx⟩:=hrel;have HS:=A0r hst;have HW:=A0r hown;have HX:=A0r hx;clear hst hown hx HO X1;by_cases hlt:j<l.length
  ·obtain⟨x,hx⟩:∃ x,x=l.getD j 0:=⟨_,rfl⟩;have hx1:x<1000000000:=by rw[hx];exact LA.out.getD j
   obtain⟨ba,offa,rfl,hca⟩:=(HA.out.ext HX.out).at hlt;rw[<-hx]at hca;have XX:=A0r hx;clear hx
   go_wp2_with fail
   obtain⟨wo,hwo⟩:∃ wo:World,wo=wr:=⟨_,rfl⟩;subst hwo
   go_loopw [8,27] (Akq w l m n j) (fun _ i _=>m.length-(intOf i).toNat)
   case atStart=>exact⟨0,_,0,A1m _,rfl,rfl,HS.out,HW.out,HX.out⟩
   case round =>
    obtain⟨k,o2,cc,hk2,rfl,rfl,hst2,hown2,hx2⟩:=hrel;have HS2:=A0r hst2;have HW2:=A0r hown2;have HX2:=A0r hx2;have hcc:=hst2.carry;have hl2:=hst2.len;have hlow2:=A0r hst2.low;have hlo2:n<=o2.length:=by have:=HN.out;omega
    clear hst2 hown2 hx2 HS HW HX hca hl2;by_cases hlt2:k<m.length
    ·obtain⟨y,hy⟩:∃ y,y=m.getD k 0:=⟨_,rfl⟩;have hy1:y<1000000000:=by rw[hy];exact LB.out.getD k
     obtain⟨bb,offb,rfl,hcb⟩:=(HB.out.ext HX2.out).at hlt2;rw[<-hy]at hcb;obtain⟨z,hz⟩:∃ z,z=o2.getD (j+k) 0:=⟨_,rfl⟩;have hz1:z<1000000000:=by rw[hz];exact hlow2.out.getD _
     have hcz:=Mv HW2.out (j:=j+k) oV;have hfz:=HW2.out.frozenAt (j+k);rw[<-hz]at hcz;have YY:=A0r hy;have ZZ:=A0r hz;clear hy hz;obtain⟨p,hp⟩:∃ p,p=x*y:=⟨_,rfl⟩;have hp1:p<=999999999*999999999:=by rw[hp];exact A3j oV oV
     have hp2:((x:Int)*y)=p:=by rw[hp];exact (A4j _ _).symm
     have PP:=A0r hp;clear hp
     go_wp2_with fail
     rw[show ((z:Int)+p+cc)%1000000000=(((z+x*y+cc)%1000000000:Nat):Int) by rw[<-PP.out];omega,show ((z:Int)+p+cc)/1000000000=(((z+x*y+cc)/1000000000:Nat):Int) by rw[<-PP.out];omega];have hs:=HS2.out.step LA.out LB.out hlt2 hlt XX.out YY.out ZZ.out rfl;have hset:=Pg (j+k) ((z+x*y+cc)%1000000000) HW2.out HX2.out;exact⟨⟨k+1,_,_,oV,by go_num,rfl,hs,hset.1,hset.2⟩,by simp only[intOf];omega⟩
    ·obtain rfl:k=m.length:=oV
     obtain⟨h0,hnext⟩:=HS2.out.next hlt;have hcz:=Mv HW2.out (j:=j+m.length) oV;rw[h0]at hcz;have hfz:=HW2.out.frozenAt (j+m.length);have HNX:=A0r hnext;clear h0 hnext
     go_wp2_with fail
     have hset:=Pg (j+m.length) cc HW2.out HX2.out;exact⟨⟨j+1,_,oV,by go_num,HNX.out,hset.1,hset.2⟩,by simp only[intOf];omega⟩
  ·obtain rfl:j=l.length:=oV
   have hlen:=HS.out.len;have hrow:=A0r (Row.of_owns HW.out);have hnat:=A0r (C3 (cap:=n) (n:=val l*val m) HS.out.low hrow.out HS.out.done oV);have HL:Hid (o.length=n):=by rw[hlen];exact HN.out.symm
   clear hlen
   go_wp2_with fail
   ((with_reducible refine (Fk _ _ _ o _ HL.out oV oV hrow.out).mono ?_);rintro e w' ⟨rfl,rfl⟩)
   go_wp2_with fail
   go_ret
   exact⟨_,_,rfl,hnat.out,HX.out⟩
theorem O6 (va vb:Value)(m n:Nat)(w:World)(ha:Ci w va m)(hb:Ci w vb n)(sa:nl m<=10000000000000)(sb:nl n<=10000000000000) :
 Calls prog 198 #[va,vb] w (Yk w (m*n)):=by
 obtain⟨a,ca,rfl,_,ra⟩:=ha;obtain⟨b,cb,rfl,_,rb⟩:=hb;have:=Ahd a b ca cb (Aa m) (Aa n) w ra rb (Am _) (Am _) sa sb;rw[Aj,Aj]at this;exact this
theorem Aa5 (va vb:Value)(m n:Nat)(w:World)(ha:Ci w va m)(hb:Ci w vb n)(sa:nl m<=10000000000000)(sb:nl n<=10000000000000) :
 Calls prog 198 #[va,vb] w (Tj w (m*n)) :=
 (O6 va vb m n w ha hb sa sb).mono fun _ _ ⟨k,cap,h1,h2,h3⟩=>⟨_,h1,h2,h3⟩
def Ahk (w:World)(l:List Nat)(d n:Nat)(r i:Value)(wr:World):Prop :=
 ∃ (k:Nat) (o:List Nat) (rr:Nat),k<=l.length/\i=.int .i64 ((k:Int)-1)/\r=.int .u64 (rr:Int)/\G7 l d k o rr /\
  wr.ownsRow w.heap.size 266 1 (.slice (some ⟨w.heap.size,0,none⟩) n n) n (E2 o)/\Ext w wr
def M3 (w:World)(n r:Nat)(e:Ending)(w':World):Prop:=∃ v,e=.returned (.tuple #[v,.int .u64 (r:Int)])/\Ci w' v n/\Ext w w'
set_option maxRecDepth 100000 in
theorem Acu (a:Option Addr)(ca d:Nat)(l:List Nat)(w:World)(ha:Row w a (E2 l))(la:Low l)
 (sa:l.length<=10000000000000) (hd0:0<d) (hd:d<1000000000) :
 Calls prog 292 #[.slice a l.length ca,.int .u64 d] w (M3 w (val l/d) (val l%d)):=by
 obtain⟨i0,hi,hz0,hz1,hz2⟩:=info_parts Tryz.info266;have HI:=A0r hi;have HZ0:=A0r hz0;have HZ1:=A0r hz1;have HZ2:=A0r hz2;clear hi hz0 hz1 hz2;have HA:=A0r ha;have LA:=A0r la;clear ha la;obtain⟨n,hn⟩:∃ n,n=l.length:=⟨_,rfl⟩;have HN:=A0r hn;have hn1:n<=10000000000001:=oV
 have hn2:l.length<=n:=oV
 clear hn
 go_enter func292,ntmps292
 go_wp2_with (at_make;refine wpList_make_full _ rfl _ _ 112 rfl w.heap.size 266 i0 (.int .u64 0) 1 Tryz.underlying112 HI.out HZ0.out HZ1.out .i64 .i64 _ _ n rfl rfl (by have:=HN.out;omega) (by have:=HN.out;omega) (by rw[HZ2.out];omega) (by unfold maxLen;omega) (A0w _) ?_;intro w1 hown hgrow)
 rw[Jf]at hown;have HO:=A0r hown;have X1:Hid (Ext w w1):=(Ext.refl w).grown hgrow (fun k hk=>by cases hk);clear hown hgrow
 go_loopw [7,8] (Ahk w l d n) (fun _ i _=>(intOf i+1).toNat)
 case atStart=>exact⟨l.length,_,0,oV,rfl,rfl,G7.start _ _ hd0,by rw[<-HN.out];exact HO.out,X1.out⟩
 case round =>
  obtain⟨k,o,rr,hk,rfl,rfl,hst,hown,hx⟩:=hrel;have HS:=A0r hst;have HW:=A0r hown;have HX:=A0r hx;have hrr:=hst.rest;have hlo:n<=o.length:=by have:=HN.out;have:=hst.len;omega
  clear hst hown hx HO X1;rcases k with _|k
  ·have hlen:=HS.out.len;have hrow:=A0r (Row.of_owns HW.out);have hnat:=A0r (C3 (cap:=n) (n:=val l/d) HS.out.low hrow.out HS.out.done.1 oV);have HL:Hid (o.length=n):=by rw[hlen];exact HN.out.symm
   clear hlen
   go_wp2_with fail
   ((with_reducible refine (Fk _ _ _ o _ HL.out oV oV hrow.out).mono ?_);rintro e w' ⟨rfl,rfl⟩)
   go_wp2_with fail
   go_ret2
   exact⟨_,by rw[HS.out.done.2];rfl,hnat.out,HX.out⟩
  ·rw[show ((k+1:Nat):Int)-1=k by omega];have hkl:k<l.length:=oV
   obtain⟨x,hx⟩:∃ x,x=l.getD k 0:=⟨_,rfl⟩;have hx1:x<1000000000:=by rw[hx];exact LA.out.getD k
   obtain⟨ba,offa,rfl,hca⟩:=(HA.out.ext HX.out).at hkl;rw[<-hx]at hca;have hce:=Mv HW.out (j:=k) oV;have hfz:=HW.out.frozenAt k;have XX:=A0r hx;clear hx;have hd2:((d:Int)==0)=false:=gV
   go_wp2_with fail
   go_region
   go_wp2_with fail
   rw[show ((rr:Int)*1000000000+x)%d=(((rr*1000000000+x)%d:Nat):Int) by simp,show ((rr:Int)*1000000000+x)/d=(((rr*1000000000+x)/d:Nat):Int) by simp];have hs:=HS.out.step LA.out hkl XX.out;have hset:=Pg k ((rr*1000000000+x)/d) HW.out HX.out;exact⟨⟨k,_,_,oV,rfl,rfl,hs,hset.1.drew,hset.2.drew⟩,by simp only[intOf];omega⟩
theorem O3 (va:Value)(m d:Nat)(w:World)(ha:Ci w va m)(sa:nl m<=10000000000000)(hd0:0<d)(hd:d<1000000000) :
 Calls prog 292 #[va,.int .u64 d] w (M3 w (m/d) (m%d)):=by
 obtain⟨a,ca,rfl,_,ra⟩:=ha;have:=Acu a ca d (Aa m) w ra (Am _) sa hd0 hd;rw[Aj]at this;exact this
end
section
variable {U V p top u2 v1 v2:Nat}
structure Vx (v1 v2 u2 top p V U:Nat):Prop where
 v:∃ v',v' < p/\V=(v1*1000000000+v2)*p+v'
 u:∃ u',u' < p/\U=(top*1000000000+u2)*p+u'
 v1pos:500000000<=v1
 v1low:v1<1000000000
 v2low:v2<1000000000
 u2low:u2<1000000000
 top1:top<=v1*1000000000+999999999
 less:U<1000000000*V
theorem Vx.pos (h:Vx v1 v2 u2 top p V U):0<V:=by
 rcases A1p V with h0|h0
 ·have:=h.less;rw[h0]at this;omega
 ·exact h0
structure Oj (v1 top V U q r:Nat):Prop where
 eq:q*v1+r=top
 ge:U/V<=q
 low:1000000000<=q->r<1000000000
 qle:q<=2000000000
theorem Oj.start (h:Vx v1 v2 u2 top p V U):Oj v1 top V U (top/v1) (top%v1):=by
 have h1:=h.v1pos;have hm:=A26 top v1;have hr:=A2s top (show 0<v1 by omega);have hv:=h.v1low;refine⟨by rw[A10];exact hm,?_,fun _=>oV,?_⟩
 ·obtain⟨v',hv',eV⟩:=h.v;obtain⟨u',hu',eU⟩:=h.u;have hpos:=h.pos;have hu2:=h.u2low;rw[A4l oV];have hq:U/V*V<=U:=Nat.div_mul_le_self U V;generalize U/V=q at *
  have hpp:0<p:=oV
  have e1:q*v1*1000000000*p<=q*V:=by
   rw[eV,A1x,A1x];refine A2i _ ?_;rw[<-A1x,A1o];omega
  have e2:U<(top*1000000000+u2+1)*p:=by rw[eU,A1o _ 1,A3d];omega
  have e3:q*v1*1000000000*p<(top*1000000000+u2+1)*p:=oV
  have e4:=A6n e3;omega
 ·rw[<-Nat.lt_succ_iff,A2w oV];have:=h.top1;omega
theorem Oj.step {v1 v2 u2 top p V U q r:Nat}(h:Vx v1 v2 u2 top p V U)(t:Oj v1 top V U q r)
 (hc:1000000000<=q\/r*1000000000+u2<q*v2):0<q/\Oj v1 top V U (q-1) (r+v1):=by
 have hpos:=h.pos;have hlt:U/V<q:=by
  rcases hc with hc|hc
  ·have:U/V<1000000000:=by rw[A2w hpos];exact h.less
   omega
  ·rw[A2w hpos];obtain⟨v',hv',eV⟩:=h.v;obtain⟨u',hu',eU⟩:=h.u;have e1:q*((v1*1000000000+v2)*p)<=q*V:=A2i _ oV;have e2:q*((v1*1000000000+v2)*p)=((q*v1)*1000000000+q*v2)*p:=by
    rw[<-A1x,A2a,<-A1x]
   have e3:(top*1000000000+u2+1)*p<=((q*v1)*1000000000+q*v2)*p:=by
    refine A12 _ ?_;have:=t.eq;omega
   have e4:(top*1000000000+u2+1)*p=(top*1000000000+u2)*p+p:=by rw[A1o _ 1,A3d]
   omega
 have hq:0<q:=A2q (A1m _) hlt;refine⟨hq,?_,Nat.le_sub_one_of_lt hlt,fun hge=>?_,by have:=t.qle;omega⟩
 ·obtain⟨k,rfl⟩:∃ k,q=k+1:=⟨q-1,oV⟩;have:=t.eq;rw[A1o,A3d]at this;simp only[A5l];omega
 ·have e:=t.eq;have ht:=h.top1;obtain⟨k,rfl⟩:∃ k,q=1000000000+1+k:=⟨q-1000000001,oV⟩;have:(1000000000+1+k)*v1=1000000000*v1+v1+k*v1:=by rw[A1o,A1o,A3d]
  have h3:0<=k*v1:=A1m _;rw[this]at e;omega
theorem Oj.done {v1 v2 u2 top p V U q r:Nat}(h:Vx v1 v2 u2 top p V U)(t:Oj v1 top V U q r)
 (hc:¬ (r<1000000000/\(1000000000<=q\/r*1000000000+u2<q*v2))):q<1000000000/\U/V<=q/\q<=U/V+1:=by
 have hq:q<1000000000:=by
  rcases A11 q 1000000000 with h1|h1
  ·exact h1
  ·exact absurd ⟨t.low h1,Or.inl h1⟩ hc
 have hcond:q*v2<=r*1000000000+u2:=by
  rcases A11 (r*1000000000+u2) (q*v2) with h1|h1
  ·rcases A11 r 1000000000 with h2|h2
   ·exact absurd ⟨h2,Or.inr h1⟩ hc
   ·have:q*v2<=999999999*999999999:=A3j oV (by have:=h.v2low;omega);omega
  ·exact h1
 refine⟨hq,t.ge,?_⟩;rcases A1p q with h0|h0
 ·rw[h0];exact A1m _
 ·obtain⟨k,rfl⟩:∃ k,q=k+1:=⟨q-1,oV⟩
  suffices k<=U/V by omega
  have hpos:=h.pos;rw[A4l hpos];obtain⟨v',hv',eV⟩:=h.v;obtain⟨u',hu',eU⟩:=h.u;have e1:(k+1)*V=(((k+1)*v1)*1000000000+(k+1)*v2)*p+(k+1)*v':=by
   rw[eV,A2a,<-A1x,A2a,<-A1x]
  have e2:(((k+1)*v1)*1000000000+(k+1)*v2)*p<=(top*1000000000+u2)*p:=by
   refine A12 _ ?_;have:=t.eq;omega
  have e3:(k+1)*v'<=1000000000*p:=A3j oV oV;have e4:1000000000*p<=V:=by
   rw[eV];have:1000000000*p<=(v1*1000000000+v2)*p:=A12 _ (by have:=h.v1pos;omega);omega
  have e5:(k+1)*V=k*V+V:=by rw[A1o,A3d]
  omega
structure Jn (full v:List Nat)(off q k:Nat)(o:List Nat)(c:Nat):Prop where
 len:o.length=full.length
 low:Low o
 carry:c<=1000000000
 sum:val ((o.drop off).take k)+q*val (v.take k)=val ((full.drop off).take k)+1000000000^k*c
 same:∀ j,j<off\/off+k<=j->o.getD j 0=full.getD j 0
theorem Ds (l:List Nat)(off k:Nat):(l.drop off).getD k 0=l.getD (off+k) 0:=by
 simp[A0o,List.getElem?_drop]
theorem Lj (l:List Nat)(j k d:Nat)(h:k<=j):(l.set j d).take k=l.take k:=by
 rw[List.take_set_of_le h]
theorem Jn.start (full v:List Nat)(off q:Nat)(h:Low full):Jn full v off q 0 full 0 :=
 ⟨rfl,h,oV,by simp[val],fun _ _=>rfl⟩
theorem Jn.step {full v o:List Nat}{off q k c x y d e:Nat}(h:Jn full v off q k o c)(hk:off+k<full.length)
 (hx:x=v.getD k 0) (hy:y=o.getD (off+k) 0) (hd:d<1000000000) (he:e<=1000000000) (hde:d+q*x+c=y+1000000000*e) :
 Jn full v off q (k+1) (o.set (off+k) d) e:=by
 refine⟨by simp[h.len],h.low.set _ hd,he,?_,fun j hj=>?_⟩
 ·rw[B3,B3,B3,Ds,Ds];have e1:((o.set (off+k) d).drop off).take k=(o.drop off).take k:=by
   rw[Bab,if_neg oV,Lj _ _ _ _ oV]
  have e2:(o.set (off+k) d).getD (off+k) 0=d:=by
   simp[A0o,h.len,hk]
  rw[e1,e2,<-hx,<-h.same (off+k) (Or.inr (A0w _)),<-hy,A16];have hs:=h.sum;generalize 1000000000^k=p at *
  have e3:p*d+p*(q*x)+p*c=p*y+p*1000000000*e:=by
   rw[A1x,<-A2a,<-A2a,<-A2a,hde]
  have e4:q*(val (Bc0 k v)+p*x)=q*val (Bc0 k v)+p*(q*x):=by
   rw[A2a];congr 1;rw[<-A1x,A10 q,A1x]
  omega
 ·rw[Ev _ _ oV];exact h.same j oV
structure Ky (full v:List Nat)(off k:Nat)(o:List Nat)(c:Nat):Prop where
 len:o.length=full.length
 low:Low o
 carry:c<=1
 sum:val ((o.drop off).take k)+1000000000^k*c=val ((full.drop off).take k)+val (v.take k)
 same:∀ j,j<off\/off+k<=j->o.getD j 0=full.getD j 0
theorem Ky.start (full v:List Nat)(off:Nat)(h:Low full):Ky full v off 0 full 0 :=
 ⟨rfl,h,oV,by simp[val],fun _ _=>rfl⟩
theorem Ky.step {full v o:List Nat}{off k c x y:Nat}(h:Ky full v off k o c)(hv:Low v)(hk:off+k<full.length)
 (hx:x=v.getD k 0) (hy:y=o.getD (off+k) 0) :
 Ky full v off (k+1) (o.set (off+k) ((y+x+c)%1000000000)) ((y+x+c)/1000000000):=by
 have h1:=hv.getD k;have h2:=h.low.getD (off+k);have h3:=h.carry;rw[<-hx]at h1;rw[<-hy]at h2;refine⟨by simp[h.len],h.low.set _ oV,oV,?_,fun j hj=>?_⟩
 ·rw[B3,B3,B3,Ds,Ds];have e1:((o.set (off+k) ((y+x+c)%1000000000)).drop off).take k=(o.drop off).take k:=by
   rw[Bab,if_neg oV,Lj _ _ _ _ oV]
  have e2:(o.set (off+k) ((y+x+c)%1000000000)).getD (off+k) 0=(y+x+c)%1000000000:=by
   simp[A0o,h.len,hk]
  rw[e1,e2,<-hx,<-h.same (off+k) (Or.inr (A0w _)),<-hy,A16,A28,Gy,A2a,A2a];have hs:=h.sum;omega
 ·rw[Ev _ _ oV];exact h.same j oV
end
section
variable {A V j m n:Nat}{qs u:List Nat}
theorem Wh (l:List Nat)(n:Nat):val (l.take (n+2))=val (l.take n)+1000000000^n*(l.getD n 0+1000000000*l.getD (n+1) 0):=by
 rw[B3,B3,A16,A2a,A1x];omega
theorem Aqu {l:List Nat}(h:Low l)(k:Nat):val (l.take k)<1000000000^k :=
 A2e (Ip (h.take k)) (A1l oV (by rw[A00];omega))
theorem Acn {full v:List Nat}{off n:Nat}(hn:v.length=n+2)(hf:Low full)(hv:Low v)(hv1:500000000<=v.getD (n+1) 0)
 (hU:val ((full.drop off).take (n+3))<1000000000*val v) :
 Vx (v.getD (n+1) 0) (v.getD n 0) (full.getD (off+n) 0) (full.getD (off+(n+2)) 0*1000000000+full.getD (off+(n+1)) 0) (1000000000^n) (val v) (val ((full.drop off).take (n+3))):=by
 have eV:val v=(v.getD (n+1) 0*1000000000+v.getD n 0)*1000000000^n+val (v.take n):=by
  have:=Wh v n;rw[<-hn,A1k]at this;rw[this,A10 (v.getD (n+1) 0*1000000000+v.getD n 0),A10 (v.getD (n+1) 0),A84 (v.getD n 0),A84]
 have eU:val ((full.drop off).take (n+3))=((full.getD (off+(n+2)) 0*1000000000+full.getD (off+(n+1)) 0)*1000000000+full.getD (off+n) 0)*1000000000^n+val ((full.drop off).take n):=by
  rw[B3,Wh,Ds,Ds,Ds,A5f,A10 _ (1000000000^n)];generalize 1000000000^n=p;rw[show (1000000000:Nat)^2=1000000000*1000000000 by rfl,A1x p,A28 (val _),<-A2a,A84 (val _)]
  congr 2
  omega
 have h1:=hv.getD (n+1);have h2:=hv.getD n;have h3:=hf.getD (off+n);have h4:=hf.getD (off+(n+1));have h5:=hf.getD (off+(n+2));have l1:=Aqu hv n;have l2:=Aqu (hf.drop off) n;refine⟨⟨_,l1,eV⟩,⟨_,l2,eU⟩,hv1,h1,h2,h3,?_,hU⟩;rw[eU,eV]at hU;generalize v.getD (n+1) 0=v1 at *
 generalize v.getD n 0=v2 at *
 generalize full.getD (off+n) 0=u2 at *
 generalize full.getD (off+(n+1)) 0=u1 at *
 generalize full.getD (off+(n+2)) 0=u0 at *
 generalize val ((full.drop off).take n)=x at *
 generalize val (v.take n)=y at *
 generalize 1000000000^n=p at *
 have:(u0*1000000000*1000000000)*p<((v1+1)*1000000000*1000000000)*p:=by
  have e1:(u0*1000000000*1000000000)*p<=((u0*1000000000+u1)*1000000000+u2)*p:=A12 _ oV;have e2:1000000000*((v1*1000000000+v2)*p+y)<=1000000000*((v1*1000000000+v2+1)*p):=by
   refine A2i _ ?_;rw[A1o _ 1,A3d];omega
  have e3:1000000000*((v1*1000000000+v2+1)*p)=(1000000000*(v1*1000000000+v2+1))*p:=by rw[A1x]
  have e4:(1000000000*(v1*1000000000+v2+1))*p<=((v1+1)*1000000000*1000000000)*p:=A12 _ oV;omega
 have:=A6n this;omega
theorem Gh (l:List Nat)(off n:Nat):val ((l.drop off).take (n+1))=val ((l.drop off).take n)+1000000000^n*l.getD (off+n) 0:=by
 rw[B3,Ds]
theorem Y1 (o:List Nat)(off n d:Nat)(h:off+n<o.length):val (((o.set (off+n) d).drop off).take (n+1))=val ((o.drop off).take n)+1000000000^n*d:=by
 rw[Gh];have e1:((o.set (off+n) d).drop off).take n=(o.drop off).take n:=by
  rw[Bab,if_neg oV,Lj _ _ _ _ oV]
 have e2:(o.set (off+n) d).getD (off+n) 0=d:=by simp[A0o,h]
 rw[e1,e2]
structure Nz (full:List Nat)(off n V:Nat)(o:List Nat):Prop where
 len:o.length=full.length
 low:Low o
 rest:val ((o.drop off).take (n+1))=val ((full.drop off).take (n+1))%V
 same:∀ j,j<off\/off+n<j->o.getD j 0=full.getD j 0
theorem Zr {full v o:List Nat}{off n q c:Nat}(hn:v.length=n)(hl:off+n<full.length)(h:Jn full v off q n o c)(hf:Low full)
 (hge:val ((full.drop off).take (n+1))/val v<=q) (hpos:0<val v) (hc:c<=full.getD (off+n) 0) :
 q=val ((full.drop off).take (n+1))/val v/\Nz full off n (val v) (o.set (off+n) (full.getD (off+n) 0-c)):=by
 have hs:=h.sum;rw[<-hn,A1k,hn]at hs;have hU:=Gh full off n;have hset:=Y1 o off n (full.getD (off+n) 0-c) (by rw[h.len];exact hl);have hlow:=hf.getD (off+n);generalize hu:full.getD (off+n) 0=u at *
 generalize hUU:val ((full.drop off).take (n+1))=U at *
 generalize val v=V at *
 generalize val ((full.drop off).take n)=x at *
 generalize val ((o.drop off).take n)=y at *
 have hpm:1000000000^n*u=1000000000^n*c+1000000000^n*(u-c):=by rw[<-A2a];congr 1;omega
 have hUq:U=q*V+(y+1000000000^n*(u-c)):=by
  generalize 1000000000^n*(u-c)=a at *
  generalize 1000000000^n*c=b at *
  generalize 1000000000^n*u=d at *
  omega
 have hq:q=U/V:=by
  refine A76 ?_ hge;rw[A4l hpos];omega
 refine⟨hq,by simp[h.len],h.low.set _ oV,?_,fun j hj=>?_⟩
 ·rw[hset,hUU];have:=A26 U V;rw[<-hq,A10]at this;generalize 1000000000^n*(u-c)=a at *
  omega
 ·rw[Ev _ _ oV];exact h.same j oV
theorem Aey {full v o o2:List Nat}{off n q c cb:Nat}(hn:v.length=n)(hl:off+n<full.length)(h:Jn full v off q n o c)
 (hge:q<=val ((full.drop off).take (n+1))/val v+1) (hpos:0<val v) (hv:val v<1000000000^n) (hc:full.getD (off+n) 0<c) (hb:Ky o v off n o2 cb) :
 q=val ((full.drop off).take (n+1))/val v+1/\full.getD (off+n) 0+cb=c/\Nz full off n (val v) (o2.set (off+n) 0):=by
 have hs:=h.sum;have hs2:=hb.sum;rw[<-hn,A1k,hn]at hs hs2;have hU:=Gh full off n;have hset:=Y1 o2 off n 0 (by rw[hb.len,h.len];exact hl);have hy:=Aqu (h.low.drop off) n;have hz:=Aqu (hb.low.drop off) n;have hdm:=A26 (val ((full.drop off).take (n+1))) (val v);have hml:=A2s (val ((full.drop off).take (n+1))) hpos;generalize full.getD (off+n) 0=u at *
 generalize hUU:val ((full.drop off).take (n+1))=U at *
 generalize val v=V at *
 generalize val ((full.drop off).take n)=x at *
 generalize val ((o.drop off).take n)=y at *
 generalize val ((o2.drop off).take n)=z at *
 have hbc:=hb.carry;obtain⟨k,rfl⟩:∃ k,c=u+1+k:=⟨c-u-1,oV⟩;have hm:1000000000^n*(u+1+k)=1000000000^n*u+1000000000^n+1000000000^n*k:=by rw[A2a,A2a,A5y]
 have hk0:1000000000^n*0<=1000000000^n*k:=A2i _ (A1m _);rw[hm]at hs;generalize hP:1000000000^n=P at *
 have hlt:U<q*V:=by
  generalize P*u=a at *
  generalize P*k=b at *
  omega
 have hq:q=U/V+1:=by
  refine A76 hge ?_;exact (A2w hpos).2 hlt
 have hqV:q*V=V*(U/V)+V:=by rw[hq,A1o,A3d,A10]
 have hR:z+P*cb=U%V+P+P*k:=by
  generalize P*u=a at *
  generalize P*k=b at *
  generalize P*cb=d at *
  generalize V*(U/V)=f at *
  omega
 have hcb:cb=1:=by
  rcases A1p cb with h0|h0
  ·subst h0;rw[A3n]at hR;generalize P*k=b at *
   omega
  ·omega
 subst hcb;rw[A5y]at hR;have hk:k=0:=by
  rcases A1p k with h0|h0
  ·exact h0
  ·have:P*1<=P*k:=A2i _ h0;generalize P*k=b at *
   omega
 subst hk;refine⟨hq,oV,by simp[hb.len,h.len],hb.low.set _ oV,?_,fun j hj=>?_⟩
 ·rw[hset,hUU,A3n,A3f];rw[A3n]at hR;omega
 ·rw[Ev _ _ oV,hb.same j oV];exact h.same j oV
structure K7 (A V n m:Nat)(j:Nat)(u qs:List Nat):Prop where
 ulen:u.length=m+n
 qlen:qs.length=m
 ulow:Low u
 qlow:Low qs
 less:val (u.drop j)<V
 sum:val u+1000000000^j*(val (qs.drop j)*V)=A
 zero:∀ k,j+n<=k->u.getD k 0=0
theorem Gi {j k:Nat}(h:∀ i,j+k<=i->u.getD i 0=0):val ((u.drop j).take k)=val (u.drop j):=by
 have hz:val ((u.drop j).drop k)=0:=by
  have:∀ (l:List Nat),(∀ i,l.getD i 0=0)->val l=0:=by
   intro l;induction l with
   |nil=>intro _;rfl
   |cons d l ih =>
    intro hl;have h0:d=0:=by simpa using hl 0
    have h1:=ih (fun i=>by simpa using hl (i+1));simp[val,h0,h1]
  refine this _ (fun i=>?_);rw[Ds,Ds];exact h _ oV
 by_cases hk:k<=(u.drop j).length
 ·have:=E5 (u.drop j) k hk;rw[hz]at this;omega
 ·rw[A03 oV]
theorem Zh (hj:j<u.length):val (u.drop j)=u.getD j 0+1000000000*val (u.drop (j+1)):=by
 rw[Aqh u j hj];rfl
theorem K7.before (h:K7 A V n m (j+1) u qs)(hj:j<m) :
 val ((u.drop j).take (n+1))<1000000000*V:=by
 rw[Gi (fun i hi=>h.zero i oV),Zh (by have:=h.ulen;omega)];have:=h.less;have:=h.ulow.getD j;omega
theorem K7.step {A V n m j:Nat}{u u' qs:List Nat}(h:K7 A V n m (j+1) u qs)(hj:j<m)(hV:0<V)(hVn:V<1000000000^n)
 (hs:Nz u j n V u') (hq:val ((u.drop j).take (n+1))/V<1000000000) :
 K7 A V n m j u' (qs.set j (val ((u.drop j).take (n+1))/V)):=by
 have hrest:=hs.rest;have hml:=A2s (val ((u.drop j).take (n+1))) hV;have htop:u'.getD (j+n) 0=0:=by
  have:=Gh u' j n;rcases A1p (u'.getD (j+n) 0) with h0|h0
  ·exact h0
  ·have:1000000000^n*1<=1000000000^n*u'.getD (j+n) 0:=A2i _ h0;omega
 have hzero:∀ k,j+n<=k->u'.getD k 0=0:=by
  intro k hk;by_cases e:k=j+n
  ·rw[e];exact htop
  ·rw[hs.same k oV];exact h.zero k oV
 have hd':val (u'.drop j)=val ((u.drop j).take (n+1))%V:=by
  rw[<-hrest,Gi (fun i hi=>hzero i oV)]
 refine⟨by rw[hs.len];exact h.ulen,by simp[h.qlen],hs.low,h.qlow.set _ hq,by rw[hd'];exact hml,?_,hzero⟩;have hsum:=h.sum;have e1:=E5 u j (by have:=h.ulen;omega);have e2:=E5 u' j (by have:=h.ulen;have:=hs.len;omega);have e3:u'.take j=u.take j:=by
  apply List.ext_getElem?;intro i;rw[A3m,A3m];split
  ·rename_i hi;have:=hs.same i (Or.inl hi);have l1:i<u'.length:=by have:=h.ulen;have:=hs.len;omega
   have l2:i<u.length:=by have:=h.ulen;omega
   simp[A0o,l1,l2]at this⊢;exact this
  ·rfl
 have e4:val ((u.drop j).take (n+1))=val (u.drop j):=Gi (fun i hi=>h.zero i oV);have e5:val ((qs.set j (val ((u.drop j).take (n+1))/V)).drop j)=val ((u.drop j).take (n+1))/V+1000000000*val (qs.drop (j+1)):=by
  rw[Aqh _ j (by simp[h.qlen,hj]),A6r oV];have:(qs.set j (val ((u.drop j).take (n+1))/V)).getD j 0=val ((u.drop j).take (n+1))/V:=by
   simp[A0o,h.qlen,hj]
  rw[this];rfl
 rw[e5,e2,e3,hd',e4];rw[e1,A16]at hsum;have hdm:=A26 (val (u.drop j)) V;generalize val (u.drop j)/V=q at *
 generalize val (u.drop j)%V=r at *
 generalize val (u.take j)=x at *
 generalize val (qs.drop (j+1))=y at *
 generalize 1000000000^j=p at *
 rw[<-hdm]at hsum;rw[<-hsum,A1o,A2a,A2a,A10 V q];rw[show p*1000000000*(y*V)=p*(1000000000*y*V) by rw[A1x,A1x]];omega
theorem K7.done (h:K7 A V n m 0 u qs)(hV:0<V):val qs=A/V/\val u=A%V:=by
 have hs:=h.sum;have hl:=h.less;simp only[A41,Nat.pow_zero,A3d]at hs hl;rw[<-hs];constructor
 ·rw[Nat.add_mul_div_right _ _ hV,A4a hl,A2b]
 ·rw[Nat.add_mul_mod_self_right,A5d hl]
end
section
variable {a b w wr:World}{base g n:Nat}{e:TypeId}{o:List Nat}{r:Option Nat}
theorem Rq (w:World)(r:Option Nat):w.grownBy w r:=⟨rfl,rfl,rfl,A0w _,fun _ _ _=>rfl⟩
theorem Qd {a b c:World}(h:a.grownBy b r)(k:b.grownBy c r):a.grownBy c r :=
 ⟨k.os.trans h.os,k.tape.trans h.tape,k.output.trans h.output,A0q h.size k.size,fun i hi hr=>(k.block i (A2e hi h.size) hr).trans (h.block i hi hr)⟩
theorem Zz (h:a.grownBy b r)(n:Nat):a.grownBy (b.drewN n) r:=by
 obtain⟨h1,h2,h3,h4,h5⟩:=h;exact⟨h1,h2,h3,h4,h5⟩
def Et (w:World)(g:Nat)(a:Option Addr)(cs:List Value):Prop:=Row w a cs/\∀ b off,a=some ⟨b,off,none⟩->b≠g
theorem Et.grown {w w':World}{a:Option Addr}{cs:List Value}(h:Et w g a cs)(hg:w.grownBy w' (some g)):Et w' g a cs:=by
 refine⟨fun j hj=>?_,h.2⟩;obtain⟨b,off,h1,h2⟩:=h.1 j hj;exact⟨b,off,h1,hg.cell h2 (by simp;exact h.2 b off h1)⟩
def Ak9 (w:World)(base g N:Nat)(full:List Nat)(off n V:Nat)(e:Ending)(w':World):Prop :=
 ∃ o,e=.returned (.int .u64 ((val ((full.drop off).take (n+1))/V:Nat):Int))/\Nz full off n V o /\
  w'.ownsRow base 266 1 (.slice (some ⟨g,0,none⟩) N N) N (E2 o)/\w.grownBy w' (some g)
def Ai9 (w:World)(v1 top V U:Nat)(q r:Value)(wr:World):Prop :=
 ∃ qq rr:Nat,q=.int .u64 (qq:Int)/\r=.int .u64 (rr:Int)/\Oj v1 top V U qq rr/\rr<2000000000/\∃ d,wr=w.drewN d
def Aln (w:World)(base g N:Nat)(full m:List Nat)(off q n:Nat)(c i:Value)(wr:World):Prop :=
 ∃ (k:Nat) (o:List Nat) (cc:Nat),k<=n/\i=.int .i64 k/\c=.int .u64 (cc:Int)/\Jn full m off q k o cc /\
  wr.ownsRow base 266 1 (.slice (some ⟨g,0,none⟩) N N) N (E2 o)/\w.grownBy wr (some g)
def Akw (w:World)(base g N:Nat)(full m:List Nat)(off n:Nat)(c i:Value)(wr:World):Prop :=
 ∃ (k:Nat) (o:List Nat) (cc:Nat),k<=n/\i=.int .i64 k/\c=.int .u64 (cc:Int)/\Ky full m off k o cc /\
  wr.ownsRow base 266 1 (.slice (some ⟨g,0,none⟩) N N) N (E2 o)/\w.grownBy wr (some g)
theorem Fs {n j:Nat}(h:wr.ownsRow base e 1 (.slice (some ⟨g,0,none⟩) n n) n (E2 o))(hj:j<o.length) :
 wr.cell? ⟨g,j,none⟩=some (.int .u64 (o.getD j 0:Nat)):=by
 obtain⟨b,off,h1,h2⟩:=(Row.of_owns h).at hj;simp only[A0t,Addr.mk.injEq,and_true]at h1;obtain⟨rfl,rfl⟩:=h1;rw[A2b]at h2;exact h2
theorem Js (j d:Nat)(h:wr.ownsRow base e 1 (.slice (some ⟨g,0,none⟩) n n) n (E2 o))(x:w.grownBy wr (some g)) :
 (wr.setCell ⟨g,j,none⟩ (.int .u64 (d:Int))).ownsRow base e 1 (.slice (some ⟨g,0,none⟩) n n) n (E2 (o.set j d)) /\
  w.grownBy (wr.setCell ⟨g,j,none⟩ (.int .u64 (d:Int))) (some g):=by
 have:=h.stored j (.int .u64 (d:Int));rw[Ss]at this;exact⟨this.1,Qd x this.2⟩
theorem Afi {u c b:Nat}(h:u+c=b):IntKind.u64.wrap ((u:Int)+IntKind.u64.wrap ((c:Int)-b))=((0:Nat):Int):=by
 have e:∀ n:Int,IntKind.u64.wrap n=n%18446744073709551616:=fun n=>by simp[IntKind.wrap,IntKind.signed,IntKind.bits]
 rw[e,e];omega
set_option maxRecDepth 100000 in
theorem Aft (base g N off n cu:Nat)(b:Option Addr)(cb:Nat)(full m:List Nat)(w:World)
 (hown:w.ownsRow base 266 1 (.slice (some ⟨g,0,none⟩) N N) N (E2 full)) (hv:Et w g b (E2 m)) (hfl:full.length=N)
 (lf:Low full) (lm:Low m) (hm:m.length=n+2) (hN:off+(n+2)<N) (hNN:N<=30000000000000) (hcu:n+3<=cu)
 (hv1:500000000<=m.getD (n+1) 0) (hU:val ((full.drop off).take (n+3))<1000000000*val m) :
 Calls prog 293 #[.slice (some ⟨g,off,none⟩) (n+3) cu,.slice b (n+2) cb] w (Ak9 w base g N full off (n+2) (val m)):=by
 have hp:=Acn hm lf lm hv1 hU;obtain⟨bv,ov,rfl,hcv1⟩:=hv.1.at (j:=n+1) oV;have hcv2:w.cell? ⟨bv,ov+n,none⟩=some (.int .u64 (m.getD n 0:Nat)):=by
  obtain⟨b',off',h1,h2⟩:=hv.1.at (j:=n) oV;simp only[A0t,Addr.mk.injEq,and_true]at h1;obtain⟨rfl,rfl⟩:=h1;exact h2
 have hcu0:=Fs hown (j:=off+(n+2)) oV;have hcu1:=Fs hown (j:=off+(n+1)) oV;have hcu2:=Fs hown (j:=off+n) oV;obtain⟨v1,hv1e⟩:∃ x,x=m.getD (n+1) 0:=⟨_,rfl⟩;obtain⟨v2,hv2e⟩:∃ x,x=m.getD n 0:=⟨_,rfl⟩;obtain⟨u0,hu0e⟩:∃ x,x=full.getD (off+(n+2)) 0:=⟨_,rfl⟩;obtain⟨u1,hu1e⟩:∃ x,x=full.getD (off+(n+1)) 0:=⟨_,rfl⟩;obtain⟨u2,hu2e⟩:∃ x,x=full.getD (off+n) 0:=⟨_,rfl⟩;rw[<-hv1e,<-hv2e,<-hu0e,<-hu1e,<-hu2e]at hp;rw[<-hv1e]at hcv1 hv1;rw[<-hv2e]at hcv2;rw[<-hu0e]at hcu0;rw[<-hu1e]at hcu1;rw[<-hu2e]at hcu2;have b1:=hp.v1low;have b2:=hp.v2low;have b3:=hp.u2low;have b4:u0<1000000000:=by rw[hu0e];exact lf.getD _
 have b5:u1<1000000000:=by rw[hu1e];exact lf.getD _
 have b6:((v1:Int)==0)=false:=gV
 have HP:=A0r hp;have HO:=A0r hown;have HV:=A0r hv;have LF:=A0r lf;have LM:=A0r lm;have HM:=A0r hm;have HFL:=A0r hfl;have E0:=A0r hu0e;clear hp hown hv lf lm hm hfl hv1e hv2e hu0e hu1e hu2e hU
 go_enter func293,ntmps293
 go_wp2_with fail
 go_quiet (fail)
 go_wp2_with fail
 go_quiet (fail)
 go_wp2_with fail
 rw[show ((u0:Int)*1000000000+u1)/v1=(((u0*1000000000+u1)/v1:Nat):Int) by simp,show ((u0:Int)*1000000000+u1)%v1=(((u0*1000000000+u1)%v1:Nat):Int) by simp]
 go_loopw [7,8] (Ai9 w v1 (u0*1000000000+u1) (val m) (val ((full.drop off).take (n+3)))) (fun _ r _=>(1000000000-intOf r).toNat)
 case atStart =>
  have hlt:=A2s (u0*1000000000+u1) (show 0<v1 by omega);exact⟨_,_,rfl,rfl,Oj.start HP.out,oV,_,A7e _ _ _⟩
 case round =>
  obtain⟨qq,rr,rfl,rfl,ht,hr2,d,rfl⟩:=hrel;have HT:=A0r ht;have hq2:=ht.qle;clear ht;obtain⟨p,hp⟩:∃ p,p=qq*v2:=⟨_,rfl⟩;have hp1:p<=2000000000*999999999:=by rw[hp];exact A3j oV oV
  have hp2:((qq:Int)*v2)=p:=by rw[hp];exact (A4j _ _).symm
  have PP:=A0r hp;clear hp;by_cases hcont:rr<1000000000/\(1000000000<=qq\/rr*1000000000+u2<p)
  ·have hstep:=HT.out.step HP.out (by rw[<-PP.out];exact hcont.2);have HST:=A0r hstep;have hq0:=hstep.1;clear hstep;obtain⟨hc1,hc2⟩:=hcont;have d1:decide ((rr:Int)<1000000000)=true:=gV
   by_cases hc3:1000000000<=qq
   ·have d2:decide ((1000000000:Int)<=qq)=true:=gV
    clear hc2
    go_wp2_with fail
    go_quiet (fail)
    go_wp2_with fail
    exact⟨⟨qq-1,rr+v1,by go_num,by go_num,HST.out.2,oV,_,rfl⟩,by simp only[intOf];omega⟩
   ·have d2:decide ((1000000000:Int)<=qq)=false:=gV
    have d3:decide ((rr:Int)*1000000000+u2<p)=true:=gV
    clear hc2
    go_wp2_with fail
    go_quiet (fail)
    go_wp2_with fail
    exact⟨⟨qq-1,rr+v1,by go_num,by go_num,HST.out.2,oV,_,rfl⟩,by simp only[intOf];omega⟩
  ·have hfin:=HT.out.done HP.out (by rw[<-PP.out];exact hcont);have HF:=A0r hfin;have hqB:=hfin.1;clear hfin;have hsplit:(decide ((rr:Int)<1000000000)=false)\/(decide ((rr:Int)<1000000000)=true/\decide ((1000000000:Int)<=qq)=false/\decide ((rr:Int)*1000000000+u2<p)=false):=by
    simp only[decide_eq_false_iff_not,decide_eq_true_eq];omega
   clear hcont;rcases hsplit with d1|⟨d1,d2,d3⟩;all_goals
    go_wp2_with fail
    go_quiet (fail)
    go_wp2_with fail
    go_loopw [9,80] (Aln w base g N full m off qq (n+2)) (fun _ i _=>(n+2)-(intOf i).toNat)
    case atStart=>exact⟨0,full,0,oV,rfl,rfl,Jn.start _ _ _ _ LF.out,Mm HO.out _,Zz (Rq _ _) _⟩
    case round =>
     obtain⟨k,o,cc,hk,rfl,rfl,hst,hown,hgr⟩:=hrel;have HS:=A0r hst;have HW:=A0r hown;have HG:=A0r hgr;have hcc:=hst.carry;have hlo:N<=o.length:=by have:=hst.len;have:=HFL.out;omega
     clear hst hown hgr d1 hcv1 hcv2 hcu0 hcu1 hcu2 hp2 hp1;by_cases hlt:k<n+2
     ·obtain⟨x,hx⟩:∃ x,x=m.getD k 0:=⟨_,rfl⟩;obtain⟨y,hy⟩:∃ y,y=o.getD (off+k) 0:=⟨_,rfl⟩;have hx1:x<1000000000:=by rw[hx];exact LM.out.getD k
      have hy1:y<1000000000:=by rw[hy];exact HS.out.low.getD _
      have hcx:wr.cell? ⟨bv,ov+k,none⟩=some (.int .u64 (x:Int)):=by
       obtain⟨b',off',h1,h2⟩:=(HV.out.grown HG.out).1.at (j:=k) (by rw[HM.out];exact hlt);simp only[A0t,Addr.mk.injEq,and_true]at h1;obtain⟨rfl,rfl⟩:=h1;rw[hx];exact h2
      have hcy:=Fs HW.out (j:=off+k) oV;have hfy:=HW.out.frozenAt (off+k);rw[<-hy]at hcy;have XX:=A0r hx;have YY:=A0r hy;clear hx hy;obtain⟨p2,hp2⟩:∃ p2,p2=qq*x:=⟨_,rfl⟩;have hp21:p2<=999999999*999999999:=by rw[hp2];exact A3j oV oV
      have hp22:((qq:Int)*x)=p2:=by rw[hp2];exact (A4j _ _).symm
      have PP2:=A0r hp2;clear hp2;by_cases hy2:y<(p2+cc)%1000000000
      ·have d4:decide ((y:Int)<((p2:Int)+cc)%1000000000)=true:=gV
       go_wp2_with fail
       rw[show (y:Int)+1000000000=((y+1000000000:Nat):Int) by omega,show ((y+1000000000:Nat):Int)-((p2:Int)+cc)%1000000000=((y+1000000000-(p2+cc)%1000000000:Nat):Int) by omega,show ((p2:Int)+cc)/1000000000+1=(((p2+cc)/1000000000+1:Nat):Int) by omega];have hs1:=Js (off+k) (y+1000000000) HW.out HG.out;have hs2:=Js (off+k) (y+1000000000-(p2+cc)%1000000000) hs1.1 hs1.2;rw[List.set_set]at hs2;refine⟨⟨k+1,_,_,oV,by go_num,rfl,?_,hs2.1,hs2.2⟩,by simp only[intOf];omega⟩;exact HS.out.step (by have:=HFL.out;omega) XX.out YY.out oV oV (by rw[<-PP2.out];omega)
      ·have d4:decide ((y:Int)<((p2:Int)+cc)%1000000000)=false:=gV
       go_wp2_with fail
       rw[show (y:Int)-((p2:Int)+cc)%1000000000=((y-(p2+cc)%1000000000:Nat):Int) by omega,show ((p2:Int)+cc)/1000000000=(((p2+cc)/1000000000:Nat):Int) by omega];have hs2:=Js (off+k) (y-(p2+cc)%1000000000) HW.out HG.out;refine⟨⟨k+1,_,_,oV,by go_num,rfl,?_,hs2.1,hs2.2⟩,by simp only[intOf];omega⟩;exact HS.out.step (by have:=HFL.out;omega) XX.out YY.out oV oV (by rw[<-PP2.out];omega)
     ·obtain rfl:k=n+2:=oV
      have hcy:=Fs HW.out (j:=off+(n+2)) oV;have hfy:=HW.out.frozenAt (off+(n+2));rw[HS.out.same _ (Or.inr (A0w _)),<-E0.out]at hcy;have hVpos:=HP.out.pos;by_cases hen:cc<=u0
      ·have hd:=Zr HM.out (by rw[HFL.out];exact hN) HS.out LF.out HF.out.2.1 hVpos (by rw[<-E0.out];exact hen);rw[<-E0.out]at hd;have HD:=A0r hd;clear hd hVpos
       go_wp2_with fail
       go_ret
       rw[show (u0:Int)-cc=((u0-cc:Nat):Int) by omega];have hs2:=Js (off+(n+2)) (u0-cc) HW.out HG.out;exact⟨_,by rw[<-HD.out.1];rfl,HD.out.2,hs2.1,hs2.2⟩
      ·have hlow:=HS.out.low;have LO:=A0r hlow;have VP:=A0r hVpos;clear hlow hVpos hcy hfy;obtain⟨wo,hwo⟩:∃ wo:World,wo=wr:=⟨_,rfl⟩;subst hwo;have hcy:=Fs HW.out (j:=off+(n+2)) oV;rw[HS.out.same _ (Or.inr (A0w _)),<-E0.out]at hcy
       go_wp2_with fail
       go_loopw [14,132] (Akw w base g N o m off (n+2)) (fun _ i _=>(n+2)-(intOf i).toNat)
       case atStart=>exact⟨0,o,0,oV,rfl,rfl,Ky.start _ _ _ LO.out,HW.out,HG.out⟩
       case round =>
        obtain⟨k,o2,cb2,hk,rfl,rfl,hst2,hown2,hgr2⟩:=hrel;have HS2:=A0r hst2;have HW2:=A0r hown2;have HG2:=A0r hgr2;have hcb2:=hst2.carry;have hlo2:N<=o2.length:=by have:=hst2.len;omega
        clear hst2 hown2 hgr2 hcy;by_cases hlt:k<n+2
        ·obtain⟨x,hx⟩:∃ x,x=m.getD k 0:=⟨_,rfl⟩;obtain⟨y,hy⟩:∃ y,y=o2.getD (off+k) 0:=⟨_,rfl⟩;have hx1:x<1000000000:=by rw[hx];exact LM.out.getD k
         have hy1:y<1000000000:=by rw[hy];exact HS2.out.low.getD _
         have hcx:wr.cell? ⟨bv,ov+k,none⟩=some (.int .u64 (x:Int)):=by
          obtain⟨b',off',h1,h2⟩:=(HV.out.grown HG2.out).1.at (j:=k) (by rw[HM.out];exact hlt);simp only[A0t,Addr.mk.injEq,and_true]at h1;obtain⟨rfl,rfl⟩:=h1;rw[hx];exact h2
         have hcy:=Fs HW2.out (j:=off+k) oV;have hfy:=HW2.out.frozenAt (off+k);rw[<-hy]at hcy;have XX:=A0r hx;have YY:=A0r hy;clear hx hy
         go_wp2_with fail
         rw[show ((y:Int)+x+cb2)%1000000000=(((y+x+cb2)%1000000000:Nat):Int) by omega,show ((y:Int)+x+cb2)/1000000000=(((y+x+cb2)/1000000000:Nat):Int) by omega];have hs2:=Js (off+k) ((y+x+cb2)%1000000000) HW2.out HG2.out;refine⟨⟨k+1,_,_,oV,by go_num,rfl,?_,hs2.1,hs2.2⟩,by simp only[intOf];omega⟩;exact HS2.out.step LM.out (by have:=HFL.out;have:=HS.out.len;omega) XX.out YY.out
        ·obtain rfl:k=n+2:=oV
         have hb:=Aey HM.out (by rw[HFL.out];exact hN) HS.out HF.out.2.2 VP.out (by have:=Ip LM.out;rw[HM.out]at this;exact this) (by rw[<-E0.out];omega) HS2.out;rw[<-E0.out]at hb;have hsum:=hb.2.1;have hcy:=Fs HW2.out (j:=off+(n+2)) oV;have hfy:=HW2.out.frozenAt (off+(n+2));rw[HS2.out.same _ (Or.inr (A0w _)),HS.out.same _ (Or.inr (A0w _)),<-E0.out]at hcy;have hq1:1<=qq:=by rw[hb.1];exact Nat.le_add_left 1 _
         have HB:=A0r hb;have HSUM:=A0r hsum;clear hb hsum
         go_wp2_with fail
         go_ret
         rw[Afi HSUM.out];have hs2:=Js (off+(n+2)) 0 HW2.out HG2.out;refine⟨_,?_,HB.out.2.2,hs2.1,hs2.2⟩;refine congrArg (fun z:Int=>Ending.returned (.int .u64 z)) (a₁:=(qq:Int)-1) ?_;have:=HB.out.1;omega
end
section
variable {f k m n:Nat}
structure Ama (n k f:Nat):Prop where
 len:nl n=k+2
 pos:1<=f
 low:f<1000000000
 vlen:nl (n*f)=k+2
 vtop:500000000<=(Aa (n*f)).getD (k+1) 0
 fle:f*1000000000^(k+1)<=n*f
theorem Ad6 (n k:Nat)(h:nl n=k+2):n=val ((Aa n).take (k+1))+1000000000^(k+1)*(Aa n).getD (k+1) 0:=by
 have:=B3 (Aa n) (k+1);rw[A03 (show (Aa n).length<=k+1+1 from Nat.le_of_eq h),Aj]at this;exact this
theorem Alm (n k:Nat)(h:nl n=k+2):1<=(Aa n).getD (k+1) 0:=by
 have hne:n≠0:=by intro e;rw[e,Qy]at h;omega
 have:=Mp hne;have hl:(Aa n).length=k+2:=h;rw[hl]at this;simp only[A5l,show k+2-1=k+1 from rfl]at this;omega
theorem Ama.make (h:nl n=k+2):Ama n k (1000000000/((Aa n).getD (k+1) 0+1)):=by
 have h1:=Alm n k h;have h2:=(Am n).getD (k+1);have hn:=Ad6 n k h;have hlt:=Aqu (Am n) (k+1);generalize (Aa n).getD (k+1) 0=b at *
 have hdm:=A26 1000000000 (b+1);have hml:=A2s 1000000000 (show 0<b+1 by omega);generalize hf:1000000000/(b+1)=f at *
 generalize 1000000000%(b+1)=r at *
 have hf1:1<=f:=by
  rcases A1p f with h0|h0
  ·rw[h0,A3n]at hdm;omega
  ·exact h0
 have hf2:f<1000000000:=by
  have:(1+1)*f<=(b+1)*f:=A12 _ oV;omega
 have hbf:b*f+f+r=1000000000:=by rw[A1o,A3d]at hdm;exact hdm
 have hbf2:b+f<=b*f+1:=by
  obtain⟨x,rfl⟩:∃ x,b=x+1:=⟨b-1,oV⟩;obtain⟨y,rfl⟩:∃ y,f=y+1:=⟨f-1,oV⟩;rw[A1o,A2a,A3d,A5y];have:0<=x*y:=A1m _;omega
 have hbig:500000000<=b*f:=oV
 generalize hx:val ((Aa n).take (k+1))=x at *
 generalize hP:1000000000^(k+1)=P at *
 have hPn:P<=n:=by
  have:P*1<=P*b:=A2i _ h1;omega
 have hup:n*f<P*1000000000:=by
  have e1:n<P*(b+1):=by rw[A2a,A5y];omega
  have e2:n*f<P*(b+1)*f:=A8n e1 oV;have e3:P*(b+1)*f<=P*1000000000:=by rw[A1x];exact A2i _ oV
  omega
 have hlo:P<=n*f:=by
  have:n*1<=n*f:=A2i _ hf1;omega
 have hvl:nl (n*f)=k+2:=by
  refine A76 (A4 (by rw[show k+2=k+1+1 from rfl,A16,hP];exact hup)) ?_;rcases A11 (nl (n*f)) (k+2) with h3|h3
  ·have h4:=Cd (n*f);have h5:1000000000^nl (n*f)<=1000000000^(k+1):=A1l oV oV;rw[hP]at h5;omega
  ·exact h3
 refine⟨h,hf1,hf2,hvl,?_,?_⟩
 ·have hv:=Ad6 (n*f) k hvl;have hvt:=Aqu (Am (n*f)) (k+1);rw[hP]at hv hvt;generalize (Aa (n*f)).getD (k+1) 0=t at *
  have e1:P*(b*f)<=n*f:=by
   rw[<-A1x];exact A12 _ oV
  have e2:n*f<P*(t+1):=by rw[A2a,A5y];omega
  have e3:P*(b*f)<P*(t+1):=oV
  have:=A81 e3;omega
 ·rw[A10 n];exact A2i _ (by rw[hP];exact hPn)
theorem K7.start {m n k f M:Nat}(h:Ama n k f)(hM:nl m+1=M+(k+2)) :
 K7 (m*f) (n*f) (k+2) M M (Aa (m*f)++A0x (M+(k+2)-nl (m*f)) 0) (A0x M 0):=by
 have hl:nl (m*f)<=M+(k+2):=by
  rw[<-hM];refine A0q (Fp m f) (Nat.add_le_add_left ?_ _);exact A4 (by simpa using h.low)
 have hlen:(Aa (m*f)++A0x (M+(k+2)-nl (m*f)) 0).length=M+(k+2):=by
  rw[List.length_append,List.length_replicate];unfold nl at *;omega
 have hval:val (Aa (m*f)++A0x (M+(k+2)-nl (m*f)) 0)=m*f:=by
  rw[Nb,Vi,Aj];omega
 refine⟨hlen,mV,(Am _).append (Low.zeros _),Low.zeros _,?_,?_,?_⟩
 ·have hs:=E5 (Aa (m*f)++A0x (M+(k+2)-nl (m*f)) 0) M oV;rw[hval]at hs;generalize val ((Aa (m*f)++A0x (M+(k+2)-nl (m*f)) 0).drop M)=y at *
  generalize val ((Aa (m*f)++A0x (M+(k+2)-nl (m*f)) 0).take M)=x at *
  have hm:=Cd m;rw[show nl m=M+(k+1) by omega,A5f]at hm;have hfle:=h.fle;have hpos:=h.pos;generalize 1000000000^(k+1)=P at *
  generalize 1000000000^M=Q at *
  have e1:m*f<Q*P*f:=A8n hm oV;have e2:Q*P*f=Q*(f*P):=by rw[A1x,A10 P]
  have e3:Q*y<Q*(f*P):=oV
  have:=A81 e3;omega
 ·rw[hval,A1u mV];simp[val]
 ·intro j hj;have:(Aa (m*f)++A0x (M+(k+2)-nl (m*f)) 0)[j]?=none:=A1g oV;rw[A0o,this];rfl
theorem Aan (hf:0<f):m*f/(n*f)=m/n/\m*f%(n*f)=(m%n)*f :=
 ⟨Nat.mul_div_mul_right m n hf,Nat.mul_mod_mul_right f m n⟩
end
end Go.Proofs.YtanfagpabkdmiaaGreatDoor
