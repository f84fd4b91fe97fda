/- Parts of one proof, joined by a program. -/
import Derived.Test.YtijchbjkdllolaaGreatDoorP01
import Derived.RangeFuncRecord
import Derived.Deep.LoopGhost
import Derived.WalkKit
import Derived.Lib.Hide
import Derived.Test.YtijchbjkdllolaaGreatDoorProg
import Derived.KernelRfl
import Derived.Deep.QuietTactic
import Derived.BigQuiet
import Derived.RegionTactic
import Derived.ChangeAlike
import Derived.Outline
set_option linter.defProp false
set_option linter.unusedVariables false
set_option linter.unusedSimpArgs false
set_option linter.unusedSectionVars false
set_option maxHeartbeats 16000000
namespace Go.Proofs.YtijchbjkdllolaaGreatDoor
open Go.Proofs.Tryz
open Go.RowKit
def A3g:=@List.filter_cons
def Azu:=@List.map_cons
def A0f:=@List.cons.injEq
def A1c:=@List.mem_cons_self
def Ayu:=@List.getElem?_eq_some_iff
def A31:=@Array.getElem?_append_left
def A0h:=@Nat.zero_add
def A1d:=@List.map_set
def A4l:=@List.map_take
def A4h:=@Int.eq_ofNat_of_zero_le
def A0y:=@Int.toNat_natCast
def A2s:=@Int.lt_trichotomy
def Azx:=@Nat.eq_zero_or_pos
def A1y:=@Nat.mul_zero
def A6q:=@Nat.le_antisymm
def A38:=@Nat.mul_one
def A2i:=@List.take_append_drop
def A3l:=@List.drop_eq_getElem_cons
def A0i:=@List.set_cons_succ
def A3s:=@List.getD_cons_succ
def A5i:=@List.mem_or_eq_of_mem_set
def A3r:=@List.getElem?_replicate
def A1u:=@Nat.mul_le_mul
def A0z:=@Nat.mod_lt
def Azt:=@Nat.add_mul
def A14:=@List.take_zero
def Azh:=@Nat.zero_le
def Az7:=@Nat.mul_le_mul_right
def A1j:=@Nat.div_add_mod
def A25:=@List.drop_zero
def A7z:=@Nat.mul_add_div
def A2l:=@Nat.div_eq_of_lt
def A3u:=@Nat.mod_eq_of_lt
def A2j:=@List.set_append_right
def A20:=@Nat.sub_self
def A0p:=@List.set_cons_zero
def A3t:=@List.replicate_zero
def Azl:=@List.append_nil
def Az1:=@List.drop_of_length_le
def A33:=@Nat.lt_trichotomy
def A5l:=@Nat.le_of_lt
def A27:=@Int.natCast_mul
def A2x:=@Nat.le_div_iff_mul_le
def A5g:=@Nat.div_mul_le_self
def A1k:=@Nat.one_mul
def A5a:=@Nat.lt_of_mul_lt_mul_right
def A8m:=@List.drop_set
def A6r:=@Nat.add_comm
def A2f:=@List.ext_getElem?
def A7n:=@Nat.pow_zero
def A7o:=@List.set_set
def A48:=@Nat.mul_lt_mul_of_pos_right
def A7k:=@Nat.lt_of_mul_lt_mul_left
def Ay3:=@List.length_append
def A1a:=@List.length_replicate
section
variable {T:List Nat}{c:Cx}{d:Deferred}{dl:List Deferred}{id:Nat}{m u:PH}{ops:Array Oper}{s:S}{t:Array Value}{w:World}{ρ:Nat->Nat}
variable [Cc]
section based
variable [Cm]
inductive KI where
 |code (c:Code)
 |blk (id:Nat)
 |reg (id:Nat) (ops:Array Oper) (dr:Bool) (l:List Nat)
 |lp (J:S->PH->PH->Prop)
def Aeh (c:Cx)(Post:Value->PH->PH->Prop):Ending->World->Prop:=fun e w'=>∃ v u' m',e=.returned v/\Bo u' m' w'/\Br c.u0 c.m0 c.w0 u' m' w'/\Post v u' m'
def Ag (P:Program)(f:FuncId)(args:List Value)(u m:PH)(Post:Value->PH->PH->Prop):Prop:=∀ w,Bo u m w->Calls P f args.toArray w (Aeh ⟨w,u,m⟩ Post)
structure By where
 post:Value->PH->PH->Prop
 m0:PH
abbrev Al8 (P:Program)(fn:Func)(R:Ending->World->Prop):Exit->Act->World->Prop:=bodyPostM Fence.wide 1 P fn R
def Fy (P:Program)(fn:Func)(Post:By)(c:Cx):List KI->Exit->Act->World->Prop
 |[]=>Al8 P fn (Aeh c Post.post)
 |.code x::k=>Exit.then (x.wp P (Fy P fn Post c k)) (Fy P fn Post c k)
 |.blk id::k=>Exit.inBlock id (Fy P fn Post c k)
 |.reg _ _ _ _::k=>Fy P fn Post c k
 |.lp J::k=>Exit.then (fun a w=>∃ s u m ρ,Rel c s u m ρ a w/\J s u m) (Fy P fn Post c k)
def Fw (P:Program)(fn:Func)(Post:By)(ks:List KI)(s:S)(u m:PH):Prop:=∀ c ρ a w,c.m0=Post.m0->Rel c s u m ρ a w->Fy P fn Post c ks .normal a w
def Sym (P:Program)(fn:Func)(Post:By)(ks:List KI)(s:S)(u m:PH):Prop :=
 match ks with
 |.reg id ops dr l::k=>Ob P id ops dr (Fw P fn Post k) l s u m
 |ks=>Fw P fn Post ks s u m
def Qt (id:Nat):List KI->Option (List KI)
 |.blk j::k=>cond (Nat.beq j id) (some k) (Qt id k)
 |_::k=>Qt id k
 |[]=>none
def Ap8 (ops:Array Oper)(done:List Nat)(i:Nat):Bool:=match ops[i]? with
 |some o=>!(done.contains i)&&o.after.toList.all fun e=>!Region.binds .any e||done.contains e.on
 |none=>false
def W8 (ops:Array Oper):Nat->List Nat->List Nat
 |0,done=>done.reverse
 |f+1,done=>match (List.range ops.size).find? (fun i=>Ap8 ops done i&&(match ops[i]? with|some o=>Fe o.op|none=>false)) with
  |some i=>W8 ops f (i::done)
  |none=>match (List.range ops.size).find? (Ap8 ops done) with
   |some i=>W8 ops f (i::done)
   |none=>done.reverse
def Avq (ops:Array Oper):List Nat:=W8 ops ops.size []
def Fv:List KI->Bool
 |.reg ..::_=>false
 |_=>true
def one (P:Program)(ks:List KI)(s:S):Option (List KI×S) :=
 match ks with
 |.code .skip::k=>cond (Fv k) (some (k,s)) none
 |.code (.seq x y)::k=>some (.code x::.code y::k,s)
 |.code (.block id x)::k=>some (.code x::.blk id::k,s)
 |.code (.exit id)::k=>match Qt id k with|some k'=>cond (Fv k') (some (k',s)) none|none=>none
 |.code (.cond x y z)::k=>match s.ev x with
  |.v (.bool true)=>some (.code y::k,s)
  |.v (.bool false)=>some (.code z::k,s)
  |_=>none
 |.code (.region id ops false)::k=>some (.reg id ops false (List.range ops.size)::k,s)
 |.code (.region id ops true)::k=>cond (Aok ops s (Avq ops)) (some (.reg id ops true (Avq ops)::k,s)) none
 |.blk _::k=>cond (Fv k) (some (k,s)) none
 |.reg _ _ _ []::k=>cond (Fv k) (some (k,s)) none
 |.reg id ops dr (i::l)::k=>match ops[i]? with
  |some o=>match E1 s o with
   |true=>match gv s ops o with
    |some true=>match eff P (id*1000+i) s o.op with
     |some (x,hw)=>some (.reg id ops dr l::k,(s.put o.dst x).setb hw)
     |none=>none
    |some false=>some (.reg id ops dr l::k,s.put o.dst (.v undef))
    |none=>none
   |false=>none
  |none=>none
 |_=>none
def run (P:Program):Nat->List KI×S->List KI×S
 |0,st=>st
 |n+1,st=>match one P st.1 st.2 with
  |some st'=>run P n st'
  |none=>st
end based
section sound
variable {P:Program} {fn:Func} {Post:By}
section based
variable [Cm]
def K7 {c:Cx}{id:Nat}:∀ {k f:List KI},Qt id k=some f->∀ {a:Act} {w:World},Fy P fn Post c f .normal a w->Fy P fn Post c k (.exit id) a w
 |.blk j::k,f,h,a,w,hc=>by
  unfold Qt at h;cases hb:Nat.beq j id with
  |true =>
   simp[hb]at h;subst h;have:=Azp hb;subst this;simp[Fy,Exit.inBlock];exact hc
  |false =>
   simp[hb]at h;have g:id≠j:=fun e=>by subst e;simp at hb
   simp only[Fy,Exit.inBlock,if_neg g];exact K7 h hc
 |.code x::k,f,h,a,w,hc=>by simp only[Qt]at h;simp only[Fy,Exit.then];exact K7 h hc
 |.reg _ _ _ _::k,f,h,a,w,hc=>by simp only[Qt]at h;simp only[Fy];exact K7 h hc
 |.lp J::k,f,h,a,w,hc=>by simp only[Qt]at h;simp only[Fy,Exit.then];exact K7 h hc
 |[],f,h,a,w,hc=>by simp[Qt]at h
def Jp {c:Cx}{a:Act}{w:World}(h:Al8 P fn (Aeh c Post.post) .ret a w):∀ k:List KI,Fy P fn Post c k .ret a w
 |[]=>h
 |.blk j::k=>by simp only[Fy,Exit.inBlock];exact Jp h k
 |.code x::k=>by simp only[Fy,Exit.then];exact Jp h k
 |.reg _ _ _ _::k=>by simp only[Fy];exact Jp h k
 |.lp J::k=>by simp only[Fy,Exit.then];exact Jp h k
def Rel.drew {a:Act}(h:Rel c s u m ρ a w):Rel c s u m ρ a { w with drawn:=w.drawn+1 } :=
 ⟨h.sz,h.tm,h.df,h.box,h.inj,h.lv,⟨h.gd.pu,h.gd.pm,h.gd.ap,h.gd.cl⟩,⟨h.gr.sz,h.gr.old,h.gr.us,h.gr.ms,h.gr.io,fun f=>⟨(h.gr.dr f).tape,Nat.le_succ_of_le (h.gr.dr f).dr⟩⟩⟩
def Rel.shut (a:Rel c s u m ρ { tmps:=t,defers:=d::dl } w)(I:Tz d=true) :
 ∃ r w',d.target=.collected r/\(Instr.takeDeferred r).run P w=.ok [] w'/\Rel c s u m ρ { tmps:=t,defers:=dl } w':=by
 obtain⟨B,F,n,x,H⟩:=a.df;rw[A3g,if_pos I]at n;rw[A3g,if_neg (by simp[I])]at x;cases B with
 |nil=>cases n
 |cons r B =>
  rw[Azu,A0f]at n;obtain⟨rfl,n⟩:=n;obtain⟨C,X,J,K⟩:=H r A1c;have q:∀ g,g≠r->(w.putObj r (.deferred none)).heap[g]?=w.heap[g]?:=fun g h=>World.putObj_heap_other h;have V:(w.putObj r (.deferred none)).heap[r]?=some (.deferred none):=World.putObj_heap_same (A3 C);refine⟨r,w.putObj r (.deferred none),rfl,run_takeDeferred C,a.sz,a.tm,⟨B,(A1i.1 F).2,n,x,fun r' y=>?_⟩,fun k b Q=>?_,a.inj,a.lv,⟨fun g o h=>?_,fun g o h=>?_,a.gd.ap,fun g A W E j z h R=>?_⟩,⟨?_,fun g h U=>?_,a.gr.us,a.gr.ms,a.gr.io,fun f=>⟨(a.gr.dr f).tape,(a.gr.dr f).dr⟩⟩⟩
  ·rw[q r' (fun e=>(A1i.1 F).1 (e▸y))];exact H r' (Azq _ y)
  ·obtain⟨⟨cs,D,L,N⟩,O⟩:=a.box k b Q;refine⟨⟨cs,?_,L,N⟩,O⟩;rw[q _ (fun e=>by rw[e,C]at D;cases D)];exact D
  ·rw[q g (fun e=>by rw[e,J]at h;cases h)];exact a.gd.pu g o h
  ·rw[q g (fun e=>by rw[e,K]at h;cases h)];exact a.gd.pm g o h
  ·rw[q g (fun e=>by rw[e,V]at h;cases h)]at h;exact a.gd.cl g A W E j z h R
  ·rw[World.putObj_size];exact a.gr.sz
  rw[q g oV];exact a.gr.old g h U
end based
def Rel.marks (a:Rel c s u m ρ { tmps:=t,defers:=d::dl } w):Tz d=true:=by
 obtain⟨_,_,_,h,_⟩:=a.df;cases e:Tz d with
 |true=>rfl
 |false=>rw[A3g,if_pos (by simp[e])]at h;cases h
def Rel.leaves {c:Cx}{R:Ending->World->Prop}{s:S}{u m:PH}{ρ:Nat->Nat}{t:Array Value}{v:Value}:∀ {dl:List Deferred} {w:World},Rel c s u m ρ { tmps:=t,defers:=dl } w ->
 (∀ w',Rel c s u m ρ { tmps:=t,defers:=[] } w'->(results fn t).run P w'=.ok v w'/\R (.returned v) w')->LeavesInM Fence.wide 1 P fn t R dl .returning w
 |[],w,hr,hv=>⟨v,(hv w hr).1,(hv w hr).2⟩
 |d::dl,w,hr,hv=>by
  obtain⟨r,w',a,e,f⟩:=hr.shut (P:=P) hr.marks;exact⟨mV,.inl ⟨r,w',a,e,f.leaves hv⟩⟩
def Rel.ends {c:Cx}{R:Ending->World->Prop}{s:S}{u m:PH}{ρ:Nat->Nat}{a:Act}{w:World}(e:Rel c s u m ρ a w){v:Value}
 (f:∀ w',Rel c s u m ρ { tmps:=a.tmps,defers:=[] } w'->(results fn a.tmps).run P w'=.ok v w'/\R (.returned v) w'):Al8 P fn R .ret a w/\Al8 P fn R .normal a w:=by
 have:=e.leaves (P:=P) (fn:=fn) (R:=R) f;exact⟨this,this⟩
section based
variable [Cm]
def Sym.reg_seq {k:List KI}(h:Ob P id ops false (Fw P fn Post k) (List.range ops.size) s u m):Fw P fn Post (.code (.region id ops false)::k) s u m:=by
 intro c ρ a w e f;simp only[Fy,Exit.then];exact wp_region (h.wpOps (fun s u m ρ a w g f=>g c ρ a w e f) f)
def Alu (h:Aok ops s T=true):T.length=ops.size/\(∀ i,i<ops.size->i∈T)/\(∀ i∈T,i<ops.size)/\T.Nodup/\T.Pairwise (fun x y=>Ed ops s x y=true)/\(List.range ops.size).all (Hs ops)=true:=by
 unfold Aok at h;simp only[Azb]at h;obtain⟨⟨⟨⟨j,a⟩,f⟩,g⟩,k⟩:=h;rw[Azg]at a f;refine⟨Azp j,fun i hi=>by simpa using a i (by simpa using hi),fun i hi=>A5t▸f i hi,?_,Ef g,k⟩;refine (Ef g).imp fun {x y} hxy e=>?_;unfold Ed at hxy;subst e;simp at hxy
def Sym.reg_draw (C:P.follows .mixedOrders=true)(A:Aok ops s T=true){k:List KI}(h:Ob P id ops true (Fw P fn Post k) T s u m):Fw P fn Post (.code (.region id ops true)::k) s u m:=by
 intro c ρ a w g f;simp only[Fy,Exit.then];obtain⟨n,q,e,j,x,y⟩:=Alu A;refine wp_region_any C ?_;rw[show ops.size=T.length from n.symm];refine Ob.wpAny (c:=c) f.lv y (fun s u m ρ a w B f=>B c ρ a w g f) T.length T _ rfl (by simp[n]) (fun i hi=>?_) e j (fun i hi=>?_) x (Fi.refl _ _) h f.drew
 ·have:i<T.length:=oV;simp[Azn,this,q i hi]
 exfalso;simp only[Azn]at hi;by_cases e:i<T.length
 ·simp[e]at hi
 rw[A1w gV]at hi;simp at hi
def Sym.ofNo {a:List KI}(e:Fv a=true):Sym P fn Post a s u m=Fw P fn Post a s u m:=by
 cases a with
 |nil=>rfl
 |cons x k=>cases x<;>first|rfl|simp[Fv]at e
def Of (A:P.follows .mixedOrders=true){n j:List KI}{s q:S}(h:one P n s=some (j,q))(f:Sym P fn Post j q u m):Sym P fn Post n s u m:=by
 unfold one at h;split at h
 ·rename_i k;cases hn:Fv k with
  |false=>simp[hn]at h
  |true =>
   simp[hn]at h;obtain⟨rfl,rfl⟩:=h;rw[Sym.ofNo hn]at f;exact fun c ρ a w e g=>wp_skip (f c ρ a w e g)
 ·simp at h;obtain⟨rfl,rfl⟩:=h;exact fun c ρ a w e g=>wp_seq (f c ρ a w e g)
 ·simp at h;obtain⟨rfl,rfl⟩:=h;exact fun c ρ a w e g=>wp_block (f c ρ a w e g)
 ·rename_i id k;split at h
  ·rename_i k' hk';cases hn:Fv k' with
   |false=>simp[hn]at h
   |true =>
    simp[hn]at h;obtain⟨rfl,rfl⟩:=h;rw[Sym.ofNo hn]at f;exact fun c ρ a w e g=>wp_exit (K7 hk' (f c ρ a w e g))
  cases h
 ·rename_i x y z k;split at h
  ·rename_i hx;simp at h;obtain⟨rfl,rfl⟩:=h;exact fun c ρ a w e g=>wp_cond_true (by rw[g.eval x (by rw[hx];simp),hx];rfl) (f c ρ a w e g)
  ·rename_i hx;simp at h;obtain⟨rfl,rfl⟩:=h;exact fun c ρ a w e g=>wp_cond_false (by rw[g.eval x (by rw[hx];simp),hx];rfl) (f c ρ a w e g)
  cases h
 ·simp at h;obtain⟨rfl,rfl⟩:=h;exact Sym.reg_seq f
 ·rename_i id ops k;cases hB:Aok ops s (Avq ops) with
  |false=>simp[hB]at h
  |true =>
   simp[hB]at h;obtain⟨rfl,rfl⟩:=h;exact Sym.reg_draw A hB f
 ·rename_i id k;cases hn:Fv k with
  |false=>simp[hn]at h
  |true =>
   simp[hn]at h;obtain⟨rfl,rfl⟩:=h;rw[Sym.ofNo hn]at f;exact fun c ρ a w e g=>f c ρ a w e g
 ·rename_i k;cases hn:Fv k with
  |false=>simp[hn]at h
  |true =>
   simp[hn]at h;obtain⟨rfl,rfl⟩:=h;rw[Sym.ofNo hn]at f;exact .nil f
 ·split at h
  ·rename_i o ho;split at h
   ·rename_i hd;split at h
    ·rename_i hg;split at h
     ·rename_i x hw he;simp at h;obtain⟨rfl,rfl⟩:=h;exact .auto ho hg hd he f
     cases h
    ·rename_i hg;simp at h;obtain⟨rfl,rfl⟩:=h;exact .skip ho hg hd f
    cases h
   cases h
  cases h
 cases h
def Se (e:P.follows .mixedOrders=true){u m:PH}:∀ (n:Nat) (a:List KI×S),Sym P fn Post (run P n a).1 (run P n a).2 u m->Sym P fn Post a.1 a.2 u m
 |0,a,h=>h
 |n+1,a,h=>by
  unfold run at h;split at h
  ·rename_i st' he;obtain⟨f,g⟩:=st';exact Of e he (Se e n _ h)
  exact h
end based
end sound
end
section
variable {a:Act}{args:List Value}{c:Cx}{env:Operand->Value}{f:Nat}{o:Op}{op:BinOp}{s:S}{w:World}{x y:Value}{ρ:Nat->Nat}
variable [Cc]
section based
variable [Cm]
class A5 (P:Program):Prop where
 mx:P.follows .mixedOrders=true
 ti:P.underlying 3=some (.int .i64)
def Ab9 {P:Program}[h:A5 P]{d:TypeId}{x:TypeDesc}(g:P.underlying d=some x)(j:x≠.int .i64):Arq d=false:=by
 unfold Arq;cases e:Nat.beq d 3 with
 |false=>rfl
 |true=>have:=Azp e;subst this;rw[h.ti]at g;cases g;exact absurd rfl j
structure G (P:Program)(fn:Func)(Post:By)(st:List KI×S)(u m:PH):Prop where
 out:Sym P fn Post st.1 st.2 u m
def adv (P:Program)(st:List KI×S):List KI×S:=run P 3000 st
def ctl (P:Program):Nat->List KI×S->List KI×S
 |0,st=>st
 |n+1,st=>cond (Fv st.1) st (match one P st.1 st.2 with|some st'=>ctl P n st'|none=>st)
def nx (st:List KI×S)(v:Value):List KI×S :=
 match st.1 with
 |.reg id ops dr (i::l)::k=>match ops[i]? with
  |some o=>(.reg id ops dr l::k,st.2.put o.dst (.v v))
  |none=>st
 |_=>st
def Od (P:Program)(t:TypeId):Option Nat:=match P.underlying t with|some (.slice e)=>szB P e|_=>none
def My (P:Program)(t:TypeId):Option (TypeId×Nat×Nat×Value) :=
 match P.underlying t with
 |some (.slice e)=>match P.info? e with
  |some i=>match i.zero with|some z=>some (e,i.size,i.bytes,z)|none=>none
  |none=>none
 |_=>none
def Ws (P:Program)(t:TypeId):Option (Option Nat) :=
 match Kw P t with
 |some true=>match szB P t with|some n=>some (some n)|none=>none
 |some false=>some none
 |none=>none
inductive T9 where
 |other
 |bin (op:BinOp) (x y:Value)
 |binT (op:BinOp) (t:Option TypeDesc) (x y:Value)
 |un (op:UnOp) (x:Value)
 |conv (src dst:Option TypeDesc) (x:Value)
 |index (t:Option TypeDesc) (x i:Value)
 |addr (sz:Option Nat) (x i:Value)
 |slice (sz:Option Nat) (x:Value) (lo hi mx:Option Value)
 |load (k:Option (Option Nat)) (a:Value)
 |store (sz:Option Nat) (a v:Value)
 |make (e:Option (TypeId×Nat×Nat×Value)) (l c:Value)
 |call (f:Nat) (args:List Value)
 |app (e:Option (TypeId×Nat×Nat×Value)) (same:Bool) (args:List Value)
 |blt (b:Builtin) (ts:List TypeId) (args:List Value)
 |build (t:TypeId) (parts:List (Nat×Value))
 |buildS (e:Option (TypeId×Nat×Nat×Value)) (n:Nat) (parts:List (Nat×Value))
 |field (t:TypeId) (x:Value) (f:Nat)
 |fieldA (t:TypeId) (x:Value) (f:Nat)
def Bg (P:Program)(env:Operand->Value):Op->T9
 |.binOp op t x y _=>match env x with
  |.int k a=>.bin op (.int k a) (env y)
  |.string a=>.bin op (.string a) (env y)
  |z=>.binT op (P.underlying t) z (env y)
 |.unOp op _ x=>.un op (env x)
 |.convert s d x=>.conv (P.underlying s) (P.underlying d) (env x)
 |.index t x i=>.index (P.underlying t) (env x) (env i)
 |.indexAddr t x i=>.addr (Od P t) (env x) (env i)
 |.slice t x lo hi mx=>.slice (Od P t) (env x) (lo.map env) (hi.map env) (mx.map env)
 |.load t a=>.load (Ws P t) (env a)
 |.store t a v=>.store (szB P t) (env a) (env v)
 |.makeSlice t l c=>.make (My P t) (env l) (env c)
 |.build t ps=>.build t (ps.toList.map fun (i,x)=>(i,env x))
 |.buildSlice t n ps=>.buildS (My P t) n (ps.toList.map fun (i,x)=>(i,env x))
 |.field t x f=>.field t (env x) f
 |.fieldAddr t x f=>.fieldA t (env x) f
 |.call c=>match c.callee with
  |.value f=>match env f with
   |.func (.func n) first cap=>.call n (first.toList++c.args.toList.map env++cap.toList)
   |_=>.other
  |.builtin b=>match b with
   |.append=>match c.argTypes.toList with
    |[t,t']=>.app (My P t) (Nat.beq t t') (c.args.toList.map env)
    |_=>.other
   |b=>.blt b c.argTypes.toList (c.args.toList.map env)
  |_=>.other
 |_=>.other
def Aj (P:Program)(st:List KI×S):T9 :=
 match st.1 with
 |.reg _ ops _ (i::_)::_=>match ops[i]? with
  |some o=>match E1 st.2 o&&(Ka st.2 o.op&&Iu o.op) with
   |true=>match gv st.2 ops o with
    |some true=>Bg P (Cn st.2) o.op
    |_=>.other
   |false=>.other
  |none=>.other
 |_=>.other
def Vx (P:Program)(s:S):ResultVar->Option Value
 |.tmp t=>match s.tm t with|.v x=>some x|_=>none
 |.cell a t=>match s.tm a with
  |.p k off=>match s.hp k with
   |some b=>match ldv P t b.cells off with|some (.v y)=>some y|_=>none
   |none=>none
  |_=>none
def S1 (P:Program)(s:S):List ResultVar->Option (List Value)
 |[]=>some []
 |r::l=>match Vx P s r with
  |some x=>match S1 P s l with|some xs=>some (x::xs)|none=>none
  |none=>none
def Ok:List Value->Value
 |[x]=>x
 |l=>.tuple l.toArray
def Awz (P:Program)(fn:Func)(st:List KI×S):Option Value :=
 match st.1 with
 |.code .ret::_|[]=>match S1 P st.2 fn.results.toList with|some l=>some (Ok l)|none=>none
 |_=>none
end based
section rules
variable {P:Program} [A5 P] {fn:Func} {Post:By} {st:List KI×S} {u m:PH}
section based
variable [Cm]
def G.stp (h:G P fn Post (adv P st) u m):G P fn Post st u m:=⟨Se A5.mx 3000 st h.out⟩
def Li:∀ (n:Nat) (st:List KI×S),Sym P fn Post (ctl P n st).1 (ctl P n st).2 u m->Sym P fn Post st.1 st.2 u m
 |0,st,h=>h
 |n+1,st,h=>by
  unfold ctl at h;cases hn:Fv st.1 with
  |true=>simp[hn]at h;exact h
  |false =>
   simp only[hn,cond_false]at h;split at h
   ·rename_i st' he;obtain⟨e,g⟩:=st';exact Of A5.mx he (Li n _ h)
   exact h
def Eg {V:T9}(h:Aj P st=V)(j:V≠.other):∃ n e g i l k s o,st=(.reg n e g (i::l)::k,s)/\e[i]?=some o/\gv s e o=some true/\E1 s o=true/\Ka s o.op=true/\Iu o.op=true/\Bg P (Cn s) o.op=V /\
 ∀ v,nx st v=(.reg n e g l::k,s.put o.dst (.v v)):=by
 obtain⟨q,s⟩:=st;unfold Aj at h;simp only at h;split at h
 ·rename_i n e g i l k;split at h
  ·rename_i o ho;split at h
   ·rename_i hb;simp only[Azb]at hb;split at h
    ·rename_i hg;exact⟨n,e,g,i,l,k,s,o,rfl,ho,hg,hb.1,hb.2.1,hb.2.2,h,fun v=>by simp[nx,ho]⟩
    exact absurd h.symm j
   exact absurd h.symm j
  exact absurd h.symm j
 exact absurd h.symm j
def Acf {V:T9}(h:Bg P env o=V)(e:V≠.other):Fu o=false:=by
 cases o<;>first|rfl|(simp only[Bg]at h;exact absurd h.symm e)
def G.ask {V:T9}{v:Value}(h:Aj P (adv P st)=V)(n:V≠.other)(B:∀ env (o:Oper),Bg P env o.op=V->∀ w,(Hg o.op=true->E5 u w/\E5 m w)->(execOp env o).run P w=.ok (.value v) w)
 (k:G P fn Post (nx (adv P st) v) u m):G P fn Post st u m:=by
 refine G.stp ?_;obtain⟨H,E,F,i,l,I,s,o,e,A,t,q,D,C,g,j⟩:=Eg h n;have k:=k.out;rw[j]at k;rw[e];exact⟨Ob.ask A t q D C (Acf g n) (fun w hp=>B _ o g w hp) k⟩
def G.big {V:T9}{K:Value->PH->PH->Prop}(h:Aj P (adv P st)=V)(E:V≠.other)(H:∀ env op,Bg P env op=V->Fe op=false)(q:(∀ v n j,K v n j->PH.le m j)\/(∀ env op,Bg P env op=V->M1 op=true))
 (L:∀ env (o:Oper),Bg P env o.op=V->∀ w,Bo u m w->Eb P env o w fun v w'=>∃ n j,Bo n j w'/\Br u m w n j w'/\K v n j)
 (k:∀ v n j,PH.le u n->K v n j->G P fn Post (nx (adv P st) v) n j):G P fn Post st u m:=by
 refine G.stp ?_;obtain⟨T,Q,R,i,l,U,s,o,e,J,I,F,O,N,g,A⟩:=Eg h E;rw[e];refine⟨?_⟩;refine Ob.big (K:=K) J I F O N (H _ _ g) (fun v n j D=>?_) (fun w t=>L _ o g w t) (fun v n j B C=>?_)
 ·rcases q with q|q
  ·exact .inl (q v n j D)
  exact .inr (.inr (.inl (Aly (q _ _ g))))
 have:=(k v n j B C).out;rw[A]at this;exact this
def Ap1 (h:Bg P env o=.bin op x y):∃ t X Y e,o=.binOp op t X Y e/\env X=x/\env Y=y:=by
 cases o<;>simp only[Bg]at h<;>try cases h
 ·split at h
  ·rename_i hx;simp at h;obtain⟨rfl,rfl,rfl⟩:=h;exact⟨_,_,_,_,rfl,hx,rfl⟩
  ·rename_i hx;simp at h;obtain⟨rfl,rfl,rfl⟩:=h;exact⟨_,_,_,_,rfl,hx,rfl⟩
  cases h
 (repeat' split at h)<;>cases h
def Ot {d:Option TypeDesc}(h:Bg P env o=.binT op d x y):∃ t X Y e,o=.binOp op t X Y e/\env X=x/\env Y=y/\P.underlying t=d:=by
 cases o<;>simp only[Bg]at h<;>try cases h
 ·split at h
  ·cases h
  ·cases h
  simp at h;obtain⟨rfl,rfl,rfl,rfl⟩:=h;exact⟨_,_,_,_,rfl,rfl,rfl,rfl⟩
 (repeat' split at h)<;>cases h
def Yo (h:Bg P env o=.call f args):∃ c F first cap,o=.call c/\c.callee=.value F/\env F=.func (.func f) first cap/\args=first.toList++c.args.toList.map env++cap.toList:=by
 cases o<;>simp only[Bg]at h<;>try cases h
 ·split at h<;>cases h
 split at h
 ·rename_i c F hc;split at h
  ·rename_i n first cap he
   simp only[T9.call.injEq]at h;obtain⟨rfl,rfl⟩:=h;exact⟨_,F,first,cap,rfl,hc,he,rfl⟩
  cases h
 ·(repeat' split at h)<;>cases h
 cases h
def G.bin {op:BinOp}{x y:Value}(v:Value)(h:Aj P (adv P st)=.bin op x y)(A:∀ t X Y w,(eqGuard op t X Y x y).run P w=.ok () w)(B:∀ t w,(binOp op t x y).run P w=.ok v w)
 (k:G P fn Post (nx (adv P st) v) u m):G P fn Post st u m:=by
 refine G.ask h mV (fun env o g w _=>?_) k;obtain⟨t,X,Y,D,e,rfl,rfl⟩:=Ap1 g;obtain⟨q,C,n,pos,after,j⟩:=o;simp only at e;subst e;simp[execOp,A,B]
def Cp {k:IntKind}{x y:Int}(t:TypeId)(X Y:Operand)(w:World):(eqGuard op t X Y (.int k x) (.int k y)).run P w=.ok () w:=by
 unfold eqGuard;split<;>simp
def E9 {z:Int}(e:-9223372036854775808<=z)(g:z<=9223372036854775807):IntKind.i64.wrap z=z:=by
 simp only[IntKind.wrap,IntKind.signed,IntKind.bits];simp;omega
def G.add (x y z:Int)(h:Aj P (adv P st)=.bin .add (.int .i64 x) (.int .i64 y))(j:x+y=z)(e:-9223372036854775808<=z)(g:z<=9223372036854775807)
 (k:G P fn Post (nx (adv P st) (.int .i64 z)) u m):G P fn Post st u m :=
 G.bin _ h Cp (fun t w=>by simp[binOp,Op.intArith,j,E9 e g]) k
def G.sub (x y z:Int)(h:Aj P (adv P st)=.bin .sub (.int .i64 x) (.int .i64 y))(j:x-y=z)(e:-9223372036854775808<=z)(g:z<=9223372036854775807)
 (k:G P fn Post (nx (adv P st) (.int .i64 z)) u m):G P fn Post st u m :=
 G.bin _ h Cp (fun t w=>by simp[binOp,Op.intArith,j,E9 e g]) k
def G.mul (x y z:Int)(h:Aj P (adv P st)=.bin .mul (.int .i64 x) (.int .i64 y))(j:x*y=z)(e:-9223372036854775808<=z)(g:z<=9223372036854775807)
 (k:G P fn Post (nx (adv P st) (.int .i64 z)) u m):G P fn Post st u m :=
 G.bin _ h Cp (fun t w=>by simp[binOp,Op.intArith,j,E9 e g]) k
def Cl:BinOp->Int->Int->Bool
 |.eql,x,y=>decide (x=y)
 |.neq,x,y=>decide (x≠y)
 |.lss,x,y=>decide (x<y)
 |.leq,x,y=>decide (x<=y)
 |.gtr,x,y=>decide (x>y)
 |.geq,x,y=>decide (x≥y)
 |_,_,_=>false
def Aui:BinOp->Bool
 |.eql|.neq|.lss|.leq|.gtr|.geq=>true
 |_=>false
def G.cmpG (op:BinOp)(g:IntKind)(x y:Int)(b:Bool)(h:Aj P (adv P st)=.bin op (.int g x) (.int g y))(e:Aui op=true)(j:Cl op x y=b)
 (k:G P fn Post (nx (adv P st) (.bool b)) u m):G P fn Post st u m:=by
 refine G.bin _ h Cp (fun t w=>?_) k;subst j;cases op<;>simp[Aui]at e<;>simp[binOp,Op.intCmp,Cl]
 ·rw[A5h];simp
 rw[A5h];simp
def G.eqlT (x y:Int)(h:Aj P (adv P st)=.bin .eql (.int .i64 x) (.int .i64 y))(e:x=y)(k:G P fn Post (nx (adv P st) (.bool true)) u m):G P fn Post st u m :=
 G.cmpG .eql .i64 x y true h rfl (by simp only[Cl,decide_eq_true_eq];exact e) k
def G.eqlF (x y:Int)(h:Aj P (adv P st)=.bin .eql (.int .i64 x) (.int .i64 y))(e:¬ (x=y))(k:G P fn Post (nx (adv P st) (.bool false)) u m):G P fn Post st u m :=
 G.cmpG .eql .i64 x y false h rfl (by simp only[Cl,decide_eq_false_iff_not];exact e) k
def G.neqT (x y:Int)(h:Aj P (adv P st)=.bin .neq (.int .i64 x) (.int .i64 y))(e:x≠y)(k:G P fn Post (nx (adv P st) (.bool true)) u m):G P fn Post st u m :=
 G.cmpG .neq .i64 x y true h rfl (by simp only[Cl,decide_eq_true_eq];exact e) k
def G.neqF (x y:Int)(h:Aj P (adv P st)=.bin .neq (.int .i64 x) (.int .i64 y))(e:¬ (x≠y))(k:G P fn Post (nx (adv P st) (.bool false)) u m):G P fn Post st u m :=
 G.cmpG .neq .i64 x y false h rfl (by simp only[Cl,decide_eq_false_iff_not];exact e) k
def G.lssT (x y:Int)(h:Aj P (adv P st)=.bin .lss (.int .i64 x) (.int .i64 y))(e:x<y)(k:G P fn Post (nx (adv P st) (.bool true)) u m):G P fn Post st u m :=
 G.cmpG .lss .i64 x y true h rfl (by simp only[Cl,decide_eq_true_eq];exact e) k
def G.lssF (x y:Int)(h:Aj P (adv P st)=.bin .lss (.int .i64 x) (.int .i64 y))(e:¬ (x<y))(k:G P fn Post (nx (adv P st) (.bool false)) u m):G P fn Post st u m :=
 G.cmpG .lss .i64 x y false h rfl (by simp only[Cl,decide_eq_false_iff_not];exact e) k
def G.leqT (x y:Int)(h:Aj P (adv P st)=.bin .leq (.int .i64 x) (.int .i64 y))(e:x<=y)(k:G P fn Post (nx (adv P st) (.bool true)) u m):G P fn Post st u m :=
 G.cmpG .leq .i64 x y true h rfl (by simp only[Cl,decide_eq_true_eq];exact e) k
def G.leqF (x y:Int)(h:Aj P (adv P st)=.bin .leq (.int .i64 x) (.int .i64 y))(e:¬ (x<=y))(k:G P fn Post (nx (adv P st) (.bool false)) u m):G P fn Post st u m :=
 G.cmpG .leq .i64 x y false h rfl (by simp only[Cl,decide_eq_false_iff_not];exact e) k
def G.gtrT (x y:Int)(h:Aj P (adv P st)=.bin .gtr (.int .i64 x) (.int .i64 y))(e:x>y)(k:G P fn Post (nx (adv P st) (.bool true)) u m):G P fn Post st u m :=
 G.cmpG .gtr .i64 x y true h rfl (by simp only[Cl,decide_eq_true_eq];exact e) k
def G.gtrF (x y:Int)(h:Aj P (adv P st)=.bin .gtr (.int .i64 x) (.int .i64 y))(e:¬ (x>y))(k:G P fn Post (nx (adv P st) (.bool false)) u m):G P fn Post st u m :=
 G.cmpG .gtr .i64 x y false h rfl (by simp only[Cl,decide_eq_false_iff_not];exact e) k
def G.geqT (x y:Int)(h:Aj P (adv P st)=.bin .geq (.int .i64 x) (.int .i64 y))(e:x≥y)(k:G P fn Post (nx (adv P st) (.bool true)) u m):G P fn Post st u m :=
 G.cmpG .geq .i64 x y true h rfl (by simp only[Cl,decide_eq_true_eq];exact e) k
def G.geqF (x y:Int)(h:Aj P (adv P st)=.bin .geq (.int .i64 x) (.int .i64 y))(e:¬ (x≥y))(k:G P fn Post (nx (adv P st) (.bool false)) u m):G P fn Post st u m :=
 G.cmpG .geq .i64 x y false h rfl (by simp only[Cl,decide_eq_false_iff_not];exact e) k
def Fn0 (P:Program)(f:FuncId)(args:List Value)(u:PH)(R:Value->PH->Prop):Prop:=Ag P f args u PH.mt (fun v u' m'=>m'=PH.mt/\R v u')
def E5.mt (w:World):E5 PH.mt w:=fun _ _ h=>by cases h
def Bo.noM (h:Bo u m w):Bo u PH.mt w:=⟨h.pu,E5.mt w,fun _=>.inr rfl,h.cl⟩
def Bo.frame {n:PH}{w w':World}(h:Bo u m w)(g:Bo n PH.mt w')(k:Br u PH.mt w n PH.mt w'):Bo n m w'/\Br u m w n m w':=by
 refine⟨⟨g.pu,fun b o j=>?_,fun b=>?_,g.cl⟩,⟨k.sz,fun b j _=>k.old b j rfl,k.us,fun b _ j=>j,k.io,k.dr⟩⟩
 ·rw[k.old b (h.pm.lt j) rfl];exact h.pm b o j
 cases j:m b with
 |none=>exact .inr rfl
 |some o =>
  rw[k.us b (h.pm.lt j)];rcases h.ap b with e|e
  ·exact .inl e
  rw[j]at e;cases e
def He {env:Operand->Value}{o:Oper}{f:Nat}{args:List Value}(j:Bg P env o.op=.call f args)(A:∀ args w,(callFunc f args).run P w=.ok (.enter f args) w)(w:World)(K:Value->World->Prop)
 (h:Calls P f args.toArray w fun e w'=>∃ v,e=.returned v/\K v w'):Eb P env o w K:=by
 obtain⟨c,F,first,cap,e,k,hF,rfl⟩:=Yo j
 obtain⟨q,B,n,pos,after,g⟩:=o;simp only at e;subst e;have:(execOp env ⟨q,.call c,n,pos,after,g⟩).run P w=.ok (.enter f ((first++c.args.map env)++cap)) w:=by
  simp[execOp,resolve,k,hF,Deferred.ofValue,invoke,A]
 unfold Eb;rw[this];simp only;have t:(first.toList++c.args.toList.map env++cap.toList).toArray=(first++c.args.map env)++cap:=by
  apply A2u;simp
 rw[<-t];exact h
def Dd (env:Operand->Value)(op:Op)(h:Bg P env op=.call f args):Fe op=false:=by
 obtain⟨c,F,first,cap,rfl,e,_⟩:=Yo h
 obtain⟨g,a,t⟩:=c;simp only at e;subst e;rfl
def G.call0 (f:Nat)(args:List Value){R:Value->PH->Prop}(h:Aj P (adv P st)=.call f args)(H:∀ args w,(callFunc f args).run P w=.ok (.enter f args) w)(c:Fn0 P f args u R)
 (k:∀ v g,PH.le u g->R v g->G P fn Post (nx (adv P st) v) g m):G P fn Post st u m:=by
 refine G.big (K:=fun v g q=>q=m/\R v g) h mV Dd (.inl fun v g q F=>by rw[F.1];exact PH.le_refl _) (fun env o j w n=>?_) (fun v g q E t=>?_)
 ·refine He j H w _ (Calls.mono (c w n.noM) fun e w' I=>?_);obtain⟨v,g,q,A,B,C,rfl,D⟩:=I;obtain⟨g1,g2⟩:=n.frame B C;exact⟨v,A,g,m,g1,g2,rfl,D⟩
 obtain⟨rfl,t⟩:=t;exact k v g E t
def S.init (n:Nat)(args:List Value):S:={ n:=n,tm:=fun d=>match args[d]? with|some x=>.v x|none=>.junk,hp:=fun _=>none }
def Qf (fn:Func):Code:=match fn.body with|some c=>c|none=>.skip
def st0 (fn:Func)(args:List Value):List KI×S:=([.code (Qf fn)],S.init fn.ntmps args)
end based
def Ag.of {e:Value->PH->PH->Prop}{f:FuncId}(D:P.funcs[f]?=some fn)(q:fn.body.isSome=true)(C:Nat.ble args.length fn.ntmps=true)(h:G P fn ⟨e,m⟩ (st0 fn args) u m):Ag P f args u m e:=by
 intro w A;have C:=A6i C;have t:fn.body=some (Qf fn):=by unfold Qf;cases hc:fn.body with|none=>simp[hc]at q|some c=>rfl
 refine callsIn_wide.1 (callsIn_of_wp_marks (n:=1) D t trivial (wpIn_wide.2 ?_) rfl);have H:Rel ⟨w,u,m⟩ (S.init fn.ntmps args) u m (fun _=>0) { tmps:=args.toArray++Array.replicate (fn.ntmps-args.toArray.size) undef,defers:=[] } w:=by
  refine⟨?_,fun d g=>?_,Ad3.nil _ _ _ _,fun k b q=>?_,fun k j F=>absurd rfl F,⟨fun d k off g=>?_,fun j b k off E=>?_⟩,A,Br.refl _ _ _⟩
  ·simp[S.init];omega
  ·simp only[S.init]at g⊢;split at g
   ·rename_i x hx;have B:d<args.length:=by rcases Ayu.1 hx with ⟨h,_⟩;exact h
    simp only[hx,SV.den];rw[A31 (by simpa using B)];simpa using hx
   exact absurd rfl g
  ·cases q
  ·simp only[S.init]at g;split at g<;>cases g
  cases E
 exact h.out _ _ _ _ rfl H
def Fn0.of {R:Value->PH->Prop}{f:FuncId}{args:List Value}(g:P.funcs[f]?=some fn)(e:fn.body.isSome=true)(j:Nat.ble args.length fn.ntmps=true)(h:G P fn ⟨fun v n k=>k=PH.mt/\R v n,PH.mt⟩ (st0 fn args) u PH.mt):Fn0 P f args u R :=
 Ag.of g e j h
section based
variable [Cm]
def Mg (t:Array Value):ResultVar->Sem Value
 |.tmp d=>pure (t.getD d undef)
 |.cell p ty=>do loadVar ty (<-asAddr (t.getD p undef))
def Xa (e:Rel c s u m ρ a w){r:ResultVar}(h:Vx P s r=some x):(Mg a.tmps r).run P w=.ok x w:=by
 cases r with
 |tmp t =>
  simp only[Vx]at h;split at h
  ·rename_i y hy;simp at h;subst h;have:=e.tm t (by rw[hy];simp);rw[hy]at this;simp[Mg,this,SV.den]
  cases h
 |cell p t =>
  simp only[Vx]at h;split at h
  ·rename_i k off hp;split at h
   ·rename_i b hb;split at h
    ·rename_i y hy;simp at h;subst h;have:=e.tm p (by rw[hp];simp);rw[hp]at this;obtain⟨g,_,_⟩:=Aj4 (P:=P) (w:=w) (e.box k b hb).1 hy;simp[Mg,this,SV.den,asAddr];exact g
    cases h
   cases h
  cases h
def Tt (g:Rel c s u m ρ a w){l:List Value}(h:S1 P s fn.results.toList=some l):(results fn a.tmps).run P w=.ok (Ok l) w:=by
 have key:∀ (rs:List ResultVar) (l:List Value),S1 P s rs=some l->(rs.mapM (Mg a.tmps)).run P w=.ok l w:=by
  intro rs;induction rs with
  |nil=>intro l h;simp[S1]at h;subst h;simp
  |cons r rs ih =>
   intro l h;unfold S1 at h;split at h
   ·rename_i x hx;split at h
    ·rename_i xs hxs;simp at h;subst h;rw[A78];simp only[Sem.run_bind,Xa g hx,Result.andThen_ok,ih xs hxs,Sem.run_pure]
    cases h
   cases h
 have e:results fn a.tmps=(do let vs <-fn.results.mapM (Mg a.tmps);pure (if h:vs.size=1 then vs[0] else .tuple vs)):=by
  unfold results;rfl
 rw[e,<-A35 (xs:=fn.results),A7h];simp only[Sem.run_bind,Sem.run_map,key _ l h,Result.andThen_ok,Sem.run_pure]
 congr 1
 match l with
 |[]=>rfl
 |[x]=>rfl
 |x::y::l=>rfl
end based
def G.ret (v:Value)(h:Awz P fn (adv P st)=some v)(hp:Post.post v u m):G P fn Post st u m:=by
 refine G.stp ?_;generalize adv P st=st' at h;obtain⟨n,s⟩:=st';unfold Awz at h;simp only at h;split at h
 ·rename_i k;split at h
  ·rename_i l hl;simp at h;subst h;refine⟨?_⟩;intro c ρ a w g j;exact wp_ret (Jp (j.ends fun w' e=>⟨Tt (a:=⟨a.tmps,[]⟩) e hl,_,_,_,rfl,e.gd,e.gr,hp⟩).1 _)
  cases h
 ·split at h
  ·rename_i l hl;simp at h;subst h;refine⟨?_⟩;intro c ρ a w g j;exact (j.ends fun w' e=>⟨Tt (a:=⟨a.tmps,[]⟩) e hl,_,_,_,rfl,e.gd,e.gr,hp⟩).2
  cases h
 cases h
end rules
end
section
variable {B:List (Nat×Blk)}{T:List (Nat×SV)}
variable [Cc] [Cm]
def Aj7 (d:Nat):List (Nat×SV)->SV
 |[]=>.junk
 |(e,x)::l=>cond (Nat.beq d e) x (Aj7 d l)
def Wk (d:Nat):List (Nat×Blk)->Option Blk
 |[]=>none
 |(e,x)::l=>cond (Nat.beq d e) (some x) (Wk d l)
def S.of (n:Nat)(T:List (Nat×SV))(B:List (Nat×Blk)):S:={ n:=n,tm:=fun d=>Aj7 d T,hp:=fun k=>Wk k B }
def Anm (B:List (Nat×Blk)):SV->Bool
 |.p k _=>B.any fun q=>Nat.beq q.1 k
 |_=>true
def T1 (T:List (Nat×SV))(B:List (Nat×Blk)):Bool:=T.all (fun p=>Anm B p.2)&&B.all (fun q=>q.2.cells.all (Anm B))
structure Cov (N:Nat)(s:S)(T:List (Nat×SV))(B:List (Nat×Blk)):Prop where
 n:s.n=N
 t:T.map (fun p=>s.tm p.1)=T.map (·.2)
 b:B.map (fun p=>s.hp p.1)=B.map (fun p=>some p.2)
def S9 {d:Nat}{x:SV}:∀ {T:List (Nat×SV)},Aj7 d T=x->x≠.junk->(d,x)∈T
 |[],h,hx=>absurd h.symm hx
 |(e,y)::l,h,hx=>by
  unfold Aj7 at h;cases hb:Nat.beq d e with
  |true=>simp[hb]at h;have:=Azp hb;subst this;subst h;simp
  |false=>simp[hb]at h;exact Azq _ (S9 h hx)
def O2 {d:Nat}{x:Blk}:∀ {B:List (Nat×Blk)},Wk d B=some x->(d,x)∈B
 |[],h=>by cases h
 |(e,y)::l,h=>by
  unfold Wk at h;cases hb:Nat.beq d e with
  |true=>simp[hb]at h;have:=Azp hb;subst this;subst h;simp
  |false=>simp[hb]at h;exact Azq _ (O2 h)
def Mi {k:Nat}:∀ {B:List (Nat×Blk)},B.any (fun q=>Nat.beq q.1 k)=true->Wk k B≠none
 |[],h=>by simp at h
 |(e,y)::l,h=>by
  unfold Wk;cases hb:Nat.beq k e with
  |true=>simp
  |false =>
   simp only[cond_false];refine Mi ?_;simp only[List.any_cons,A1z]at h;rcases h with h|h
   ·have:=Azp h;subst this;simp at hb
   exact h
def As0 {n:Nat}(h:T1 T B=true):M6 (S.of n T B):=by
 unfold T1 at h;simp only[Azb,Azg]at h;refine⟨fun d k off a=>?_,fun j b k off e f=>?_⟩
 ·have:=h.1 _ (S9 a mV);exact Mi this
 have:=h.2 _ (O2 e) _ f;exact Mi this
def Rel.cov {c:Cx}{s:S}{u m:PH}{ρ:Nat->Nat}{a:Act}{w:World}(h:Rel c s u m ρ a w){N:Nat}(f:Cov N s T B)(E:T1 T B=true):Rel c (S.of N T B) u m ρ a w:=by
 have F:∀ d x,(d,x)∈T->s.tm d=x:=by
  intro d x g;have:=f.t;rw[List.map_inj_left]at this;exact this _ g
 have A:∀ d x,(d,x)∈B->s.hp d=some x:=by
  intro d x g;have:=f.b;rw[List.map_inj_left]at this;exact this _ g
 refine⟨h.sz.trans f.n,fun d C=>?_,h.df,fun k b e=>h.box k b (A k b (O2 e)),fun k j e D=>?_,As0 E,h.gd,h.gr⟩
 ·have:=F d _ (S9 rfl C);have y:=h.tm d (by rw[this];exact C);rw[this]at y;exact y
 have q:∀ k,(S.of N T B).hp k≠none->s.hp k≠none:=by
  intro k e;cases hq:Wk k B with
  |none=>exact absurd hq e
  |some b=>rw[A k b (O2 hq)];simp
 exact h.inj k j (q k e) (q j D)
def Apb (st:List KI×S):Bool:=match st.1 with|.code (.loop _)::_=>true|_=>false
def Apz (st:List KI×S)(J:S->PH->PH->Prop)(T:List (Nat×SV))(B:List (Nat×Blk)):List KI×S:=match st.1 with
 |.code (.loop c)::k=>(.code c::.lp J::k,S.of st.2.n T B)
 |_=>st
def Avx:List KI->Option (S->PH->PH->Prop)
 |.lp J::_=>some J
 |_=>none
section rules
variable {P:Program} [A5 P] {fn:Func} {Post:By} {st:List KI×S} {u m:PH}
def G.back {J:S->PH->PH->Prop}(h:Avx (adv P st).1=some J)(e:J (adv P st).2 u m):G P fn Post st u m:=by
 refine G.stp ?_;generalize adv P st=st' at h e;obtain⟨j,s⟩:=st'
 match j,h with
 |.lp J'::k,h =>
  simp only[Avx,Ayz]at h;subst h;exact⟨fun c ρ a w f g=>⟨s,u,m,ρ,g,e⟩⟩
def G.loop {ι:Type}(T:ι->List (Nat×SV))(B:ι->List (Nat×Blk))(q:ι->PH->PH->Prop)(μ:ι->Nat)(t:ι)(h:Apb (adv P st)=true)(K:∀ i,T1 (T i) (B i)=true)(h0:Cov (adv P st).2.n (adv P st).2 (T t) (B t))(R:q t u m)
 (I:∀ (J:S->PH->PH->Prop) (i:ι),(∀ g y f j,Cov (adv P st).2.n y (T g) (B g)->PH.le u f->q g f j->μ g < μ i->J y f j)->∀ f j,PH.le u f->q i f j->G P fn Post (Apz (adv P st) J (T i) (B i)) f j):G P fn Post st u m:=by
 refine G.stp ?_;generalize adv P st=st' at h h0 I;obtain⟨V,s⟩:=st'
 match V,h with
 |.code (.loop x)::k,_ =>
  refine⟨?_⟩;intro c ρ a w A U;show (Code.loop x).wp P (Fy P fn Post c k) a w;refine wp_loop_ghost (fun n a w=>∃ i f j H,Rel c (S.of s.n (T i) (B i)) f j H a w/\PH.le u f/\q i f j/\μ i=n) (μ t) ⟨t,u,m,ρ,U.cov h0 (K t),PH.le_refl _,R,rfl⟩ ?_;rintro n a w ⟨i,f,j,H,N,O,Q,rfl⟩;have:=(I (fun y f j=>∃ g,Cov s.n y (T g) (B g)/\PH.le u f/\q g f j/\μ g < μ i) i (fun g y f j C D E F=>⟨g,C,D,E,F⟩) f j O Q).out c H a w A N;refine wp_mono this fun e a w L=>?_;cases e with
  |normal =>
   obtain⟨y,Y,W,Z,X,g,C,D,E,F⟩:=L;exact⟨_,F,g,Y,W,Z,X.cov C (K g),D,E,rfl⟩
  |_=>exact L
end rules
end
section
variable [Cc] [Cm]
variable {P:Program} [A5 P] {fn:Func} {Post:By} {st:List KI×S} {u m:PH}
def cV {N:Nat}{s:S}{T:List (Nat×SV)}{B:List (Nat×Blk)}(a:s.n=N:=by kernel_rfl)(b:T.map (fun p=>s.tm p.1)=T.map (·.2):=by kernel_rfl)(c:B.map (fun p=>s.hp p.1)=B.map (fun p=>some p.2):=by kernel_rfl):Cov N s T B:=⟨a,b,c⟩
def G.c {f:Nat}{args:List Value}{R:Value->PH->Prop}(hc:∀ args w,(callFunc f args).run P w=.ok (.enter f args) w)(c:Fn0 P f args u R)(k:∀ v u',PH.le u u'->R v u'->G P fn Post (nx (adv P st) v) u' m)(h:Aj P (adv P st)=.call f args:=by kernel_rfl):G P fn Post st u m:=G.call0 f args h hc c k
def G.eT (x y:Int)(k:G P fn Post (nx (adv P st) (.bool true)) u m)(h:Aj P (adv P st)=.bin .eql (.int .i64 x) (.int .i64 y):=by kernel_rfl)(hb:x=y:=by omega):G P fn Post st u m:=G.eqlT x y h hb k
def G.eF (x y:Int)(k:G P fn Post (nx (adv P st) (.bool false)) u m)(h:Aj P (adv P st)=.bin .eql (.int .i64 x) (.int .i64 y):=by kernel_rfl)(hb:¬ (x=y):=by omega):G P fn Post st u m:=G.eqlF x y h hb k
def G.nT (x y:Int)(k:G P fn Post (nx (adv P st) (.bool true)) u m)(h:Aj P (adv P st)=.bin .neq (.int .i64 x) (.int .i64 y):=by kernel_rfl)(hb:x≠y:=by omega):G P fn Post st u m:=G.neqT x y h hb k
def G.nF (x y:Int)(k:G P fn Post (nx (adv P st) (.bool false)) u m)(h:Aj P (adv P st)=.bin .neq (.int .i64 x) (.int .i64 y):=by kernel_rfl)(hb:¬ (x≠y):=by omega):G P fn Post st u m:=G.neqF x y h hb k
def G.lT (x y:Int)(k:G P fn Post (nx (adv P st) (.bool true)) u m)(h:Aj P (adv P st)=.bin .lss (.int .i64 x) (.int .i64 y):=by kernel_rfl)(hb:x<y:=by omega):G P fn Post st u m:=G.lssT x y h hb k
def G.lF (x y:Int)(k:G P fn Post (nx (adv P st) (.bool false)) u m)(h:Aj P (adv P st)=.bin .lss (.int .i64 x) (.int .i64 y):=by kernel_rfl)(hb:¬ (x<y):=by omega):G P fn Post st u m:=G.lssF x y h hb k
def G.kT (x y:Int)(k:G P fn Post (nx (adv P st) (.bool true)) u m)(h:Aj P (adv P st)=.bin .leq (.int .i64 x) (.int .i64 y):=by kernel_rfl)(hb:x<=y:=by omega):G P fn Post st u m:=G.leqT x y h hb k
def G.kF (x y:Int)(k:G P fn Post (nx (adv P st) (.bool false)) u m)(h:Aj P (adv P st)=.bin .leq (.int .i64 x) (.int .i64 y):=by kernel_rfl)(hb:¬ (x<=y):=by omega):G P fn Post st u m:=G.leqF x y h hb k
def G.gT (x y:Int)(k:G P fn Post (nx (adv P st) (.bool true)) u m)(h:Aj P (adv P st)=.bin .gtr (.int .i64 x) (.int .i64 y):=by kernel_rfl)(hb:x>y:=by omega):G P fn Post st u m:=G.gtrT x y h hb k
def G.gF (x y:Int)(k:G P fn Post (nx (adv P st) (.bool false)) u m)(h:Aj P (adv P st)=.bin .gtr (.int .i64 x) (.int .i64 y):=by kernel_rfl)(hb:¬ (x>y):=by omega):G P fn Post st u m:=G.gtrF x y h hb k
def G.hT (x y:Int)(k:G P fn Post (nx (adv P st) (.bool true)) u m)(h:Aj P (adv P st)=.bin .geq (.int .i64 x) (.int .i64 y):=by kernel_rfl)(hb:x≥y:=by omega):G P fn Post st u m:=G.geqT x y h hb k
def G.hF (x y:Int)(k:G P fn Post (nx (adv P st) (.bool false)) u m)(h:Aj P (adv P st)=.bin .geq (.int .i64 x) (.int .i64 y):=by kernel_rfl)(hb:¬ (x≥y):=by omega):G P fn Post st u m:=G.geqF x y h hb k
def G.eT' (x y:Int)(hb:x=y)(k:G P fn Post (nx (adv P st) (.bool true)) u m)(h:Aj P (adv P st)=.bin .eql (.int .i64 x) (.int .i64 y):=by kernel_rfl):G P fn Post st u m:=G.eqlT x y h hb k
def G.eF' (x y:Int)(hb:¬ (x=y))(k:G P fn Post (nx (adv P st) (.bool false)) u m)(h:Aj P (adv P st)=.bin .eql (.int .i64 x) (.int .i64 y):=by kernel_rfl):G P fn Post st u m:=G.eqlF x y h hb k
def G.nT' (x y:Int)(hb:x≠y)(k:G P fn Post (nx (adv P st) (.bool true)) u m)(h:Aj P (adv P st)=.bin .neq (.int .i64 x) (.int .i64 y):=by kernel_rfl):G P fn Post st u m:=G.neqT x y h hb k
def G.nF' (x y:Int)(hb:¬ (x≠y))(k:G P fn Post (nx (adv P st) (.bool false)) u m)(h:Aj P (adv P st)=.bin .neq (.int .i64 x) (.int .i64 y):=by kernel_rfl):G P fn Post st u m:=G.neqF x y h hb k
def G.lT' (x y:Int)(hb:x<y)(k:G P fn Post (nx (adv P st) (.bool true)) u m)(h:Aj P (adv P st)=.bin .lss (.int .i64 x) (.int .i64 y):=by kernel_rfl):G P fn Post st u m:=G.lssT x y h hb k
def G.lF' (x y:Int)(hb:¬ (x<y))(k:G P fn Post (nx (adv P st) (.bool false)) u m)(h:Aj P (adv P st)=.bin .lss (.int .i64 x) (.int .i64 y):=by kernel_rfl):G P fn Post st u m:=G.lssF x y h hb k
def G.kT' (x y:Int)(hb:x<=y)(k:G P fn Post (nx (adv P st) (.bool true)) u m)(h:Aj P (adv P st)=.bin .leq (.int .i64 x) (.int .i64 y):=by kernel_rfl):G P fn Post st u m:=G.leqT x y h hb k
def G.kF' (x y:Int)(hb:¬ (x<=y))(k:G P fn Post (nx (adv P st) (.bool false)) u m)(h:Aj P (adv P st)=.bin .leq (.int .i64 x) (.int .i64 y):=by kernel_rfl):G P fn Post st u m:=G.leqF x y h hb k
def G.gT' (x y:Int)(hb:x>y)(k:G P fn Post (nx (adv P st) (.bool true)) u m)(h:Aj P (adv P st)=.bin .gtr (.int .i64 x) (.int .i64 y):=by kernel_rfl):G P fn Post st u m:=G.gtrT x y h hb k
def G.gF' (x y:Int)(hb:¬ (x>y))(k:G P fn Post (nx (adv P st) (.bool false)) u m)(h:Aj P (adv P st)=.bin .gtr (.int .i64 x) (.int .i64 y):=by kernel_rfl):G P fn Post st u m:=G.gtrF x y h hb k
def G.hT' (x y:Int)(hb:x≥y)(k:G P fn Post (nx (adv P st) (.bool true)) u m)(h:Aj P (adv P st)=.bin .geq (.int .i64 x) (.int .i64 y):=by kernel_rfl):G P fn Post st u m:=G.geqT x y h hb k
def G.hF' (x y:Int)(hb:¬ (x≥y))(k:G P fn Post (nx (adv P st) (.bool false)) u m)(h:Aj P (adv P st)=.bin .geq (.int .i64 x) (.int .i64 y):=by kernel_rfl):G P fn Post st u m:=G.geqF x y h hb k
def G.i (i:Nat)(k:G P fn Post (nx (adv P st) (.int .i64 ((i+1:Nat):Int))) u m)(h:Aj P (adv P st)=.bin .add (.int .i64 (i:Int)) (.int .i64 1):=by kernel_rfl)(h2:((i+1:Nat):Int)<=9223372036854775807:=by omega):G P fn Post st u m:=G.add (i:Int) 1 ((i+1:Nat):Int) h (by omega) (by omega) h2 k
def G.p (x y z:Int)(k:G P fn Post (nx (adv P st) (.int .i64 z)) u m)(h:Aj P (adv P st)=.bin .add (.int .i64 x) (.int .i64 y):=by kernel_rfl)(hz:x+y=z:=by omega)(h1:-9223372036854775808<=z:=by omega)(h2:z<=9223372036854775807:=by omega):G P fn Post st u m:=G.add x y z h hz h1 h2 k
def G.s (x y z:Int)(k:G P fn Post (nx (adv P st) (.int .i64 z)) u m)(h:Aj P (adv P st)=.bin .sub (.int .i64 x) (.int .i64 y):=by kernel_rfl)(hz:x-y=z:=by omega)(h1:-9223372036854775808<=z:=by omega)(h2:z<=9223372036854775807:=by omega):G P fn Post st u m:=G.sub x y z h hz h1 h2 k
def G.b {J:S->PH->PH->Prop}(hj:J (adv P st).2 u m)(h:Avx (adv P st).1=some J:=by kernel_rfl):G P fn Post st u m:=G.back h hj
def G.l {ι:Type}(T:ι->List (Nat×SV))(B:ι->List (Nat×Blk))(Inv:ι->PH->PH->Prop)(μ:ι->Nat)(i0:ι)(hI:Inv i0 u m)
    (hR:∀ (J:S->PH->PH->Prop) (i:ι),(∀ i' s' u' m',Cov (adv P st).2.n s' (T i') (B i')->PH.le u u'->Inv i' u' m'->μ i' < μ i->J s' u' m')->∀ u' m',PH.le u u'->Inv i u' m'->G P fn Post (Apz (adv P st) J (T i) (B i)) u' m') (h:Apb (adv P st)=true:=by kernel_rfl) (hl:∀ i,T1 (T i) (B i)=true:=by exact fun _=>by kernel_rfl) (h0:Cov (adv P st).2.n (adv P st).2 (T i0) (B i0):=by exact cV):G P fn Post st u m:=G.loop T B Inv μ i0 h hl h0 hI hR
end
section
variable [Cc]
variable {P:Program} [A5 P] {fn:Func} {Post:By} {st:List KI×S} {u m:PH}
def G.r (v:Value)(hp:Post.post v u m)(h:Awz P fn (adv P st)=some v:=by kernel_rfl):G P fn Post st u m:=G.ret v h hp
def Fn0.o {R:Value->PH->Prop}{f:FuncId}{args:List Value}(hf:P.funcs[f]?=some fn)(h:G P fn ⟨fun v u' m'=>m'=PH.mt/\R v u',PH.mt⟩ (st0 fn args) u PH.mt)(hb:fn.body.isSome=true:=by kernel_rfl)(hn:Nat.ble args.length fn.ntmps=true:=by kernel_rfl):Fn0 P f args u R:=Fn0.of hf hb hn h
def Ag.o {PostV:Value->PH->PH->Prop}{f:FuncId}{args:List Value}(hf:P.funcs[f]?=some fn)(h:G P fn ⟨PostV,m⟩ (st0 fn args) u m)(hb:fn.body.isSome=true:=by kernel_rfl)(hn:Nat.ble args.length fn.ntmps=true:=by kernel_rfl):Ag P f args u m PostV:=Ag.of hf hb hn h
end
section
variable {a:Option Addr}{cs:List Value}{w:World}
def Ext (w w':World):Prop:=Below w.heap.size w w'
def Ext.refl (w:World):Ext w w:=Below.refl _ _
def Ext.trans {a b c:World}(h:Ext a b)(k:Ext b c):Ext a c:=Below.trans h (Below.mono k h.size)
def Ext.alloc {a w:World}(h:Ext a w)(o:Obj):Ext a (w.alloc o):=Below.alloc h h.size o
def Ext.drew {a w:World}(h:Ext a w):Ext a w.drew:=Below.drew h
def Ext.cell {w w':World}(h:Ext w w'){p:Addr}{v:Value}(hp:w.cell? p=some v):w'.cell? p=some v:=by
 rw[Below.cell h (block_lt_of_cell hp)];exact hp
def Ext.size {w w':World}(h:Ext w w'):w.heap.size<=w'.heap.size:=Below.size h
def Ext.setCell {a w:World}(h:Ext a w){p:Addr}(hp:a.heap.size<=p.block)(u:Value):Ext a (w.setCell p u):=Below.setCell h hp u
def Ext.grown {a w w':World}{row:Option Nat}(h:Ext a w)(e:w.grownBy w' row)(f:∀ k,row=some k->a.heap.size<=k):Ext a w' :=
 Below.grown h e h.size f
def Row (w:World)(a:Option Addr)(cs:List Value):Prop :=
 ∀ j,j<cs.length->∃ b off,a=some ⟨b,off,none⟩/\w.cell? ⟨b,off+j,none⟩=some (cs.getD j (.bool false))
def Row.ext {w w':World}(h:Row w a cs)(x:Ext w w'):Row w' a cs:=by
 intro j g;obtain⟨b,off,e,f⟩:=h j g;exact⟨b,off,e,x.cell f⟩
def Row.nil (w:World)(a:Option Addr):Row w a []:=fun j e=>absurd e mV
def Row.take (h:Row w a cs)(k:Nat):Row w a (cs.take k):=by
 intro j g;rw[Ay1]at g;obtain⟨b,off,e,f⟩:=h j oV;refine⟨b,off,e,?_⟩;rw[f,Ays,Ays,A1x,if_pos oV]
def Row.of_owns {w:World}{base:Nat}{e:TypeId}{size:Nat}{g n cap:Nat}{xs:List Value}
 (h:w.ownsRow base e size (.slice (some ⟨g,0,none⟩) n cap) n xs):Row w (some ⟨g,0,none⟩) xs:=by
 intro j f;refine⟨g,0,rfl,?_⟩;rw[h.1]at f;have:=h.cellAt j f;rw[A0h,this,Ays];have k:j<xs.length:=by rw[h.1];exact f
 rw[Ayr k];rfl
def Be (l:List Nat):List Value:=l.map fun (n:Nat)=>Value.int .u64 (n:Int)
@[simp] theorem Tw (l:List Nat):(Be l).length=l.length:=by simp[Be]
def Row.at {l:List Nat}(h:Row w a (Be l)){j:Nat}(e:j<l.length) :
 ∃ b off,a=some ⟨b,off,none⟩/\w.cell? ⟨b,off+j,none⟩=some (.int .u64 (l.getD j 0:Nat)):=by
 obtain⟨b,off,f,g⟩:=h j (by simpa[Be] using e);exact⟨b,off,f,by rw[g];simp[Be,e]⟩
def V9 (l:List Nat)(j n:Nat):(Be l).set j (.int .u64 (n:Int))=Be (l.set j n):=by simp[Be,A1d]
def Zb (l:List Nat)(k:Nat):(Be l).take k=Be (l.take k):=by simp[Be,A4l]
def Afw (n:Nat):List.replicate n (Value.int .u64 0)=Be (List.replicate n 0):=by simp[Be]
def Wr (w:World)(v:Value)(l:List Nat):Prop:=∃ a cap,v=.slice a l.length cap/\l.length<=cap/\Row w a (Be l)
def Cu (w:World)(v:Value)(n:Nat):Prop:=Wr w v (Aa n)
def Wr.ext {w w':World}{v:Value}{l:List Nat}(h:Wr w v l)(x:Ext w w'):Wr w' v l:=by
 obtain⟨a,cap,e,f,g⟩:=h;exact⟨a,cap,e,f,g.ext x⟩
def Cu.ext {w w':World}{v:Value}{n:Nat}(h:Cu w v n)(x:Ext w w'):Cu w' v n:=Wr.ext h x
def Cu.zero (w:World)(a:Option Addr)(cap:Nat):Cu w (.slice a 0 cap) 0:=by
 refine⟨a,cap,by rw[Bd];rfl,by rw[Bd];simp,?_⟩;rw[Bd];simp[Be];exact Row.nil _ _
end
def Z0 {a:Option Addr}{m n c:Nat}(h:m=n):Ending.returned (.slice a m c)=.returned (.slice a n c):=by rw[h]
def Arn {k:IntKind}{a b:Int}(h:a=b):Ending.returned (.int k a)=.returned (.int k b):=by rw[h]
def Aog (a:Option Addr)(cap:Nat)(l:List Nat)(w:World)(t:l.length<=9223372036854775807)(q:l.length<=cap)
 (m:Row w a (Be l)) :
 Calls prog 188 #[.slice a l.length cap] w fun e w'=>e=.returned (.slice a (Bv l l.length) cap)/\w=w':=by
 have y:=Lib.hid m;clear m
 go_enter func188,ntmps188
 go_wp2
 go_loop [3] (fun n=>∃ k:Nat,k<=l.length/\n=.int .i64 k/\Bv l l.length=Bv l k) (fun n=>(intOf n).toNat)
 case atStart=>exact⟨l.length,oV,rfl,rfl⟩
 case round =>
  obtain⟨k,C,rfl,u⟩:=hrel;have f:=Lib.hid u;clear u;rcases k with _|k
  ·go_wp2
   go_ret
   exact⟨Z0 (by rw[f.out];rfl),rfl⟩
  obtain⟨b,off,rfl,A⟩:=y.out.at (j:=k) oV;obtain⟨x,g⟩:∃ x,x=l.getD k 0:=⟨_,rfl⟩;rw[<-g]at A;have h:=Lib.hid g;clear g;by_cases h0:x=0
  ·subst h0
   go_wp2
   go_round
   case rel=>exact⟨k,oV,rfl,by rw[f.out];simp only[Bv,<-h.out,if_true]⟩
   case measure=>simp[intOf]
  have B:((x:Int)==0)=false:=gV
  go_wp2
  go_ret
  exact⟨Z0 (by rw[f.out];simp only[Bv,<-h.out,if_neg h0]),rfl⟩
def Xe (a:Option Addr)(cap:Nat)(l:List Nat)(i:Int)(w:World)(m:l.length<=9223372036854775807)(hi:0<=i)
 (h:Row w a (Be l)) :
 Calls prog 222 #[.slice a l.length cap,.int .i64 i] w fun e w'=>e=.returned (.int .u64 (l.getD i.toNat 0:Nat))/\w=w':=by
 obtain⟨k,rfl⟩:=A4h hi;rw[A0y];have g:=Lib.hid h;clear h;by_cases q:k<l.length
 ·obtain⟨b,off,rfl,f⟩:=g.out.at (j:=k) q;obtain⟨x,n⟩:∃ x,x=l.getD k 0:=⟨_,rfl⟩;rw[<-n]at f⊢;clear g n
  go_enter func222,ntmps222
  go_wp2
  go_ret
  exact⟨rfl,rfl⟩
 have f:l.getD k 0=0:=by
  have:l[k]?=none:=Azo oV;simp[this]
 rw[f];clear g f
 go_enter func222,ntmps222
 go_wp2
 go_ret
 exact⟨rfl,rfl⟩
def sgn (n:Int):Int:=if n<0 then -1 else if 0<n then 1 else 0
def Aoz (n:Int)(w:World) :
 Calls prog 223 #[.int .i64 n] w fun e w'=>e=.returned (.int .i64 (sgn n))/\w=w':=by
 rcases A2s n 0 with h|h|h
 ·have a:sgn n = -1:=by simp[sgn,h]
  rw[a];clear a
  go_enter func223,ntmps223
  go_wp2
  go_ret
  exact⟨rfl,rfl⟩
 ·subst h
  go_enter func223,ntmps223
  go_wp2
  go_ret
  exact⟨rfl,rfl⟩
 have a:sgn n=1:=by simp[sgn,h];omega
 rw[a];clear a;have f:¬ n<0:=oV
 go_enter func223,ntmps223
 go_wp2
 go_ret
 exact⟨rfl,rfl⟩
def Gr (a:Option Addr)(cap n:Nat)(l:List Nat)(w:World)(j:l.length=n)(g:n<=9223372036854775807)(f:n<=cap)
 (h:Row w a (Be l)) :
 Calls prog 188 #[.slice a n cap] w fun e w'=>e=.returned (.slice a (Bv l l.length) cap)/\w=w':=by
 subst j;exact Aog a cap l w g f h
section
variable {a b o ys:List Nat}{c d i k r x y:Nat}
def Hz (p t:Nat):p*(t%1000000000)+p*1000000000*(t/1000000000)=p*t:=by
 rw[Az4,<-A0g,Nat.mod_add_div]
structure Lm (a b:List Nat)(k:Nat)(ys:List Nat)(c:Nat):Prop where
 len:ys.length=k
 low:Low ys
 carry:c<=1
 sum:val ys+1000000000^k*c=val (a.take k)+val (b.take k)
def Lm.start (a b:List Nat):Lm a b 0 [] 0:=⟨rfl,Low.nil,oV,by simp[val]⟩
def Lm.step (h:Lm a b k ys c)(m:Low a)(n:Low b)(e:x=a.getD k 0)(f:y=b.getD k 0) :
 Lm a b (k+1) (ys++[(x+y+c)%1000000000]) ((x+y+c)/1000000000):=by
 have g:=m.getD k;have j:=n.getD k;have q:=h.carry;rw[<-e]at g;rw[<-f]at j;refine⟨by simp[h.len],h.low.append (Low.cons oV Low.nil),oV,?_⟩;rw[Jk,A9,A9,h.len,<-e,<-f,A0d,A1l,Hz];have:=h.sum;rw[A0g,A0g];omega
def Lm.done (h:Lm a b (max a.length b.length+1) ys c)(n:Low a)(q:Low b):val ys=val a+val b:=by
 have e:=h.sum;rw[Ay6 oV,Ay6 oV]at e;have f:=K5 n;have g:=K5 q;have j:1000000000^a.length<=1000000000^max a.length b.length:=Azr oV oV;have m:1000000000^b.length<=1000000000^max a.length b.length:=Azr oV oV;rw[A0d]at e;have u:=A0k f j;have A:=A0k g m;have t:=h.carry;clear f g j m h;generalize 1000000000^max a.length b.length=p at *
 rcases Azx c with h0|h0
 ·subst h0;rw[A1y,A1r]at e;exact e
 have f:c=1:=A6q t h0;subst f;rw[A38]at e;omega
structure Ld (a b:List Nat)(k:Nat)(ys:List Nat)(c:Nat):Prop where
 len:ys.length=k
 low:Low ys
 carry:c<=1
 sum:val ys+val (b.take k)=val (a.take k)+1000000000^k*c
def Ld.start (a b:List Nat):Ld a b 0 [] 0:=⟨rfl,Low.nil,oV,by simp[val]⟩
def Ld.step (h:Ld a b k ys c)(n:Low a)(q:Low b)(e:x=a.getD k 0)(f:y=b.getD k 0) :
 Ld a b (k+1) (ys++[(x+1000000000-y-c)%1000000000]) (1-(x+1000000000-y-c)/1000000000):=by
 have j:=n.getD k;have m:=q.getD k;have B:=h.carry;rw[<-e]at j;rw[<-f]at m;refine⟨by simp[h.len],h.low.append (Low.cons oV Low.nil),oV,?_⟩;rw[Jk,A9,A9,h.len,<-e,<-f,A0d];have C:=h.sum;generalize 1000000000^k=p at *
 obtain⟨t,u⟩:∃ t,t=x+1000000000-y-c:=⟨_,rfl⟩;rw[<-u];have g:t%1000000000+y+c=x+1000000000*(1-t/1000000000):=oV
 have A:p*(t%1000000000)+p*y+p*c=p*x+p*1000000000*(1-t/1000000000):=by
  rw[Az4,<-A0g,<-A0g,<-A0g,g]
 omega
def Ld.done (h:Ld a b a.length ys c)(g:b.length<=a.length)(j:val b<=val a):val ys=val a-val b:=by
 have e:=h.sum;rw[Ay6 (Ay2 _),Ay6 g]at e;have f:=K5 h.low;rw[h.len]at f;rcases Azx c with h0|h0
 ·subst h0;simp at e;omega
 have:1000000000^a.length*1<=1000000000^a.length*c:=A0n _ h0;omega
def Gi (l:List Nat)(k:Nat)(e:k<=l.length):val l=val (l.take k)+1000000000^k*val (l.drop k):=by
 have:=P5 (l.take k) (l.drop k);rw[A2i,Ay1,A2b e]at this;exact this
def Cj (l:List Nat)(k:Nat)(e:k<l.length):l.drop k=l.getD k 0::l.drop (k+1):=by
 rw[A3l e];simp[e]
def G5 {a b:List Nat}{k:Nat}(n:a.length=b.length)(m:k<a.length)(g:Low a)(j:a.drop (k+1)=b.drop (k+1))
 (h:a.getD k 0<b.getD k 0):val a<val b:=by
 rw[Gi a k oV,Gi b k oV,Cj a k m,Cj b k oV,j];simp only[val];have f:=K5 (g.take k);rw[Ay1,A2b oV]at f;generalize 1000000000^k=p at *
 generalize val (List.drop (k+1) b)=q;have:p*(a.getD k 0+1+1000000000*q)<=p*(b.getD k 0+1000000000*q):=A0n _ oV;have e:p*(a.getD k 0+1+1000000000*q)=p*(a.getD k 0+1000000000*q)+p:=by
  rw[show a.getD k 0+1+1000000000*q=(a.getD k 0+1000000000*q)+1 by omega,A0g,A38]
 omega
def Ku {m n:Nat}(h:nl m<nl n):m<n:=by
 rcases Az8 m n with e|e
 ·exact e
 have:=Cs e;omega
structure Gk (a b:List Nat)(i k:Nat)(o:List Nat)(c:Nat):Prop where
 len:o.length=a.length+b.length
 low:Low o
 carry:c<1000000000
 sum:val o+1000000000^(i+k)*c=val (a.take i)*val b+1000000000^i*(a.getD i 0*val (b.take k))
 high:∀ j,i+b.length<=j->o.getD j 0=0
def Ajb (l:List Nat)(j d:Nat)(e:j<l.length):val (l.set j d)+1000000000^j*l.getD j 0=val l+1000000000^j*d:=by
 induction l generalizing j with
 |nil=>simp at e
 |cons x l ih =>
  cases j with
  |zero=>simp[val];omega
  |succ j =>
   have:=ih j (by simpa using e);simp only[A0i,val,A3s,A0d];have f:1000000000^j*1000000000*l.getD j 0=1000000000*(1000000000^j*l.getD j 0):=by rw[Az5 (1000000000^j),Az4]
   have g:1000000000^j*1000000000*d=1000000000*(1000000000^j*d):=by rw[Az5 (1000000000^j),Az4]
   rw[f,g];omega
def Low.set {l:List Nat}(h:Low l)(j:Nat)(f:d<1000000000):Low (l.set j d):=by
 intro x e;rcases A5i e with e|rfl
 ·exact h x e
 exact f
def Gg (l:List Nat){i j:Nat}(d:Nat)(h:i≠j):(l.set i d).getD j 0=l.getD j 0:=by
 simp[Ays,h]
def Gk.start (a b:List Nat):Gk a b 0 0 (List.replicate (a.length+b.length) 0) 0:=by
 refine⟨mV,Low.zeros _,oV,by simp[Yr,val],fun j _=>?_⟩;rw[Ays,A3r];split<;>rfl
def Gk.step {a b o:List Nat}{i k c x y z t:Nat}(h:Gk a b i k o c)(B:Low a)(C:Low b)(N:k<b.length)(hi:i<a.length)
 (f:x=a.getD i 0) (m:y=b.getD k 0) (n:z=o.getD (i+k) 0) (F:t=z+x*y+c) :
 Gk a b i (k+1) (o.set (i+k) (t%1000000000)) (t/1000000000):=by
 have q:=B.getD i;have u:=C.getD k;have A:=h.low.getD (i+k);have K:=h.carry;rw[<-f]at q;rw[<-m]at u;rw[<-n]at A;have I:x*y<=999999999*999999999:=A1u oV oV;refine⟨by simp[h.len],h.low.set _ (A0z _ oV),oV,?_,fun j D=>?_⟩
 ·have H:=Ajb o (i+k) (t%1000000000) (by have:=h.len;omega);rw[<-n]at H;have g:=h.sum;rw[<-f]at g;have E:val (a.take i)*val b+1000000000^i*(x*val (b.take (k+1)))=val o+1000000000^(i+k)*c+1000000000^i*(x*(1000000000^k*y)):=by
   rw[g,A9,<-m,A0g x,A0g (1000000000^i),A1l]
  rw[<-f,E];rw[show i+(k+1)=i+k+1 by omega,A0d];have L:=Hz (1000000000^(i+k)) t;have e:1000000000^i*(x*(1000000000^k*y))=1000000000^(i+k)*(x*y):=by
   rw[A3a,Az4];congr 1;rw[<-Az4,Az5 x,Az4]
  rw[e];generalize 1000000000^(i+k)=p at *
  have J:p*t=p*z+p*(x*y)+p*c:=by rw[F,A0g,A0g]
  omega
 rw[Gg _ _ oV];exact h.high j D
def Gk.next (h:Gk a b i b.length o c)(hi:i<a.length) :
 o.getD (i+b.length) 0=0/\Gk a b (i+1) 0 (o.set (i+b.length) c) 0:=by
 have h0:=h.high (i+b.length) (Ay2 _);refine⟨h0,by simp[h.len],h.low.set _ h.carry,oV,?_,fun j m=>?_⟩
 ·have f:=Ajb o (i+b.length) c (by have:=h.len;omega);rw[h0]at f;have g:=h.sum;rw[Ay6 (Ay2 _)]at g;rw[A9,Azt];have e:1000000000^i*a.getD i 0*val b=1000000000^i*(a.getD i 0*val b):=Az4 _ _ _;rw[e,<-g];rw[A1y,A1r]at f;rw[A14,val,A1y,A1y,A1y,A1r,A1r];exact f
 rw[Gg _ _ oV];exact h.high j oV
def Gk.done (h:Gk a b a.length 0 o 0):val o=val a*val b:=by
 have e:=h.sum;rw[Ay6 (Ay2 _)]at e;simpa[val] using e
structure Iw (a:List Nat)(d k:Nat)(o:List Nat)(r:Nat):Prop where
 len:o.length=a.length
 low:Low o
 rest:r<d
 sum:val (a.drop k)=d*val (o.drop k)+r
def Iw.start (a:List Nat)(d:Nat)(e:0<d):Iw a d a.length (List.replicate a.length 0) 0 :=
 ⟨mV,Low.zeros _,e,by simp[val]⟩
def Iw.step (h:Iw a d (k+1) o r)(u:Low a)(e:k<a.length)(g:x=a.getD k 0) :
 Iw a d k (o.set k ((r*1000000000+x)/d)) ((r*1000000000+x)%d):=by
 have f:0<d:=A0r (Azh _) h.rest;have t:=u.getD k;rw[<-g]at t;have B:(r*1000000000+x)/d<1000000000:=by
  rw[A05 f];have:(r+1)*1000000000<=d*1000000000:=Az7 _ h.rest;rw[Az5 1000000000 d];omega
 refine⟨by simp[h.len],h.low.set _ B,A0z _ f,?_⟩;have j:=Cj a k e;have m:=Cj (o.set k ((r*1000000000+x)/d)) k (by simp[h.len,e]);rw[j,m,A5e oV];simp only[val,<-g];have n:(o.set k ((r*1000000000+x)/d)).getD k 0=(r*1000000000+x)/d:=by
  simp[Ays,h.len,e]
 rw[n];have C:=h.sum;have A:=A1j (r*1000000000+x) d;generalize (r*1000000000+x)/d=q at *
 generalize (r*1000000000+x)%d=s at *
 rw[C,A0g,A0g,show d*(1000000000*val (List.drop (k+1) o))=1000000000*(d*val (List.drop (k+1) o)) by rw[<-Az4,Az5 d,Az4]];omega
def Iw.done (h:Iw a d 0 o r):val o=val a/d/\r=val a%d:=by
 have e:=h.sum;simp only[A25]at e;have f:0<d:=A0r (Azh _) h.rest;rw[e];constructor
 ·rw[A7z f,A2l h.rest];rfl
 rw[Nat.mul_add_mod,A3u h.rest]
end
def Vb (w:World)(n:Nat)(e:Ending)(w':World):Prop:=∃ v,e=.returned v/\Cu w' v n/\Ext w w'
def Tryz.info254:(prog.info? 254).map (fun i=>(i.zero,i.size,i.bytes))=some (some (.int .u64 0),1,8):=kV
def L5 (n:Nat):(madeCells (Value.int .u64 0).cells (n*1)).toList=Be (List.replicate n 0):=by
 rw[A38];exact (toList_madeCells_one _ _).trans (Afw n)
def Dt {w:World}{a:Option Addr}{l:List Nat}{cap n:Nat}(g:Low l)(k:Row w a (Be l))(j:val l=n)(m:l.length<=cap) :
 Cu w (.slice a (Bv l l.length) cap) n:=by
 have h:=Jz g;rw[j]at h;have f:=Lx l l.length;have e:(Aa n).length=Bv l l.length:=by rw[h,Ay1,A2b f]
 refine⟨a,cap,by rw[e],oV,?_⟩;rw[h,<-Zb];exact k.take _
def Awc (w:World)(l m:List Nat)(n:Nat)(c i:Value)(wr:World):Prop :=
 ∃ (k:Nat) (ys:List Nat) (cc:Nat),k<=n/\i=.int .i64 k/\c=.int .u64 (cc:Int)/\Lm l m k ys cc /\
  wr.ownsRow w.heap.size 254 1 (.slice (some ⟨w.heap.size,0,none⟩) n n) n (Be (ys++List.replicate (n-k) 0))/\Ext w wr
def Zn {w a:World}{e:TypeId}{n k:Nat}{ys:List Nat}{d:Nat}(q:k<n)(g:ys.length=k)
 (h:a.ownsRow w.heap.size e 1 (.slice (some ⟨w.heap.size,0,none⟩) n n) n (Be (ys++List.replicate (n-k) 0))) (x:Ext w a) :
 (a.setCell ⟨w.heap.size,k,none⟩ (.int .u64 (d:Int))).ownsRow w.heap.size e 1 (.slice (some ⟨w.heap.size,0,none⟩) n n) n (Be ((ys++[d])++List.replicate (n-(k+1)) 0)) /\
  Ext w (a.setCell ⟨w.heap.size,k,none⟩ (.int .u64 (d:Int))):=by
 obtain⟨f,m⟩:=h.stored k (.int .u64 (d:Int));refine⟨?_,x.setCell (Ay2 _) _⟩;rw[V9]at f;have e:(ys++List.replicate (n-k) 0).set k d=(ys++[d])++List.replicate (n-(k+1)) 0:=by
  rw[A2j _ _ oV,g,A20];obtain⟨r,j⟩:∃ r,n-k=r+1:=⟨n-k-1,oV⟩;rw[j,show n-(k+1)=r by omega,A61,A0p,Azm];rfl
 rw[e]at f;exact f
set_option maxRecDepth 100000 in
def Ap9 (a b:Option Addr)(ca cb:Nat)(l m:List Nat)(w:World)(ha:Row w a (Be l))(hb:Row w b (Be m))(la:Low l)(lb:Low m)
 (sa:l.length<=10000000000000) (sb:m.length<=10000000000000) :
 Calls prog 177 #[.slice a l.length ca,.slice b m.length cb] w (Vb w (val l+val m)):=by
 obtain⟨i0,hi,H,I,J⟩:=info_parts Tryz.info254;have HI:=Lib.hid hi;have O:=Lib.hid H;have P:=Lib.hid I;have Q:=Lib.hid J;clear hi H I J;have HA:=Lib.hid ha;have HB:=Lib.hid hb;have R:=Lib.hid la;have T:=Lib.hid lb;clear ha hb la lb;obtain⟨n,hn⟩:∃ n,n=max l.length m.length+1:=⟨_,rfl⟩;have N:=Lib.hid hn;have a1:n<=10000000000001:=oV;clear hn;rcases Az8 l.length m.length with U|U;all_goals
  go_enter func177,ntmps177
  go_wp2_with (at_make;refine wpList_make_full _ rfl _ _ 114 rfl w.heap.size 254 i0 (.int .u64 0) 1 Tryz.underlying114 HI.out O.out P.out .i64 .i64 _ _ n rfl rfl (by have:=N.out;omega) (by have:=N.out;omega) (by rw[Q.out];omega) (by unfold maxLen;omega) (Ay2 _) ?_;intro w1 f j)
  rw[L5]at f;have X:=Lib.hid f;have Y:Hid (Ext w w1):=(Ext.refl w).grown j (fun k hk=>by cases hk);clear f j
  go_loopw [6,18] (Awc w l m n) (fun _ i _=>n-(intOf i).toNat)
  case atStart=>exact⟨0,[],0,Azh _,rfl,rfl,Lm.start _ _,by simpa using X.out,Y.out⟩
  case round =>
   obtain⟨k,ys,D,hk,rfl,rfl,A,f,C⟩:=hrel;have B:=Lib.hid A;have K:=Lib.hid f;have L:=Lib.hid C;have a0:=A.carry;clear A f C X Y;by_cases V:k<n
   ·obtain⟨x,C⟩:∃ x,x=l.getD k 0:=⟨_,rfl⟩;obtain⟨y,W⟩:∃ y,y=m.getD k 0:=⟨_,rfl⟩;have a2:x<1000000000:=by rw[C];exact R.out.getD k
    have a3:y<1000000000:=by rw[W];exact T.out.getD k
    have Z:=Lib.hid C;have YY:=Lib.hid W;clear C W;have hf:=K.out.frozenAt k;have E:∃ u,wr.cell? ⟨w.heap.size,k,none⟩=some u:=by
     obtain⟨b,off,h1,h2⟩:=Row.of_owns K.out k (by simp[B.out.len];omega);simp only[Ayz,Addr.mk.injEq,and_true]at h1;obtain⟨rfl,rfl⟩:=h1;rw[A0h]at h2;exact⟨_,h2⟩
    obtain⟨u,E⟩:=E
    go_wp2_with fail
    refine (Xe _ _ _ _ _ oV oV (HA.out.ext L.out)).mono ?_;rw[A0y,<-Z.out];rintro e w' ⟨rfl,rfl⟩
    go_wp2_with fail
    refine (Xe _ _ _ _ _ oV oV (HB.out.ext L.out)).mono ?_;rw[A0y,<-YY.out];rintro e w' ⟨rfl,rfl⟩
    go_wp2
    rw[show ((x:Int)+y+D)%1000000000=(((x+y+D)%1000000000:Nat):Int) by omega,show ((x:Int)+y+D)/1000000000=(((x+y+D)/1000000000:Nat):Int) by omega];have hs:=B.out.step R.out T.out Z.out YY.out;have g:=Zn (d:=(x+y+D)%1000000000) V B.out.len K.out L.out;exact⟨⟨k+1,_,_,oV,by go_num,rfl,hs,g.1,g.2⟩,by simp only[intOf];omega⟩
   obtain rfl:k=n:=oV;have q:=B.out.len;have f:=K.out;rw[A20,A3t,Azl]at f;have t:=Lib.hid (Row.of_owns f);have F:=Lib.hid (Dt (cap:=k) (n:=val l+val m) B.out.low t.out (by have h:=B.out;rw[N.out]at h;exact h.done R.out T.out) oV);have HL:=Lib.hid q;clear f q
   go_wp2_with fail
   ((with_reducible refine (Gr _ _ _ ys _ HL.out oV oV t.out).mono ?_);rintro e w' ⟨rfl,rfl⟩)
   go_wp2
   go_ret
   exact⟨_,rfl,F.out,L.out⟩
def Af5 (e f:Value)(m n:Nat)(w:World)(j:Cu w e m)(k:Cu w f n)(u:nl m<=10000000000000)(sb:nl n<=10000000000000) :
 Calls prog 177 #[e,f] w (Vb w (m+n)):=by
 obtain⟨a,g,rfl,_,q⟩:=j;obtain⟨b,h,rfl,_,t⟩:=k;have:=Ap9 a b g h (Aa m) (Aa n) w q t (An _) (An _) u sb;rw[Al,Al]at this;exact this
section
variable {n:Int}{v:Value}{w:World}
def Ext.drewN {a w:World}(h:Ext a w)(n:Nat):Ext a (w.drewN n):=by
 obtain⟨e,f,g,j,k⟩:=h;exact⟨e,f,g,j,k⟩
def Row.drewN {w:World}{a:Option Addr}{cs:List Value}(h:Row w a cs)(n:Nat):Row (w.drewN n) a cs:=h.ext ((Ext.refl w).drewN n)
def Pb {base:Nat}{e:TypeId}{size:Nat}{n:Nat}{xs:List Value}(h:w.ownsRow base e size v n xs)(k:Nat):(w.drewN k).ownsRow base e size v n xs:=h
def Awd (w:World)(l m:List Nat)(n:Nat)(c i:Value)(wr:World):Prop :=
 ∃ (k:Nat) (ys:List Nat) (cc:Nat),k<=n/\i=.int .i64 k/\c=.int .u64 (cc:Int)/\Ld l m k ys cc /\
  wr.ownsRow w.heap.size 254 1 (.slice (some ⟨w.heap.size,0,none⟩) n n) n (Be (ys++List.replicate (n-k) 0))/\Ext w wr
set_option maxRecDepth 100000 in
def Apl (a b:Option Addr)(ca Y:Nat)(l m:List Nat)(w:World)(ha:Row w a (Be l))(hb:Row w b (Be m))(la:Low l)(lb:Low m)
 (sa:l.length<=10000000000000) (sb:m.length<=l.length) (J:val m<=val l) :
 Calls prog 179 #[.slice a l.length ca,.slice b m.length Y] w (Vb w (val l-val m)):=by
 obtain⟨i0,hi,N,O,P⟩:=info_parts Tryz.info254;have HI:=Lib.hid hi;have V:=Lib.hid N;have W:=Lib.hid O;have X:=Lib.hid P;clear hi N O P;have HA:=Lib.hid ha;have HB:=Lib.hid hb;have LA:=Lib.hid la;have LB:=Lib.hid lb;have LE:=Lib.hid J;clear ha hb la lb J;obtain⟨n,hn⟩:∃ n,n=l.length:=⟨_,rfl⟩;have E:=Lib.hid hn;have a3:n<=10000000000001:=oV;clear hn
 go_enter func179,ntmps179
 go_wp2_with (at_make;refine wpList_make_full _ rfl _ _ 114 rfl w.heap.size 254 i0 (.int .u64 0) 1 Tryz.underlying114 HI.out V.out W.out .i64 .i64 _ _ n rfl rfl (by have:=E.out;omega) (by have:=E.out;omega) (by rw[X.out];omega) (by unfold maxLen;omega) (Ay2 _) ?_;intro w1 f j)
 rw[L5]at f;have HO:=Lib.hid f;have X1:Hid (Ext w w1):=(Ext.refl w).grown j (fun k hk=>by cases hk);clear f j
 go_loopw [6,14] (Awd w l m n) (fun _ i _=>n-(intOf i).toNat)
 case atStart=>exact⟨0,[],0,Azh _,rfl,rfl,Ld.start _ _,by simpa using HO.out,X1.out⟩
 case round =>
  obtain⟨k,ys,F,hk,rfl,rfl,B,f,C⟩:=hrel;have D:=Lib.hid B;have Q:=Lib.hid f;have R:=Lib.hid C;have a2:=B.carry;clear B f C HO X1;by_cases K:k<l.length
  ·have a0:k<n:=by rw[E.out];exact K
   obtain⟨x,C⟩:∃ x,x=l.getD k 0:=⟨_,rfl⟩;obtain⟨y,T⟩:∃ y,y=m.getD k 0:=⟨_,rfl⟩;have a4:x<1000000000:=by rw[C];exact LA.out.getD k
   have a5:y<1000000000:=by rw[T];exact LB.out.getD k
   obtain⟨ba,a1,rfl,Z⟩:=(HA.out.ext R.out).at K;rw[<-C]at Z;have H:∀ q,Calls prog 222 #[.slice b m.length Y,.int .i64 k] (wr.drewN q) fun e w'=>e=.returned (.int .u64 (y:Int))/\w'=wr.drewN q:=fun q=>by
    have:=Xe b Y m k (wr.drewN q) oV oV ((HB.out.ext R.out).drewN q);rw[A0y,<-T]at this;exact this.mono fun _ _ h=>⟨h.1,h.2.symm⟩
   have U:=Lib.hid H;have XX:=Lib.hid C;have YY:=Lib.hid T;clear C T H;have hf:=Q.out.frozenAt k;have I:∃ u,wr.cell? ⟨w.heap.size,k,none⟩=some u:=by
    obtain⟨b,off,h1,h2⟩:=Row.of_owns Q.out k (by simp[D.out.len];omega);simp only[Ayz,Addr.mk.injEq,and_true]at h1;obtain⟨rfl,rfl⟩:=h1;rw[A0h]at h2;exact⟨_,h2⟩
   obtain⟨u,I⟩:=I
   go_wp2_with fail
   go_quiet ((go_at_call 222;exact Calls.quiet_of_same (U.out _)))
   go_wp2
   rw[show ((x:Int)+1000000000-y-F)%1000000000=(((x+1000000000-y-F)%1000000000:Nat):Int) by omega,show 1-((x:Int)+1000000000-y-F)/1000000000=((1-(x+1000000000-y-F)/1000000000:Nat):Int) by omega];have hs:=D.out.step LA.out LB.out XX.out YY.out;have g:=Zn (d:=(x+1000000000-y-F)%1000000000) a0 D.out.len (Pb Q.out nq) (R.out.drewN nq);exact⟨⟨k+1,_,_,oV,by go_num,rfl,hs,g.1,g.2⟩,by simp only[intOf];omega⟩
  obtain rfl:k=n:=by have:=E.out;omega
  have t:=D.out.len;have f:=Q.out;rw[A20,A3t,Azl]at f;have A:=Lib.hid (Row.of_owns f);have L:=Lib.hid (Dt (cap:=k) (n:=val l-val m) D.out.low A.out (by have h:=D.out;rw[E.out]at h;exact h.done sb LE.out) oV);have HL:=Lib.hid t;clear f t
  go_wp2_with fail
  ((with_reducible refine (Gr _ _ _ ys _ HL.out oV oV A.out).mono ?_);rintro e w' ⟨rfl,rfl⟩)
  go_wp2
  go_ret
  exact⟨_,rfl,L.out,R.out⟩
def Ahl (f g:Value)(m n:Nat)(w:World)(k:Cu w f m)(q:Cu w g n)(x:nl m<=10000000000000)(e:n<=m) :
 Calls prog 179 #[f,g] w (Vb w (m-n)):=by
 obtain⟨a,h,rfl,_,t⟩:=k;obtain⟨b,j,rfl,_,u⟩:=q;have:=Apl a b h j (Aa m) (Aa n) w t u (An _) (An _) x (Cs e) (by rw[Al,Al];exact e);rw[Al,Al]at this;exact this
def Ava (w:World)(l m:List Nat)(i:Value)(wr:World):Prop :=
 ∃ k:Nat,k<=l.length/\i=.int .i64 ((k:Int)-1)/\l.drop k=m.drop k/\∃ q,wr=w.drewN q
def C7 (h:0<n):sgn n=1:=by unfold sgn;rw[if_neg oV,if_pos h]
def Ej (h:n<0):sgn n = -1:=by unfold sgn;rw[if_pos h]
def Ro:sgn 0=0:=by simp[sgn]
def Qv (w:World)(v:Value)(e:Ending)(w':World):Prop:=e=.returned v/\∃ q,w'=w.drewN q
def Qv.ext {e:Ending}{w':World}(h:Qv w v e w'):e=.returned v/\Ext w w':=by
 obtain⟨a,q,rfl⟩:=h;exact⟨a,(Ext.refl w).drewN q⟩
set_option maxRecDepth 100000 in
def Abr (a b:Option Addr)(T U:Nat)(l m:List Nat)(w:World)(F:Row w a (Be l))(H:Row w b (Be m))(la:Low l)(K:Low m)
 (Y:l.length<=10000000000000) (sb:m.length=l.length) :
 Calls prog 178 #[.slice a l.length T,.slice b l.length U] w (Qv w (.int .i64 (sgn ((val l:Int)-val m)))):=by
 have O:=Lib.hid F;have P:=Lib.hid H;have Q:=Lib.hid la;have R:=Lib.hid K;have SB:=Lib.hid sb;clear F H la K sb
 go_enter func178,ntmps178
 go_wp2_with fail
 go_loopw [5] (Ava w l m) (fun i _=>(intOf i+1).toNat)
 case atStart=>exact⟨l.length,oV,rfl,by rw[Az1 (Ay2 _),Az1 (by rw[SB.out];exact Ay2 _)],0,rfl⟩
 case round =>
  obtain⟨k,X,rfl,I,q,rfl⟩:=hrel;have f:=Lib.hid I;clear I;rcases k with _|k
  ·go_wp2_with fail
   have h0:(val l:Int)-val m=0:=by have:=f.out;simp only[A25]at this;rw[this];omega
   go_ret
   refine⟨?_,q,rfl⟩;rw[h0,Ro];rfl
  rw[show ((k+1:Nat):Int)-1=k by omega];have e:k<l.length:=oV;obtain⟨V,L,rfl,t⟩:=O.out.at e;obtain⟨W,N,rfl,u⟩:=P.out.at (j:=k) (by rw[SB.out];exact e);obtain⟨x,D⟩:∃ x,x=l.getD k 0:=⟨_,rfl⟩;obtain⟨y,E⟩:∃ y,y=m.getD k 0:=⟨_,rfl⟩;rw[<-D]at t;rw[<-E]at u;have g:=Lib.hid D;have h:=Lib.hid E;clear D E;rcases A33 x y with C|A|B
  ·go_wp2_with fail
   go_quiet (fail)
   go_wp2_with fail
   have h0:(val l:Int)-val m<0:=by
    have:=G5 SB.out.symm e Q.out f.out (by rw[<-g.out,<-h.out];exact C);omega
   go_ret
   refine⟨?_,_,World.drewN_drewN _ _ _⟩;rw[Ej h0];rfl
  ·subst A
   go_wp2_with fail
   go_quiet (fail)
   go_wp2_with fail
   go_quiet (fail)
   go_wp2_with fail
   refine⟨⟨k,oV,by go_num,?_,_,rfl⟩,by simp only[intOf];omega⟩;rw[Cj l k e,Cj m k (by rw[SB.out];exact e),f.out,<-g.out,<-h.out]
  have J:¬ x<y:=oV
  go_wp2_with fail
  go_quiet (fail)
  go_wp2_with fail
  go_quiet (fail)
  go_wp2_with fail
  have h0:0<(val l:Int)-val m:=by
   have:=G5 SB.out (by rw[SB.out];exact e) R.out f.out.symm (by rw[<-g.out,<-h.out];exact B);omega
  go_ret
  refine⟨?_,_,by rw[World.drewN_drewN,World.drewN_drewN]⟩;rw[C7 h0];rfl
set_option maxRecDepth 100000 in
def Afq (a b:Option Addr)(g h m n:Nat)(w:World)(k:m<=10000000000000)(sb:n<=10000000000000)(f:m≠n) :
 Calls prog 178 #[.slice a m g,.slice b n h] w (Qv w (.int .i64 (sgn ((m:Int)-n)))):=by
 have j:((m:Int) != n)=true:=by rw[bne_iff_ne];omega
 clear f
 go_enter func178,ntmps178
 go_wp2_with fail
 refine (Aoz _ _).mono ?_;rintro e w' ⟨rfl,rfl⟩
 go_wp2_with fail
 go_ret
 exact⟨rfl,0,rfl⟩
def Akt {a b c d:Nat}(f:a<b↔c<d)(g:b<a↔d<c):sgn ((a:Int)-b)=sgn ((c:Int)-d):=by
 rcases A33 a b with h|h|h
 ·have:=f.1 h;rw[Ej oV,Ej oV]
 ·have j:¬ c<d:=fun e=>by have:=f.2 e;omega
  have k:¬ d<c:=fun e=>by have:=g.2 e;omega
  rw[show (a:Int)-b=0 by omega,show (c:Int)-d=0 by omega]
 have:=g.1 h;rw[C7 oV,C7 oV]
def Gw (q t:Value)(m n:Nat)(w:World)(u:Cu w q m)(x:Cu w t n)(k:nl m<=10000000000000)(sb:nl n<=10000000000000) :
 Calls prog 178 #[q,t] w (Qv w (.int .i64 (sgn ((m:Int)-n)))):=by
 obtain⟨a,g,rfl,_,y⟩:=u;obtain⟨b,j,rfl,_,A⟩:=x;by_cases h:(Aa n).length=(Aa m).length
 ·have:=Abr a b g j (Aa m) (Aa n) w y A (An _) (An _) k h;rw[Al,Al]at this;rw[h];exact this
 have:=Afq a b g j (Aa m).length (Aa n).length w k sb (fun e=>h e.symm);rw[Akt (a:=(Aa m).length) (b:=(Aa n).length) (c:=m) (d:=n)]at this
 ·exact this
 ·constructor
  ·exact fun f=>Ku f
  intro f;have:=Cs (A5l f);unfold nl at this;omega
 constructor
 ·exact fun f=>Ku f
 intro f;have:=Cs (A5l f);unfold nl at this;omega
end
section
variable {e:TypeId}{n:Nat}{o:List Nat}{w wr:World}
def Aw2 (w:World)(l m:List Nat)(n:Nat)(i:Value)(wr:World):Prop :=
 ∃ (k:Nat) (o:List Nat),k<=l.length/\i=.int .i64 k/\Gk l m k 0 o 0 /\
  wr.ownsRow w.heap.size 254 1 (.slice (some ⟨w.heap.size,0,none⟩) n n) n (Be o)/\Ext w wr
def Atm (w:World)(l m:List Nat)(n j:Nat)(c i:Value)(wr:World):Prop :=
 ∃ (k:Nat) (o:List Nat) (cc:Nat),k<=m.length/\i=.int .i64 k/\c=.int .u64 (cc:Int)/\Gk l m j k o cc /\
  wr.ownsRow w.heap.size 254 1 (.slice (some ⟨w.heap.size,0,none⟩) n n) n (Be o)/\Ext w wr
def Pl {n j:Nat}(h:wr.ownsRow w.heap.size e 1 (.slice (some ⟨w.heap.size,0,none⟩) n n) n (Be o))(g:j<o.length) :
 wr.cell? ⟨w.heap.size,j,none⟩=some (.int .u64 (o.getD j 0:Nat)):=by
 obtain⟨b,off,a,f⟩:=(Row.of_owns h).at g;simp only[Ayz,Addr.mk.injEq,and_true]at a;obtain⟨rfl,rfl⟩:=a;rw[A0h]at f;exact f
def Ss (j d:Nat)(h:wr.ownsRow w.heap.size e 1 (.slice (some ⟨w.heap.size,0,none⟩) n n) n (Be o))(x:Ext w wr) :
 (wr.setCell ⟨w.heap.size,j,none⟩ (.int .u64 (d:Int))).ownsRow w.heap.size e 1 (.slice (some ⟨w.heap.size,0,none⟩) n n) n (Be (o.set j d)) /\
  Ext w (wr.setCell ⟨w.heap.size,j,none⟩ (.int .u64 (d:Int))):=by
 refine⟨?_,x.setCell (Ay2 _) _⟩;have:=(h.stored j (.int .u64 (d:Int))).1;rw[V9]at this;exact this
def Ae1 (w:World)(n:Nat)(e:Ending)(w':World):Prop:=∃ k cap,e=.returned (.slice (some ⟨w.heap.size,0,none⟩) k cap)/\Cu w' (.slice (some ⟨w.heap.size,0,none⟩) k cap) n/\Ext w w'
set_option maxRecDepth 100000 in
def Ang (a b:Option Addr)(ca cb:Nat)(l m:List Nat)(w:World)(ha:Row w a (Be l))(hb:Row w b (Be m))(la:Low l)(lb:Low m)
 (sa:l.length<=10000000000000) (sb:m.length<=10000000000000) :
 Calls prog 184 #[.slice a l.length ca,.slice b m.length cb] w (Ae1 w (val l*val m)):=by
 obtain⟨i0,hi,V,K,W⟩:=info_parts Tryz.info254;have HI:=Lib.hid hi;have a1:=Lib.hid V;have a2:=Lib.hid K;have a3:=Lib.hid W;clear hi V K W;have HA:=Lib.hid ha;have HB:=Lib.hid hb;have LA:=Lib.hid la;have LB:=Lib.hid lb;clear ha hb la lb;obtain⟨n,hn⟩:∃ n,n=l.length+m.length:=⟨_,rfl⟩;have N:=Lib.hid hn;have ad:n<=20000000000001:=oV;have ae:l.length+m.length<=n:=oV;clear hn
 go_enter func184,ntmps184
 go_wp2_with (at_make;refine wpList_make_full _ rfl _ _ 114 rfl w.heap.size 254 i0 (.int .u64 0) 1 Tryz.underlying114 HI.out a1.out a2.out .i64 .i64 _ _ n rfl rfl (by have:=N.out;omega) (by have:=N.out;omega) (by rw[a3.out];omega) (by unfold maxLen;omega) (Ay2 _) ?_;intro w1 f t)
 rw[L5]at f;have HO:=Lib.hid f;have X1:Hid (Ext w w1):=(Ext.refl w).grown t (fun k hk=>by cases hk);clear f t
 go_loopw [20] (Aw2 w l m n) (fun i _=>l.length-(intOf i).toNat)
 case atStart=>exact⟨0,_,Azh _,rfl,Gk.start _ _,by rw[<-N.out];exact HO.out,X1.out⟩
 case round =>
  obtain⟨j,o,hk,rfl,T,f,J⟩:=hrel;have O:=Lib.hid T;have HW:=Lib.hid f;have X:=Lib.hid J;clear T f J HO X1;by_cases I:j<l.length
  ·obtain⟨x,J⟩:∃ x,x=l.getD j 0:=⟨_,rfl⟩;have ah:x<1000000000:=by rw[J];exact LA.out.getD j
   obtain⟨ba,a9,rfl,Q⟩:=(HA.out.ext X.out).at I;rw[<-J]at Q;have XX:=Lib.hid J;clear J
   go_wp2_with fail
   obtain⟨wo,a7⟩:∃ wo:World,wo=wr:=⟨_,rfl⟩;subst a7
   go_loopw [8,27] (Atm w l m n j) (fun _ i _=>m.length-(intOf i).toNat)
   case atStart=>exact⟨0,_,0,Azh _,rfl,rfl,O.out,HW.out,X.out⟩
   case round =>
    obtain⟨k,o2,L,ac,rfl,rfl,h,A,U⟩:=hrel;have P:=Lib.hid h;have q:=Lib.hid A;have E:=Lib.hid U;have ab:=h.carry;have a6:=h.len;have H:=Lib.hid h.low;have a8:n<=o2.length:=by have:=N.out;omega
    clear h A U O HW X Q a6;by_cases C:k<m.length
    ·obtain⟨y,Y⟩:∃ y,y=m.getD k 0:=⟨_,rfl⟩;have ai:y<1000000000:=by rw[Y];exact LB.out.getD k
     obtain⟨bb,aa,rfl,a4⟩:=(HB.out.ext E.out).at C;rw[<-Y]at a4;obtain⟨z,Z⟩:∃ z,z=o2.getD (j+k) 0:=⟨_,rfl⟩;have K:z<1000000000:=by rw[Z];exact H.out.getD _
     have F:=Pl q.out (j:=j+k) oV;have a5:=q.out.frozenAt (j+k);rw[<-Z]at F;have YY:=Lib.hid Y;have ZZ:=Lib.hid Z;clear Y Z;obtain⟨p,hp⟩:∃ p,p=x*y:=⟨_,rfl⟩;have af:p<=999999999*999999999:=by rw[hp];exact A1u oV oV
     have ag:((x:Int)*y)=p:=by rw[hp];exact (A27 _ _).symm
     have PP:=Lib.hid hp;clear hp
     go_wp2_with fail
     rw[show ((z:Int)+p+L)%1000000000=(((z+x*y+L)%1000000000:Nat):Int) by rw[<-PP.out];omega,show ((z:Int)+p+L)/1000000000=(((z+x*y+L)/1000000000:Nat):Int) by rw[<-PP.out];omega];have hs:=P.out.step LA.out LB.out C I XX.out YY.out ZZ.out rfl;have g:=Ss (j+k) ((z+x*y+L)%1000000000) q.out E.out;exact⟨⟨k+1,_,_,oV,by go_num,rfl,hs,g.1,g.2⟩,by simp only[intOf];omega⟩
    obtain rfl:k=m.length:=oV;obtain⟨h0,u⟩:=P.out.next I;have F:=Pl q.out (j:=j+m.length) oV;rw[h0]at F;have a5:=q.out.frozenAt (j+m.length);have a0:=Lib.hid u;clear h0 u
    go_wp2_with fail
    have g:=Ss (j+m.length) L q.out E.out;exact⟨⟨j+1,_,oV,by go_num,a0.out,g.1,g.2⟩,by simp only[intOf];omega⟩
  obtain rfl:j=l.length:=oV;have B:=O.out.len;have D:=Lib.hid (Row.of_owns HW.out);have R:=Lib.hid (Dt (cap:=n) (n:=val l*val m) O.out.low D.out O.out.done oV);have HL:Hid (o.length=n):=by rw[B];exact N.out.symm
  clear B
  go_wp2_with fail
  ((with_reducible refine (Gr _ _ _ o _ HL.out oV oV D.out).mono ?_);rintro e w' ⟨rfl,rfl⟩)
  go_wp2_with fail
  go_ret
  exact⟨_,_,rfl,R.out,X.out⟩
def Tb (f g:Value)(m n:Nat)(w:World)(k:Cu w f m)(q:Cu w g n)(x:nl m<=10000000000000)(sb:nl n<=10000000000000) :
 Calls prog 184 #[f,g] w (Ae1 w (m*n)):=by
 obtain⟨a,h,rfl,_,t⟩:=k;obtain⟨b,j,rfl,_,u⟩:=q;have:=Ang a b h j (Aa m) (Aa n) w t u (An _) (An _) x sb;rw[Al,Al]at this;exact this
def Ahh (a f:Value)(m n:Nat)(w:World)(q:Cu w a m)(t:Cu w f n)(u:nl m<=10000000000000)(sb:nl n<=10000000000000) :
 Calls prog 184 #[a,f] w (Vb w (m*n)) :=
 (Tb a f m n w q t u sb).mono fun _ _ ⟨k,cap,g,h,j⟩=>⟨_,g,h,j⟩
def Ano (w:World)(l:List Nat)(d n:Nat)(r i:Value)(wr:World):Prop :=
 ∃ (k:Nat) (o:List Nat) (rr:Nat),k<=l.length/\i=.int .i64 ((k:Int)-1)/\r=.int .u64 (rr:Int)/\Iw l d k o rr /\
  wr.ownsRow w.heap.size 254 1 (.slice (some ⟨w.heap.size,0,none⟩) n n) n (Be o)/\Ext w wr
def P8 (w:World)(n r:Nat)(e:Ending)(w':World):Prop:=∃ v,e=.returned (.tuple #[v,.int .u64 (r:Int)])/\Cu w' v n/\Ext w w'
set_option maxRecDepth 100000 in
def Afh (a:Option Addr)(ca d:Nat)(l:List Nat)(w:World)(U:Row w a (Be l))(la:Low l)
 (sa:l.length<=10000000000000) (P:0<d) (hd:d<1000000000) :
 Calls prog 259 #[.slice a l.length ca,.int .u64 d] w (P8 w (val l/d) (val l%d)):=by
 obtain⟨i0,hi,D,E,F⟩:=info_parts Tryz.info254;have Z:=Lib.hid hi;have K:=Lib.hid D;have L:=Lib.hid E;have N:=Lib.hid F;clear hi D E F;have Y:=Lib.hid U;have R:=Lib.hid la;clear U la;obtain⟨n,W⟩:∃ n,n=l.length:=⟨_,rfl⟩;have y:=Lib.hid W;have a4:n<=10000000000001:=oV;have a5:l.length<=n:=oV;clear W
 go_enter func259,ntmps259
 go_wp2_with (at_make;refine wpList_make_full _ rfl _ _ 114 rfl w.heap.size 254 i0 (.int .u64 0) 1 Tryz.underlying114 Z.out K.out L.out .i64 .i64 _ _ n rfl rfl (by have:=y.out;omega) (by have:=y.out;omega) (by rw[N.out];omega) (by unfold maxLen;omega) (Ay2 _) ?_;intro w1 f g)
 rw[L5]at f;have Q:=Lib.hid f;have T:Hid (Ext w w1):=(Ext.refl w).grown g (fun k V=>by cases V);clear f g
 go_loopw [7,8] (Ano w l d n) (fun _ i _=>(intOf i+1).toNat)
 case atStart=>exact⟨l.length,_,0,oV,rfl,rfl,Iw.start _ _ P,by rw[<-y.out];exact Q.out,T.out⟩
 case round =>
  obtain⟨k,o,H,V,rfl,rfl,h,f,u⟩:=hrel;have A:=Lib.hid h;have I:=Lib.hid f;have J:=Lib.hid u;have a6:=h.rest;have a3:n<=o.length:=by have:=y.out;have:=h.len;omega
  clear h f u Q T;rcases k with _|k
  ·have m:=A.out.len;have q:=Lib.hid (Row.of_owns I.out);have C:=Lib.hid (Dt (cap:=n) (n:=val l/d) A.out.low q.out A.out.done.1 oV);have HL:Hid (o.length=n):=by rw[m];exact y.out.symm
   clear m
   go_wp2_with fail
   ((with_reducible refine (Gr _ _ _ o _ HL.out oV oV q.out).mono ?_);rintro e w' ⟨rfl,rfl⟩)
   go_wp2_with fail
   go_ret2
   exact⟨_,by rw[A.out.done.2];rfl,C.out,J.out⟩
  rw[show ((k+1:Nat):Int)-1=k by omega];have B:k<l.length:=oV;obtain⟨x,u⟩:∃ x,x=l.getD k 0:=⟨_,rfl⟩;have a7:x<1000000000:=by rw[u];exact R.out.getD k
  obtain⟨ba,X,rfl,O⟩:=(Y.out.ext J.out).at B;rw[<-u]at O;have a0:=Pl I.out (j:=k) oV;have a2:=I.out.frozenAt k;have XX:=Lib.hid u;clear u;have a1:((d:Int)==0)=false:=gV
  go_wp2_with fail
  go_region
  go_wp2_with fail
  rw[show ((H:Int)*1000000000+x)%d=(((H*1000000000+x)%d:Nat):Int) by simp,show ((H:Int)*1000000000+x)/d=(((H*1000000000+x)/d:Nat):Int) by simp];have hs:=A.out.step R.out B XX.out;have t:=Ss k ((H*1000000000+x)/d) I.out J.out;exact⟨⟨k,_,_,oV,rfl,rfl,hs,t.1.drew,t.2.drew⟩,by simp only[intOf];omega⟩
def Rf (g:Value)(m d:Nat)(w:World)(j:Cu w g m)(t:nl m<=10000000000000)(f:0<d)(k:d<1000000000) :
 Calls prog 259 #[g,.int .u64 d] w (P8 w (m/d) (m%d)):=by
 obtain⟨a,h,rfl,_,q⟩:=j;have:=Afh a h d (Aa m) w q (An _) t f k;rw[Al]at this;exact this
end
section
variable {U V p top u2 v1 v2:Nat}
structure Yl (v1 v2 u2 top p V U:Nat):Prop where
 v:∃ v',v' < p/\V=(v1*1000000000+v2)*p+v'
 u:∃ u',u' < p/\U=(top*1000000000+u2)*p+u'
 v1pos:500000000<=v1
 v1low:v1<1000000000
 v2low:v2<1000000000
 u2low:u2<1000000000
 top1:top<=v1*1000000000+999999999
 less:U<1000000000*V
def Yl.pos (h:Yl v1 v2 u2 top p V U):0<V:=by
 rcases Azx V with h0|h0
 ·have:=h.less;rw[h0]at this;omega
 exact h0
structure Qm (v1 top V U q r:Nat):Prop where
 eq:q*v1+r=top
 ge:U/V<=q
 low:1000000000<=q->r<1000000000
 qle:q<=2000000000
def Qm.start (h:Yl v1 v2 u2 top p V U):Qm v1 top V U (top/v1) (top%v1):=by
 have B:=h.v1pos;have j:=A1j top v1;have D:=A0z top (show 0<v1 by omega);have E:=h.v1low;refine⟨by rw[Az5];exact j,?_,fun _=>oV,?_⟩
 ·obtain⟨H,t,g⟩:=h.v;obtain⟨F,m,f⟩:=h.u;have a:=h.pos;have n:=h.u2low;rw[A2x oV];have C:U/V*V<=U:=A5g U V;generalize U/V=q at *
  have k:0<p:=oV;have x:q*v1*1000000000*p<=q*V:=by
   rw[g,Az4,Az4];refine A0n _ ?_;rw[<-Az4,Azt];omega
  have y:U<(top*1000000000+u2+1)*p:=by rw[f,Azt _ 1,A1k];omega
  have e:q*v1*1000000000*p<(top*1000000000+u2+1)*p:=oV;have A:=A5a e;omega
 rw[<-Nat.lt_succ_iff,A05 oV];have:=h.top1;omega
def Qm.step {v1 v2 u2 top p V U q r:Nat}(h:Yl v1 v2 u2 top p V U)(t:Qm v1 top V U q r)
 (g:1000000000<=q\/r*1000000000+u2<q*v2):0<q/\Qm v1 top V U (q-1) (r+v1):=by
 have a:=h.pos;have f:U/V<q:=by
  rcases g with g|g
  ·have:U/V<1000000000:=by rw[A05 a];exact h.less
   omega
  rw[A05 a];obtain⟨J,x,E⟩:=h.v;obtain⟨I,n,D⟩:=h.u;have y:q*((v1*1000000000+v2)*p)<=q*V:=A0n _ oV;have A:q*((v1*1000000000+v2)*p)=((q*v1)*1000000000+q*v2)*p:=by
   rw[<-Az4,A0g,<-Az4]
  have B:(top*1000000000+u2+1)*p<=((q*v1)*1000000000+q*v2)*p:=by
   refine Az7 _ ?_;have:=t.eq;omega
  have C:(top*1000000000+u2+1)*p=(top*1000000000+u2)*p+p:=by rw[Azt _ 1,A1k]
  omega
 have m:0<q:=A0r (Azh _) f;refine⟨m,?_,Nat.le_sub_one_of_lt f,fun j=>?_,by have:=t.qle;omega⟩
 ·obtain⟨k,rfl⟩:∃ k,q=k+1:=⟨q-1,oV⟩;have:=t.eq;rw[Azt,A1k]at this;simp only[A3y];omega
 have e:=t.eq;have H:=h.top1;obtain⟨k,rfl⟩:∃ k,q=1000000000+1+k:=⟨q-1000000001,oV⟩;have:(1000000000+1+k)*v1=1000000000*v1+v1+k*v1:=by rw[Azt,Azt,A1k]
 have F:0<=k*v1:=Azh _;rw[this]at e;omega
def Qm.done {v1 v2 u2 top p V U q r:Nat}(h:Yl v1 v2 u2 top p V U)(t:Qm v1 top V U q r)
 (m:¬ (r<1000000000/\(1000000000<=q\/r*1000000000+u2<q*v2))):q<1000000000/\U/V<=q/\q<=U/V+1:=by
 have x:q<1000000000:=by
  rcases Az8 q 1000000000 with a|a
  ·exact a
  exact absurd ⟨t.low a,Or.inl a⟩ m
 have f:q*v2<=r*1000000000+u2:=by
  rcases Az8 (r*1000000000+u2) (q*v2) with a|a
  ·rcases Az8 r 1000000000 with j|j
   ·exact absurd ⟨j,Or.inr a⟩ m
   have:q*v2<=999999999*999999999:=A1u oV (by have:=h.v2low;omega);omega
  exact a
 refine⟨x,t.ge,?_⟩;rcases Azx q with h0|h0
 ·rw[h0];exact Azh _
 obtain⟨k,rfl⟩:∃ k,q=k+1:=⟨q-1,oV⟩
 suffices k<=U/V by omega
 have e:=h.pos;rw[A2x e];obtain⟨n,A,g⟩:=h.v;obtain⟨I,y,H⟩:=h.u;have B:(k+1)*V=(((k+1)*v1)*1000000000+(k+1)*v2)*p+(k+1)*n:=by
  rw[g,A0g,<-Az4,A0g,<-Az4]
 have C:(((k+1)*v1)*1000000000+(k+1)*v2)*p<=(top*1000000000+u2)*p:=by
  refine Az7 _ ?_;have:=t.eq;omega
 have D:(k+1)*n<=1000000000*p:=A1u oV oV;have E:1000000000*p<=V:=by
  rw[g];have:1000000000*p<=(v1*1000000000+v2)*p:=Az7 _ (by have:=h.v1pos;omega);omega
 have F:(k+1)*V=k*V+V:=by rw[Azt,A1k]
 omega
structure Mn (full v:List Nat)(off q k:Nat)(o:List Nat)(c:Nat):Prop where
 len:o.length=full.length
 low:Low o
 carry:c<=1000000000
 sum:val ((o.drop off).take k)+q*val (v.take k)=val ((full.drop off).take k)+1000000000^k*c
 same:∀ j,j<off\/off+k<=j->o.getD j 0=full.getD j 0
def En (l:List Nat)(off k:Nat):(l.drop off).getD k 0=l.getD (off+k) 0:=by
 simp[Ays,A2z]
def Oe (l:List Nat)(j k d:Nat)(h:k<=j):(l.set j d).take k=l.take k:=by
 rw[A8p h]
def Mn.start (a v:List Nat)(off q:Nat)(h:Low a):Mn a v off q 0 a 0 :=
 ⟨rfl,h,oV,by simp[val],fun _ _=>rfl⟩
def Mn.step {a v o:List Nat}{off q k c x y d e:Nat}(h:Mn a v off q k o c)(u:off+k<a.length)
 (A:x=v.getD k 0) (B:y=o.getD (off+k) 0) (n:d<1000000000) (t:e<=1000000000) (f:d+q*x+c=y+1000000000*e) :
 Mn a v off q (k+1) (o.set (off+k) d) e:=by
 refine⟨by simp[h.len],h.low.set _ n,t,?_,fun j E=>?_⟩
 ·rw[A9,A9,A9,En,En];have g:((o.set (off+k) d).drop off).take k=(o.drop off).take k:=by
   rw[A8m,if_neg oV,Oe _ _ _ _ oV]
  have m:(o.set (off+k) d).getD (off+k) 0=d:=by
   simp[Ays,h.len,u]
  rw[g,m,<-A,<-h.same (off+k) (Or.inr (Ay2 _)),<-B,A0d];have F:=h.sum;generalize 1000000000^k=p at *
  have C:p*d+p*(q*x)+p*c=p*y+p*1000000000*e:=by
   rw[Az4,<-A0g,<-A0g,<-A0g,f]
  have D:q*(val (List.take k v)+p*x)=q*val (List.take k v)+p*(q*x):=by
   rw[A0g];congr 1;rw[<-Az4,Az5 q,Az4]
  omega
 rw[Gg _ _ oV];exact h.same j oV
structure N7 (full v:List Nat)(off k:Nat)(o:List Nat)(c:Nat):Prop where
 len:o.length=full.length
 low:Low o
 carry:c<=1
 sum:val ((o.drop off).take k)+1000000000^k*c=val ((full.drop off).take k)+val (v.take k)
 same:∀ j,j<off\/off+k<=j->o.getD j 0=full.getD j 0
def N7.start (a v:List Nat)(off:Nat)(h:Low a):N7 a v off 0 a 0 :=
 ⟨rfl,h,oV,by simp[val],fun _ _=>rfl⟩
def N7.step {a v o:List Nat}{off k c x y:Nat}(h:N7 a v off k o c)(u:Low v)(t:off+k<a.length)
 (e:x=v.getD k 0) (f:y=o.getD (off+k) 0) :
 N7 a v off (k+1) (o.set (off+k) ((y+x+c)%1000000000)) ((y+x+c)/1000000000):=by
 have n:=u.getD k;have q:=h.low.getD (off+k);have A:=h.carry;rw[<-e]at n;rw[<-f]at q;refine⟨by simp[h.len],h.low.set _ oV,oV,?_,fun j B=>?_⟩
 ·rw[A9,A9,A9,En,En];have g:((o.set (off+k) ((y+x+c)%1000000000)).drop off).take k=(o.drop off).take k:=by
   rw[A8m,if_neg oV,Oe _ _ _ _ oV]
  have m:(o.set (off+k) ((y+x+c)%1000000000)).getD (off+k) 0=(y+x+c)%1000000000:=by
   simp[Ays,h.len,t]
  rw[g,m,<-e,<-h.same (off+k) (Or.inr (Ay2 _)),<-f,A0d,A1l,Hz,A0g,A0g];have C:=h.sum;omega
 rw[Gg _ _ oV];exact h.same j oV
end
section
variable {A V j m n:Nat}{qs u:List Nat}
def Abn (l:List Nat)(n:Nat):val (l.take (n+2))=val (l.take n)+1000000000^n*(l.getD n 0+1000000000*l.getD (n+1) 0):=by
 rw[A9,A9,A0d,A0g,Az4];omega
def Gl {l:List Nat}(h:Low l)(k:Nat):val (l.take k)<1000000000^k :=
 A0k (K5 (h.take k)) (Azr oV (by rw[Ay1];omega))
def Agk {a v:List Nat}{off n:Nat}(D:v.length=n+2)(e:Low a)(f:Low v)(g:500000000<=v.getD (n+1) 0)
 (q:val ((a.drop off).take (n+3))<1000000000*val v) :
 Yl (v.getD (n+1) 0) (v.getD n 0) (a.getD (off+n) 0) (a.getD (off+(n+2)) 0*1000000000+a.getD (off+(n+1)) 0) (1000000000^n) (val v) (val ((a.drop off).take (n+3))):=by
 have k:val v=(v.getD (n+1) 0*1000000000+v.getD n 0)*1000000000^n+val (v.take n):=by
  have:=Abn v n;rw[<-D,Azj]at this;rw[this,Az5 (v.getD (n+1) 0*1000000000+v.getD n 0),Az5 (v.getD (n+1) 0),A6r (v.getD n 0),A6r]
 have h:val ((a.drop off).take (n+3))=((a.getD (off+(n+2)) 0*1000000000+a.getD (off+(n+1)) 0)*1000000000+a.getD (off+n) 0)*1000000000^n+val ((a.drop off).take n):=by
  rw[A9,Abn,En,En,En,A3a,Az5 _ (1000000000^n)];generalize 1000000000^n=p;rw[show (1000000000:Nat)^2=1000000000*1000000000 by rfl,Az4 p,A1l (val _),<-A0g,A6r (val _)]
  congr 2
  omega
 have t:=f.getD (n+1);have B:=f.getD n;have C:=e.getD (off+n);have K:=e.getD (off+(n+1));have L:=e.getD (off+(n+2));have E:=Gl f n;have l2:=Gl (e.drop off) n;refine⟨⟨_,E,k⟩,⟨_,l2,h⟩,g,t,B,C,?_,q⟩;rw[h,k]at q;generalize v.getD (n+1) 0=v1 at *
 generalize v.getD n 0=v2 at *
 generalize a.getD (off+n) 0=u2 at *
 generalize a.getD (off+(n+1)) 0=u1 at *
 generalize a.getD (off+(n+2)) 0=u0 at *
 generalize val ((a.drop off).take n)=x at *
 generalize val (v.take n)=y at *
 generalize 1000000000^n=p at *
 have:(u0*1000000000*1000000000)*p<((v1+1)*1000000000*1000000000)*p:=by
  have F:(u0*1000000000*1000000000)*p<=((u0*1000000000+u1)*1000000000+u2)*p:=Az7 _ oV;have H:1000000000*((v1*1000000000+v2)*p+y)<=1000000000*((v1*1000000000+v2+1)*p):=by
   refine A0n _ ?_;rw[Azt _ 1,A1k];omega
  have I:1000000000*((v1*1000000000+v2+1)*p)=(1000000000*(v1*1000000000+v2+1))*p:=by rw[Az4]
  have J:(1000000000*(v1*1000000000+v2+1))*p<=((v1+1)*1000000000*1000000000)*p:=Az7 _ oV;omega
 have:=A5a this;omega
def Hw (l:List Nat)(off n:Nat):val ((l.drop off).take (n+1))=val ((l.drop off).take n)+1000000000^n*l.getD (off+n) 0:=by
 rw[A9,En]
def Adt (o:List Nat)(off n d:Nat)(h:off+n<o.length):val (((o.set (off+n) d).drop off).take (n+1))=val ((o.drop off).take n)+1000000000^n*d:=by
 rw[Hw];have a:((o.set (off+n) d).drop off).take n=(o.drop off).take n:=by
  rw[A8m,if_neg oV,Oe _ _ _ _ oV]
 have e:(o.set (off+n) d).getD (off+n) 0=d:=by simp[Ays,h]
 rw[a,e]
structure Rr (full:List Nat)(off n V:Nat)(o:List Nat):Prop where
 len:o.length=full.length
 low:Low o
 rest:val ((o.drop off).take (n+1))=val ((full.drop off).take (n+1))%V
 same:∀ j,j<off\/off+n<j->o.getD j 0=full.getD j 0
def Ack {e v o:List Nat}{off n q c:Nat}(C:v.length=n)(H:off+n<e.length)(h:Mn e v off q n o c)(F:Low e)
 (t:val ((e.drop off).take (n+1))/val v<=q) (f:0<val v) (L:c<=e.getD (off+n) 0) :
 q=val ((e.drop off).take (n+1))/val v/\Rr e off n (val v) (o.set (off+n) (e.getD (off+n) 0-c)):=by
 have J:=h.sum;rw[<-C,Azj,C]at J;have K:=Hw e off n;have g:=Adt o off n (e.getD (off+n) 0-c) (by rw[h.len];exact H);have B:=F.getD (off+n);generalize O:e.getD (off+n) 0=u at *
 generalize k:val ((e.drop off).take (n+1))=U at *
 generalize val v=V at *
 generalize val ((e.drop off).take n)=x at *
 generalize val ((o.drop off).take n)=y at *
 have I:1000000000^n*u=1000000000^n*c+1000000000^n*(u-c):=by rw[<-A0g];congr 1;omega
 have E:U=q*V+(y+1000000000^n*(u-c)):=by
  generalize 1000000000^n*(u-c)=a at *
  generalize 1000000000^n*c=b at *
  generalize 1000000000^n*u=d at *
  omega
 have D:q=U/V:=by
  refine A6q ?_ t;rw[A2x f];omega
 refine⟨D,by simp[h.len],h.low.set _ oV,?_,fun j N=>?_⟩
 ·rw[g,k];have:=A1j U V;rw[<-D,Az5]at this;generalize 1000000000^n*(u-c)=a at *
  omega
 rw[Gg _ _ oV];exact h.same j oV
def Aln {e v o D:List Nat}{off n q c B:Nat}(L:v.length=n)(X:off+n<e.length)(h:Mn e v off q n o c)
 (I:q<=val ((e.drop off).take (n+1))/val v+1) (g:0<val v) (hv:val v<1000000000^n) (hc:e.getD (off+n) 0<c) (t:N7 o v off n D B) :
 q=val ((e.drop off).take (n+1))/val v+1/\e.getD (off+n) 0+B=c/\Rr e off n (val v) (D.set (off+n) 0):=by
 have O:=h.sum;have K:=t.sum;rw[<-L,Azj,L]at O K;have hU:=Hw e off n;have C:=Adt D off n 0 (by rw[t.len,h.len];exact X);have hy:=Gl (h.low.drop off) n;have hz:=Gl (t.low.drop off) n;have R:=A1j (val ((e.drop off).take (n+1))) (val v);have Z:=A0z (val ((e.drop off).take (n+1))) g;generalize e.getD (off+n) 0=u at *
 generalize F:val ((e.drop off).take (n+1))=U at *
 generalize val v=V at *
 generalize val ((e.drop off).take n)=x at *
 generalize val ((o.drop off).take n)=y at *
 generalize val ((D.drop off).take n)=z at *
 have Q:=t.carry;obtain⟨k,rfl⟩:∃ k,c=u+1+k:=⟨c-u-1,oV⟩;have Y:1000000000^n*(u+1+k)=1000000000^n*u+1000000000^n+1000000000^n*k:=by rw[A0g,A0g,A38]
 have W:1000000000^n*0<=1000000000^n*k:=A0n _ (Azh _);rw[Y]at O;generalize hP:1000000000^n=P at *
 have J:U<q*V:=by
  generalize P*u=a at *
  generalize P*k=b at *
  omega
 have N:q=U/V+1:=by
  refine A6q I ?_;exact (A05 g).2 J
 have a0:q*V=V*(U/V)+V:=by rw[N,Azt,A1k,Az5]
 have E:z+P*B=U%V+P+P*k:=by
  generalize P*u=a at *
  generalize P*k=b at *
  generalize P*B=d at *
  generalize V*(U/V)=f at *
  omega
 have H:B=1:=by
  rcases Azx B with h0|h0
  ·subst h0;rw[A1y]at E;generalize P*k=b at *
   omega
  omega
 subst H;rw[A38]at E;have T:k=0:=by
  rcases Azx k with h0|h0
  ·exact h0
  have:P*1<=P*k:=A0n _ h0;generalize P*k=b at *
  omega
 subst T;refine⟨N,oV,by simp[t.len,h.len],t.low.set _ oV,?_,fun j hj=>?_⟩
 ·rw[C,F,A1y,A1r];rw[A1y]at E;omega
 rw[Gg _ _ oV,t.same j oV];exact h.same j oV
structure Nb (A V n m:Nat)(j:Nat)(u qs:List Nat):Prop where
 ulen:u.length=m+n
 qlen:qs.length=m
 ulow:Low u
 qlow:Low qs
 less:val (u.drop j)<V
 sum:val u+1000000000^j*(val (qs.drop j)*V)=A
 zero:∀ k,j+n<=k->u.getD k 0=0
def Hu {j k:Nat}(h:∀ i,j+k<=i->u.getD i 0=0):val ((u.drop j).take k)=val (u.drop j):=by
 have g:val ((u.drop j).drop k)=0:=by
  have:∀ (l:List Nat),(∀ i,l.getD i 0=0)->val l=0:=by
   intro l;induction l with
   |nil=>intro _;rfl
   |cons d l ih =>
    intro a;have h0:d=0:=by simpa using a 0
    have e:=ih (fun i=>by simpa using a (i+1));simp[val,h0,e]
  refine this _ (fun i=>?_);rw[En,En];exact h _ oV
 by_cases f:k<=(u.drop j).length
 ·have:=Gi (u.drop j) k f;rw[g]at this;omega
 rw[Ay6 oV]
def Afg (a:j<u.length):val (u.drop j)=u.getD j 0+1000000000*val (u.drop (j+1)):=by
 rw[Cj u j a];rfl
def Nb.before (h:Nb A V n m (j+1) u qs)(a:j<m) :
 val ((u.drop j).take (n+1))<1000000000*V:=by
 rw[Hu (fun i hi=>h.zero i oV),Afg (by have:=h.ulen;omega)];have:=h.less;have:=h.ulow.getD j;omega
def Nb.step {A V n m j:Nat}{u g qs:List Nat}(h:Nb A V n m (j+1) u qs)(H:j<m)(O:0<V)(P:V<1000000000^n)
 (B:Rr u j n V g) (Q:val ((u.drop j).take (n+1))/V<1000000000) :
 Nb A V n m j g (qs.set j (val ((u.drop j).take (n+1))/V)):=by
 have t:=B.rest;have F:=A0z (val ((u.drop j).take (n+1))) O;have D:g.getD (j+n) 0=0:=by
  have:=Hw g j n;rcases Azx (g.getD (j+n) 0) with h0|h0
  ·exact h0
  have:1000000000^n*1<=1000000000^n*g.getD (j+n) 0:=A0n _ h0;omega
 have f:∀ k,j+n<=k->g.getD k 0=0:=by
  intro k T;by_cases e:k=j+n
  ·rw[e];exact D
  rw[B.same k oV];exact h.zero k oV
 have C:val (g.drop j)=val ((u.drop j).take (n+1))%V:=by
  rw[<-t,Hu (fun i hi=>f i oV)]
 refine⟨by rw[B.len];exact h.ulen,by simp[h.qlen],B.low,h.qlow.set _ Q,by rw[C];exact F,?_,f⟩;have a:=h.sum;have I:=Gi u j (by have:=h.ulen;omega);have J:=Gi g j (by have:=h.ulen;have:=B.len;omega);have K:g.take j=u.take j:=by
  apply A2f;intro i;rw[A1x,A1x];split
  ·rename_i hi;have:=B.same i (Or.inl hi);have R:i<g.length:=by have:=h.ulen;have:=B.len;omega
   have l2:i<u.length:=by have:=h.ulen;omega
   simp[Ays,R,l2]at this⊢;exact this
  rfl
 have L:val ((u.drop j).take (n+1))=val (u.drop j):=Hu (fun i hi=>h.zero i oV);have N:val ((qs.set j (val ((u.drop j).take (n+1))/V)).drop j)=val ((u.drop j).take (n+1))/V+1000000000*val (qs.drop (j+1)):=by
  rw[Cj _ j (by simp[h.qlen,H]),A5e oV];have:(qs.set j (val ((u.drop j).take (n+1))/V)).getD j 0=val ((u.drop j).take (n+1))/V:=by
   simp[Ays,h.qlen,H]
  rw[this];rfl
 rw[N,J,K,C,L];rw[I,A0d]at a;have E:=A1j (val (u.drop j)) V;generalize val (u.drop j)/V=q at *
 generalize val (u.drop j)%V=r at *
 generalize val (u.take j)=x at *
 generalize val (qs.drop (j+1))=y at *
 generalize 1000000000^j=p at *
 rw[<-E]at a;rw[<-a,Azt,A0g,A0g,Az5 V q];rw[show p*1000000000*(y*V)=p*(1000000000*y*V) by rw[Az4,Az4]];omega
def Nb.done (h:Nb A V n m 0 u qs)(f:0<V):val qs=A/V/\val u=A%V:=by
 have e:=h.sum;have a:=h.less;simp only[A25,A7n,A1k]at e a;rw[<-e];constructor
 ·rw[Nat.add_mul_div_right _ _ f,A2l a,A0h]
 rw[Nat.add_mul_mod_self_right,A3u a]
end
section
variable {a b w wr:World}{base g n:Nat}{e:TypeId}{o:List Nat}{r:Option Nat}
def U4 (w:World)(r:Option Nat):w.grownBy w r:=⟨rfl,rfl,rfl,Ay2 _,fun _ _ _=>rfl⟩
def Tn {a b c:World}(h:a.grownBy b r)(k:b.grownBy c r):a.grownBy c r :=
 ⟨k.os.trans h.os,k.tape.trans h.tape,k.output.trans h.output,Ayv h.size k.size,fun i hi f=>(k.block i (A0k hi h.size) f).trans (h.block i hi f)⟩
def Aeo (h:a.grownBy b r)(n:Nat):a.grownBy (b.drewN n) r:=by
 obtain⟨f,j,k,m,q⟩:=h;exact⟨f,j,k,m,q⟩
def Gb (w:World)(g:Nat)(a:Option Addr)(cs:List Value):Prop:=Row w a cs/\∀ b off,a=some ⟨b,off,none⟩->b≠g
def Gb.grown {w w':World}{a:Option Addr}{cs:List Value}(h:Gb w g a cs)(m:w.grownBy w' (some g)):Gb w' g a cs:=by
 refine⟨fun j q=>?_,h.2⟩;obtain⟨b,off,f,k⟩:=h.1 j q;exact⟨b,off,f,m.cell k (by simp;exact h.2 b off f)⟩
def Ar9 (w:World)(base g N:Nat)(full:List Nat)(off n V:Nat)(e:Ending)(w':World):Prop :=
 ∃ o,e=.returned (.int .u64 ((val ((full.drop off).take (n+1))/V:Nat):Int))/\Rr full off n V o /\
  w'.ownsRow base 254 1 (.slice (some ⟨g,0,none⟩) N N) N (Be o)/\w.grownBy w' (some g)
def Apj (w:World)(v1 top V U:Nat)(q r:Value)(wr:World):Prop :=
 ∃ qq rr:Nat,q=.int .u64 (qq:Int)/\r=.int .u64 (rr:Int)/\Qm v1 top V U qq rr/\rr<2000000000/\∃ d,wr=w.drewN d
def Arv (w:World)(base g N:Nat)(full m:List Nat)(off q n:Nat)(c i:Value)(wr:World):Prop :=
 ∃ (k:Nat) (o:List Nat) (cc:Nat),k<=n/\i=.int .i64 k/\c=.int .u64 (cc:Int)/\Mn full m off q k o cc /\
  wr.ownsRow base 254 1 (.slice (some ⟨g,0,none⟩) N N) N (Be o)/\w.grownBy wr (some g)
def Asz (w:World)(base g N:Nat)(full m:List Nat)(off n:Nat)(c i:Value)(wr:World):Prop :=
 ∃ (k:Nat) (o:List Nat) (cc:Nat),k<=n/\i=.int .i64 k/\c=.int .u64 (cc:Int)/\N7 full m off k o cc /\
  wr.ownsRow base 254 1 (.slice (some ⟨g,0,none⟩) N N) N (Be o)/\w.grownBy wr (some g)
def Gu {n j:Nat}(h:wr.ownsRow base e 1 (.slice (some ⟨g,0,none⟩) n n) n (Be o))(m:j<o.length) :
 wr.cell? ⟨g,j,none⟩=some (.int .u64 (o.getD j 0:Nat)):=by
 obtain⟨b,off,f,k⟩:=(Row.of_owns h).at m;simp only[Ayz,Addr.mk.injEq,and_true]at f;obtain⟨rfl,rfl⟩:=f;rw[A0h]at k;exact k
def Mm (j d:Nat)(h:wr.ownsRow base e 1 (.slice (some ⟨g,0,none⟩) n n) n (Be o))(x:w.grownBy wr (some g)) :
 (wr.setCell ⟨g,j,none⟩ (.int .u64 (d:Int))).ownsRow base e 1 (.slice (some ⟨g,0,none⟩) n n) n (Be (o.set j d)) /\
  w.grownBy (wr.setCell ⟨g,j,none⟩ (.int .u64 (d:Int))) (some g):=by
 have:=h.stored j (.int .u64 (d:Int));rw[V9]at this;exact⟨this.1,Tn x this.2⟩
def Ald {u c b:Nat}(h:u+c=b):IntKind.u64.wrap ((u:Int)+IntKind.u64.wrap ((c:Int)-b))=((0:Nat):Int):=by
 have e:∀ n:Int,IntKind.u64.wrap n=n%18446744073709551616:=fun n=>by simp[IntKind.wrap,IntKind.signed,IntKind.bits]
 rw[e,e];omega
set_option maxRecDepth 100000 in
def Akq (base g N off n cu:Nat)(b:Option Addr)(cb:Nat)(f m:List Nat)(w:World)
 (q:w.ownsRow base 254 1 (.slice (some ⟨g,0,none⟩) N N) N (Be f)) (hv:Gb w g b (Be m)) (ah:f.length=N)
 (lf:Low f) (lm:Low m) (hm:m.length=n+2) (hN:off+(n+2)<N) (ax:N<=30000000000000) (b7:n+3<=cu)
 (ak:500000000<=m.getD (n+1) 0) (hU:val ((f.drop off).take (n+3))<1000000000*val m) :
 Calls prog 260 #[.slice (some ⟨g,off,none⟩) (n+3) cu,.slice b (n+2) cb] w (Ar9 w base g N f off (n+2) (val m)):=by
 have hp:=Agk hm lf lm ak hU;obtain⟨bv,ov,rfl,a6⟩:=hv.1.at (j:=n+1) oV;have a7:w.cell? ⟨bv,ov+n,none⟩=some (.int .u64 (m.getD n 0:Nat)):=by
  obtain⟨b',ab,h1,h2⟩:=hv.1.at (j:=n) oV;simp only[Ayz,Addr.mk.injEq,and_true]at h1;obtain⟨rfl,rfl⟩:=h1;exact h2
 have a3:=Gu q (j:=off+(n+2)) oV;have a4:=Gu q (j:=off+(n+1)) oV;have a5:=Gu q (j:=off+n) oV;obtain⟨v1,T⟩:∃ x,x=m.getD (n+1) 0:=⟨_,rfl⟩;obtain⟨v2,U⟩:∃ x,x=m.getD n 0:=⟨_,rfl⟩;obtain⟨V,C⟩:∃ x,x=f.getD (off+(n+2)) 0:=⟨_,rfl⟩;obtain⟨u1,H⟩:∃ x,x=f.getD (off+(n+1)) 0:=⟨_,rfl⟩;obtain⟨u2,R⟩:∃ x,x=f.getD (off+n) 0:=⟨_,rfl⟩;rw[<-T,<-U,<-C,<-H,<-R]at hp;rw[<-T]at a6 ak;rw[<-U]at a7;rw[<-C]at a3;rw[<-H]at a4;rw[<-R]at a5;have b1:=hp.v1low;have b2:=hp.v2low;have b3:=hp.u2low;have b4:V<1000000000:=by rw[C];exact lf.getD _
 have b5:u1<1000000000:=by rw[H];exact lf.getD _
 have b6:((v1:Int)==0)=false:=gV;have HP:=Lib.hid hp;have HO:=Lib.hid q;have HV:=Lib.hid hv;have LF:=Lib.hid lf;have LM:=Lib.hid lm;have HM:=Lib.hid hm;have J:=Lib.hid ah;have E0:=Lib.hid C;clear hp q hv lf lm hm ah T U C H R hU
 go_enter func260,ntmps260
 go_wp2_with fail
 go_quiet (fail)
 go_wp2_with fail
 go_quiet (fail)
 go_wp2_with fail
 rw[show ((V:Int)*1000000000+u1)/v1=(((V*1000000000+u1)/v1:Nat):Int) by simp,show ((V:Int)*1000000000+u1)%v1=(((V*1000000000+u1)%v1:Nat):Int) by simp]
 go_loopw [7,8] (Apj w v1 (V*1000000000+u1) (val m) (val ((f.drop off).take (n+3)))) (fun _ r _=>(1000000000-intOf r).toNat)
 case atStart =>
  have a0:=A0z (V*1000000000+u1) (show 0<v1 by omega);exact⟨_,_,rfl,rfl,Qm.start HP.out,oV,_,World.drewN_drewN _ _ _⟩
 case round =>
  obtain⟨I,rr,rfl,rfl,ht,be,d,rfl⟩:=hrel;have HT:=Lib.hid ht;have bb:=ht.qle;clear ht;obtain⟨p,hp⟩:∃ p,p=I*v2:=⟨_,rfl⟩;have an:p<=2000000000*999999999:=by rw[hp];exact A1u oV oV
  have L:((I:Int)*v2)=p:=by rw[hp];exact (A27 _ _).symm
  have PP:=Lib.hid hp;clear hp;by_cases A:rr<1000000000/\(1000000000<=I\/rr*1000000000+u2<p)
  ·have E:=HT.out.step HP.out (by rw[<-PP.out];exact A.2);have ad:=Lib.hid E;have b9:=E.1;clear E;obtain⟨ay,ag⟩:=A;have d1:decide ((rr:Int)<1000000000)=true:=gV;by_cases az:1000000000<=I
   ·have d2:decide ((1000000000:Int)<=I)=true:=gV;clear ag
    go_wp2_with fail
    go_quiet (fail)
    go_wp2_with fail
    exact⟨⟨I-1,rr+v1,by go_num,by go_num,ad.out.2,oV,_,rfl⟩,by simp only[intOf];omega⟩
   have d2:decide ((1000000000:Int)<=I)=false:=gV;have d3:decide ((rr:Int)*1000000000+u2<p)=true:=gV;clear ag
   go_wp2_with fail
   go_quiet (fail)
   go_wp2_with fail
   exact⟨⟨I-1,rr+v1,by go_num,by go_num,ad.out.2,oV,_,rfl⟩,by simp only[intOf];omega⟩
  have P:=HT.out.done HP.out (by rw[<-PP.out];exact A);have HF:=Lib.hid P;have bd:=P.1;clear P;have a1:(decide ((rr:Int)<1000000000)=false)\/(decide ((rr:Int)<1000000000)=true/\decide ((1000000000:Int)<=I)=false/\decide ((rr:Int)*1000000000+u2<p)=false):=by
   simp only[decide_eq_false_iff_not,decide_eq_true_eq];omega
  clear A;rcases a1 with d1|⟨d1,d2,d3⟩;all_goals
   go_wp2_with fail
   go_quiet (fail)
   go_wp2_with fail
   go_loopw [9,80] (Arv w base g N f m off I (n+2)) (fun _ i _=>(n+2)-(intOf i).toNat)
   case atStart=>exact⟨0,f,0,oV,rfl,rfl,Mn.start _ _ _ _ LF.out,Pb HO.out _,Aeo (U4 _ _) _⟩
   case round =>
    obtain⟨k,o,B,hk,rfl,rfl,a2,q,ai⟩:=hrel;have W:=Lib.hid a2;have Y:=Lib.hid q;have HG:=Lib.hid ai;have b0:=a2.carry;have b8:N<=o.length:=by have:=a2.len;have:=J.out;omega
    clear a2 q ai d1 a6 a7 a3 a4 a5 L an;by_cases a0:k<n+2
    ·obtain⟨x,hx⟩:∃ x,x=m.getD k 0:=⟨_,rfl⟩;obtain⟨y,hy⟩:∃ y,y=o.getD (off+k) 0:=⟨_,rfl⟩;have ap:x<1000000000:=by rw[hx];exact LM.out.getD k
     have aq:y<1000000000:=by rw[hy];exact W.out.low.getD _
     have al:wr.cell? ⟨bv,ov+k,none⟩=some (.int .u64 (x:Int)):=by
      obtain⟨b',ab,h1,h2⟩:=(HV.out.grown HG.out).1.at (j:=k) (by rw[HM.out];exact a0);simp only[Ayz,Addr.mk.injEq,and_true]at h1;obtain⟨rfl,rfl⟩:=h1;rw[hx];exact h2
     have t:=Gu Y.out (j:=off+k) oV;have Z:=Y.out.frozenAt (off+k);rw[<-hy]at t;have XX:=Lib.hid hx;have YY:=Lib.hid hy;clear hx hy;obtain⟨D,L⟩:∃ D,D=I*x:=⟨_,rfl⟩;have av:D<=999999999*999999999:=by rw[L];exact A1u oV oV
     have aw:((I:Int)*x)=D:=by rw[L];exact (A27 _ _).symm
     have af:=Lib.hid L;clear L;by_cases bf:y<(D+B)%1000000000
     ·have d4:decide ((y:Int)<((D:Int)+B)%1000000000)=true:=gV
      go_wp2_with fail
      rw[show (y:Int)+1000000000=((y+1000000000:Nat):Int) by omega,show ((y+1000000000:Nat):Int)-((D:Int)+B)%1000000000=((y+1000000000-(D+B)%1000000000:Nat):Int) by omega,show ((D:Int)+B)/1000000000+1=(((D+B)/1000000000+1:Nat):Int) by omega];have aj:=Mm (off+k) (y+1000000000) Y.out HG.out;have h:=Mm (off+k) (y+1000000000-(D+B)%1000000000) aj.1 aj.2;rw[A7o]at h;refine⟨⟨k+1,_,_,oV,by go_num,rfl,?_,h.1,h.2⟩,by simp only[intOf];omega⟩;exact W.out.step (by have:=J.out;omega) XX.out YY.out oV oV (by rw[<-af.out];omega)
     have d4:decide ((y:Int)<((D:Int)+B)%1000000000)=false:=gV
     go_wp2_with fail
     rw[show (y:Int)-((D:Int)+B)%1000000000=((y-(D+B)%1000000000:Nat):Int) by omega,show ((D:Int)+B)/1000000000=(((D+B)/1000000000:Nat):Int) by omega];have h:=Mm (off+k) (y-(D+B)%1000000000) Y.out HG.out;refine⟨⟨k+1,_,_,oV,by go_num,rfl,?_,h.1,h.2⟩,by simp only[intOf];omega⟩;exact W.out.step (by have:=J.out;omega) XX.out YY.out oV oV (by rw[<-af.out];omega)
    obtain rfl:k=n+2:=oV;have t:=Gu Y.out (j:=off+(n+2)) oV;have Z:=Y.out.frozenAt (off+(n+2));rw[W.out.same _ (Or.inr (Ay2 _)),<-E0.out]at t;have u:=HP.out.pos;by_cases am:B<=V
    ·have hd:=Ack HM.out (by rw[J.out];exact hN) W.out LF.out HF.out.2.1 u (by rw[<-E0.out];exact am);rw[<-E0.out]at hd;have HD:=Lib.hid hd;clear hd u
     go_wp2_with fail
     go_ret
     rw[show (V:Int)-B=((V-B:Nat):Int) by omega];have h:=Mm (off+(n+2)) (V-B) Y.out HG.out;exact⟨_,by rw[<-HD.out.1];rfl,HD.out.2,h.1,h.2⟩
    have a9:=W.out.low;have LO:=Lib.hid a9;have VP:=Lib.hid u;clear a9 u t Z;obtain⟨wo,ao⟩:∃ wo:World,wo=wr:=⟨_,rfl⟩;subst ao;have t:=Gu Y.out (j:=off+(n+2)) oV;rw[W.out.same _ (Or.inr (Ay2 _)),<-E0.out]at t
    go_wp2_with fail
    go_loopw [14,132] (Asz w base g N o m off (n+2)) (fun _ i _=>(n+2)-(intOf i).toNat)
    case atStart=>exact⟨0,o,0,oV,rfl,rfl,N7.start _ _ _ LO.out,Y.out,HG.out⟩
    case round =>
     obtain⟨k,o2,O,hk,rfl,rfl,F,Q,a8⟩:=hrel;have X:=Lib.hid F;have K:=Lib.hid Q;have ac:=Lib.hid a8;have ar:=F.carry;have au:N<=o2.length:=by have:=F.len;omega
     clear F Q a8 t;by_cases a0:k<n+2
     ·obtain⟨x,hx⟩:∃ x,x=m.getD k 0:=⟨_,rfl⟩;obtain⟨y,hy⟩:∃ y,y=o2.getD (off+k) 0:=⟨_,rfl⟩;have ap:x<1000000000:=by rw[hx];exact LM.out.getD k
      have aq:y<1000000000:=by rw[hy];exact X.out.low.getD _
      have al:wr.cell? ⟨bv,ov+k,none⟩=some (.int .u64 (x:Int)):=by
       obtain⟨b',ab,h1,h2⟩:=(HV.out.grown ac.out).1.at (j:=k) (by rw[HM.out];exact a0);simp only[Ayz,Addr.mk.injEq,and_true]at h1;obtain⟨rfl,rfl⟩:=h1;rw[hx];exact h2
      have t:=Gu K.out (j:=off+k) oV;have Z:=K.out.frozenAt (off+k);rw[<-hy]at t;have XX:=Lib.hid hx;have YY:=Lib.hid hy;clear hx hy
      go_wp2_with fail
      rw[show ((y:Int)+x+O)%1000000000=(((y+x+O)%1000000000:Nat):Int) by omega,show ((y:Int)+x+O)/1000000000=(((y+x+O)/1000000000:Nat):Int) by omega];have h:=Mm (off+k) ((y+x+O)%1000000000) K.out ac.out;refine⟨⟨k+1,_,_,oV,by go_num,rfl,?_,h.1,h.2⟩,by simp only[intOf];omega⟩;exact X.out.step LM.out (by have:=J.out;have:=W.out.len;omega) XX.out YY.out
     obtain rfl:k=n+2:=oV;have hb:=Aln HM.out (by rw[J.out];exact hN) W.out HF.out.2.2 VP.out (by have:=K5 LM.out;rw[HM.out]at this;exact this) (by rw[<-E0.out];omega) X.out;rw[<-E0.out]at hb;have aa:=hb.2.1;have t:=Gu K.out (j:=off+(n+2)) oV;have Z:=K.out.frozenAt (off+(n+2));rw[X.out.same _ (Or.inr (Ay2 _)),W.out.same _ (Or.inr (Ay2 _)),<-E0.out]at t;have ba:1<=I:=by rw[hb.1];exact Nat.le_add_left 1 _
     have HB:=Lib.hid hb;have ae:=Lib.hid aa;clear hb aa
     go_wp2_with fail
     go_ret
     rw[Ald ae.out];have h:=Mm (off+(n+2)) 0 K.out ac.out;refine⟨_,?_,HB.out.2.2,h.1,h.2⟩;refine congrArg (fun z:Int=>Ending.returned (.int .u64 z)) (a₁:=(I:Int)-1) ?_;have:=HB.out.1;omega
end
section
variable {f k m n:Nat}
structure Arp (n k f:Nat):Prop where
 len:nl n=k+2
 pos:1<=f
 low:f<1000000000
 vlen:nl (n*f)=k+2
 vtop:500000000<=(Aa (n*f)).getD (k+1) 0
 fle:f*1000000000^(k+1)<=n*f
def Ajf (n k:Nat)(h:nl n=k+2):n=val ((Aa n).take (k+1))+1000000000^(k+1)*(Aa n).getD (k+1) 0:=by
 have:=A9 (Aa n) (k+1);rw[Ay6 (show (Aa n).length<=k+1+1 from Nat.le_of_eq h),Al]at this;exact this
def Ate (n k:Nat)(h:nl n=k+2):1<=(Aa n).getD (k+1) 0:=by
 have a:n≠0:=by intro e;rw[e,Uy]at h;omega
 have:=Pc a;have g:(Aa n).length=k+2:=h;rw[g]at this;simp only[A3y,show k+2-1=k+1 from rfl]at this;omega
def Arp.make (h:nl n=k+2):Arp n k (1000000000/((Aa n).getD (k+1) 0+1)):=by
 have J:=Ate n k h;have T:=(An n).getD (k+1);have W:=Ajf n k h;have O:=Gl (An n) (k+1);generalize (Aa n).getD (k+1) 0=b at *
 have a:=A1j 1000000000 (b+1);have Q:=A0z 1000000000 (show 0<b+1 by omega);generalize V:1000000000/(b+1)=f at *
 generalize 1000000000%(b+1)=r at *
 have e:1<=f:=by
  rcases Azx f with h0|h0
  ·rw[h0,A1y]at a;omega
  exact h0
 have u:f<1000000000:=by
  have:(1+1)*f<=(b+1)*f:=Az7 _ oV;omega
 have L:b*f+f+r=1000000000:=by rw[Azt,A1k]at a;exact a
 have F:b+f<=b*f+1:=by
  obtain⟨x,rfl⟩:∃ x,b=x+1:=⟨b-1,oV⟩;obtain⟨y,rfl⟩:∃ y,f=y+1:=⟨f-1,oV⟩;rw[Azt,A0g,A1k,A38];have:0<=x*y:=Azh _;omega
 have H:500000000<=b*f:=oV;generalize X:val ((Aa n).take (k+1))=x at *
 generalize j:1000000000^(k+1)=P at *
 have q:P<=n:=by
  have:P*1<=P*b:=A0n _ J;omega
 have A:n*f<P*1000000000:=by
  have C:n<P*(b+1):=by rw[A0g,A38];omega
  have I:n*f<P*(b+1)*f:=A48 C oV;have D:P*(b+1)*f<=P*1000000000:=by rw[Az4];exact A0n _ oV
  omega
 have N:P<=n*f:=by
  have:n*1<=n*f:=A0n _ e;omega
 have g:nl (n*f)=k+2:=by
  refine A6q (Bc (by rw[show k+2=k+1+1 from rfl,A0d,j];exact A)) ?_;rcases Az8 (nl (n*f)) (k+2) with E|E
  ·have U:=Cy (n*f);have K:1000000000^nl (n*f)<=1000000000^(k+1):=Azr oV oV;rw[j]at K;omega
  exact E
 refine⟨h,e,u,g,?_,?_⟩
 ·have R:=Ajf (n*f) k g;have B:=Gl (An (n*f)) (k+1);rw[j]at R B;generalize (Aa (n*f)).getD (k+1) 0=t at *
  have C:P*(b*f)<=n*f:=by
   rw[<-Az4];exact Az7 _ oV
  have I:n*f<P*(t+1):=by rw[A0g,A38];omega
  have D:P*(b*f)<P*(t+1):=oV;have:=A7k D;omega
 rw[Az5 n];exact A0n _ (by rw[j];exact q)
def Nb.start {m n k f M:Nat}(h:Arp n k f)(A:nl m+1=M+(k+2)) :
 Nb (m*f) (n*f) (k+2) M M (Aa (m*f)++List.replicate (M+(k+2)-nl (m*f)) 0) (List.replicate M 0):=by
 have F:nl (m*f)<=M+(k+2):=by
  rw[<-A];refine Ayv (In m f) (Nat.add_le_add_left ?_ _);exact Bc (by simpa using h.low)
 have e:(Aa (m*f)++List.replicate (M+(k+2)-nl (m*f)) 0).length=M+(k+2):=by
  rw[Ay3,A1a];unfold nl at *;omega
 have a:val (Aa (m*f)++List.replicate (M+(k+2)-nl (m*f)) 0)=m*f:=by
  rw[P5,Yr,Al];omega
 refine⟨e,mV,(An _).append (Low.zeros _),Low.zeros _,?_,?_,?_⟩
 ·have B:=Gi (Aa (m*f)++List.replicate (M+(k+2)-nl (m*f)) 0) M oV;rw[a]at B;generalize val ((Aa (m*f)++List.replicate (M+(k+2)-nl (m*f)) 0).drop M)=y at *
  generalize val ((Aa (m*f)++List.replicate (M+(k+2)-nl (m*f)) 0).take M)=x at *
  have q:=Cy m;rw[show nl m=M+(k+1) by omega,A3a]at q;have g:=h.fle;have t:=h.pos;generalize 1000000000^(k+1)=P at *
  generalize 1000000000^M=Q at *
  have C:m*f<Q*P*f:=A48 q oV;have D:Q*P*f=Q*(f*P):=by rw[Az4,Az5 P]
  have u:Q*y<Q*(f*P):=oV;have:=A7k u;omega
 ·rw[a,Az1 mV];simp[val]
 intro j E;have:(Aa (m*f)++List.replicate (M+(k+2)-nl (m*f)) 0)[j]?=none:=Azo oV;rw[Ays,this];rfl
def Adk (a:0<f):m*f/(n*f)=m/n/\m*f%(n*f)=(m%n)*f :=
 ⟨Nat.mul_div_mul_right m n a,Nat.mul_mod_mul_right f m n⟩
end
end Go.Proofs.YtijchbjkdllolaaGreatDoor
