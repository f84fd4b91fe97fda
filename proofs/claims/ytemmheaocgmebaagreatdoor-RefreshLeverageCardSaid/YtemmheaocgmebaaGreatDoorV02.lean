import Derived.Test.YtemmheaocgmebaaGreatDoorV01
import Derived.RangeFuncRecord
set_option linter.defProp false
set_option linter.unusedVariables false
set_option linter.unusedSimpArgs false
set_option linter.unusedSectionVars false
set_option maxHeartbeats 16000000
namespace Go.Proofs.YtemmheaocgmebaaGreatDoor
def A6x:=@List.filter_cons
def A2u:=@List.map_cons
def A3g:=@List.cons.injEq
def A4l:=@List.mem_cons_self
def A5s:=@Array.getElem?_append_left
section
variable {T:zK}{c:Cx}{d:Deferred}{dl:List Deferred}{id:Nat}{m u:PH}{ops:Array Oper}{s:S}{t:Array Value}{w:World}{ρ:Nat->Nat}
variable [Cl] [Pu]
section based
variable [Co]
inductive KI where
 |code (c:Code)
 |blk (id:Nat)
 |reg (id:Nat) (ops:Array Oper) (dr:Bool) (l:zK)
 |lp (J:S->PH->PH->Prop)
def Ady (c:Cx)(Post:Value->PH->PH->Prop):Ending->World->Prop:=fun e w'=>∃ v u' m',e=.returned v/\Bv u' m' w'/\B0 c.u0 c.m0 c.w0 u' m' w'/\Post v u' m'
def Ag (P:Program)(f:FuncId)(args:zV)(u m:PH)(Post:Value->PH->PH->Prop):Prop:=∀ w,Bv u m w->Calls P f args.toArray w (Ady ⟨w,u,m⟩ Post)
structure Ce where
 post:Value->PH->PH->Prop
 m0:PH
abbrev Am4 (P:Program)(fn:Func)(R:Ending->World->Prop):Exit->Act->World->Prop:=bodyPostM Fence.wide 1 P fn R
def It (P:Program)(fn:Func)(Post:Ce)(c:Cx):List KI->Exit->Act->World->Prop
 |[]=>Am4 P fn (Ady c Post.post)
 |.code x::k=>Exit.then (x.wp P (It P fn Post c k)) (It P fn Post c k)
 |.blk id::k=>Exit.inBlock id (It P fn Post c k)
 |.reg _ _ _ _::k=>It P fn Post c k
 |.lp J::k=>Exit.then (fun a w=>∃ s u m ρ,Rel c s u m ρ a w/\J s u m) (It P fn Post c k)
def Hm (P:Program)(fn:Func)(Post:Ce)(ks:List KI)(s:S)(u m:PH):Prop:=∀ c ρ a w,c.m0=Post.m0->Rel c s u m ρ a w->It P fn Post c ks .normal a w
def Sym (P:Program)(fn:Func)(Post:Ce)(ks:List KI)(s:S)(u m:PH):Prop :=
 match ks with
 |.reg id ops dr l::k=>Ob P id ops dr (Hm P fn Post k) l s u m
 |ks=>Hm P fn Post ks s u m
def Rm (id:Nat):List KI->Option (List KI)
 |.blk j::k=>cond (Nat.beq j id) (some k) (Rm id k)
 |_::k=>Rm id k
 |[]=>none
def Ao8 (ops:Array Oper)(done:zK)(i:Nat):Bool:=match ops[i]? with
 |some o=>!(done.contains i)&&o.after.toList.all fun e=>!Region.binds .any e||done.contains e.on
 |none=>false
def Wt (ops:Array Oper):Nat->zK->zK
 |0,done=>done.reverse
 |f+1,done=>match (List.range ops.size).find? (fun i=>Ao8 ops done i&&(match ops[i]? with|some o=>Fa o.op|none=>false)) with
  |some i=>Wt ops f (i::done)
  |none=>match (List.range ops.size).find? (Ao8 ops done) with
   |some i=>Wt ops f (i::done)
   |none=>done.reverse
def Aw4 (ops:Array Oper):zK:=Wt ops ops.size []
def F2:List KI->Bool
 |.reg ..::_=>false
 |_=>true
def one (P:Program)(ks:List KI)(s:S):Option (List KI×S) :=
 match ks with
 |.code .skip::k=>cond (F2 k) (some (k,s)) none
 |.code (.seq x y)::k=>some (.code x::.code y::k,s)
 |.code (.block id x)::k=>some (.code x::.blk id::k,s)
 |.code (.exit id)::k=>match Rm id k with|some k'=>cond (F2 k') (some (k',s)) none|none=>none
 |.code (.cond x y z)::k=>match s.ev x with
  |.v (.bool true)=>some (.code y::k,s)
  |.v (.bool false)=>some (.code z::k,s)
  |_=>none
 |.code (.region id ops false)::k=>some (.reg id ops false (List.range ops.size)::k,s)
 |.code (.region id ops true)::k=>cond (Ark ops s (Aw4 ops)) (some (.reg id ops true (Aw4 ops)::k,s)) none
 |.blk _::k=>cond (F2 k) (some (k,s)) none
 |.reg _ _ _ []::k=>cond (F2 k) (some (k,s)) none
 |.reg id ops dr (i::l)::k=>match ops[i]? with
  |some o=>match Fb s o with
   |true=>match gv s ops o with
    |some true=>match eff P (id*1000+i) s o.op with
     |some (x,hw)=>some (.reg id ops dr l::k,(s.put o.dst x).setb hw)
     |none=>none
    |some false=>some (.reg id ops dr l::k,s.put o.dst (.v undef))
    |none=>none
   |false=>none
  |none=>none
 |_=>none
def run (P:Program):Nat->List KI×S->List KI×S
 |0,st=>st
 |n+1,st=>match one P st.1 st.2 with
  |some st'=>run P n st'
  |none=>st
end based
section sound
variable {P:Program} {fn:Func} {Post:Ce}
section based
variable [Co]
def Mc {c:Cx}{id:Nat}:∀ {k b:List KI},Rm id k=some b->∀ {a:Act} {w:World},It P fn Post c b .normal a w->It P fn Post c k (.exit id) a w
 |.blk j::k,b,h,a,w,hc=>by
  unfold Rm at h;cases hb:Nat.beq j id with
  |true =>
   simp[hb]at h;subst h;have:=A1y hb;subst this;simp[It,Exit.inBlock];exact hc
  |false =>
   simp[hb]at h;have f:id≠j:=fun e=>by subst e;simp at hb
   simp only[It,Exit.inBlock,if_neg f];exact Mc h hc
 |.code x::k,b,h,a,w,hc=>by simp only[Rm]at h;simp only[It,Exit.then];exact Mc h hc
 |.reg _ _ _ _::k,b,h,a,w,hc=>by simp only[Rm]at h;simp only[It];exact Mc h hc
 |.lp J::k,b,h,a,w,hc=>by simp only[Rm]at h;simp only[It,Exit.then];exact Mc h hc
 |[],b,h,a,w,hc=>by simp[Rm]at h
def J6 {c:Cx}{a:Act}{w:World}(h:Am4 P fn (Ady c Post.post) .ret a w):∀ k:List KI,It P fn Post c k .ret a w
 |[]=>h
 |.blk j::k=>by simp only[It,Exit.inBlock];exact J6 h k
 |.code x::k=>by simp only[It,Exit.then];exact J6 h k
 |.reg _ _ _ _::k=>by simp only[It];exact J6 h k
 |.lp J::k=>by simp only[It,Exit.then];exact J6 h k
def Rel.drew {a:Act}(h:Rel c s u m ρ a w):Rel c s u m ρ a { w with drawn:=w.drawn+1 } :=
 ⟨h.sz,h.tm,h.df,h.box,h.inj,h.lv,⟨h.gd.pu,h.gd.pm,h.gd.ap,h.gd.cl⟩,⟨h.gr.sz,h.gr.old,h.gr.us,h.gr.ms,h.gr.io,fun f=>⟨(h.gr.dr f).tape,Nat.le_succ_of_le (h.gr.dr f).dr⟩⟩⟩
theorem Rel.shut (h:Rel c s u m ρ { tmps:=t,defers:=d::dl } w)(J:U3 d=true) :
 ∃ r w',d.target=.collected r/\(Instr.takeDeferred r).run P w=.ok [] w'/\Rel c s u m ρ { tmps:=t,defers:=dl } w':=by
 obtain⟨q,F,l,A,H⟩:=h.df;rw[A6x,if_pos J]at l;cases q with
 |nil=>cases l
 |cons r q =>
  rw[A2u,A3g]at l;obtain⟨rfl,l⟩:=l;obtain⟨x,R,B,C⟩:=H r A4l;have n:∀ g,g≠r->(w.putObj r (.deferred none)).heap[g]?=w.heap[g]?:=fun g a=>World.putObj_heap_other a;have O:(w.putObj r (.deferred none)).heap[r]?=some (.deferred none):=World.putObj_heap_same (Aw x);refine⟨r,w.putObj r (.deferred none),rfl,run_takeDeferred x,h.sz,h.tm,⟨q,(A4j.1 F).2,l,A,fun r' N=>?_⟩,fun k b I=>?_,h.inj,h.lv,⟨fun g o a=>?_,fun g o a=>?_,h.gd.ap,fun g p Q y j z a K=>?_⟩,⟨?_,fun g a L=>?_,h.gr.us,h.gr.ms,h.gr.io,fun f=>⟨(h.gr.dr f).tape,(h.gr.dr f).dr⟩⟩⟩
  ·grind
  ·obtain⟨⟨cs,f1,f2,D⟩,E⟩:=h.box k b I;refine⟨⟨cs,?_,f2,D⟩,E⟩;rw[n _ (fun e=>by rw[e,x]at f1;cases f1)];exact f1
  ·rw[n g (fun e=>by rw[e,B]at a;cases a)];exact h.gd.pu g o a
  ·rw[n g (fun e=>by rw[e,C]at a;cases a)];exact h.gd.pm g o a
  ·rw[n g (fun e=>by rw[e,O]at a;cases a)]at a;exact h.gd.cl g p Q y j z a K
  ·grind
  rw[n g oV];exact h.gr.old g a L
end based
def Rel.marks (a:Rel c s u m ρ { tmps:=t,defers:=d::dl } w):U3 d=true:=by
 obtain⟨_,_,_,h,_⟩:=a.df;cases e:U3 d with
 |true=>rfl
 |false=>simp_all
def Rel.leaves {c:Cx}{R:Ending->World->Prop}{s:S}{u m:PH}{ρ:Nat->Nat}{t:Array Value}{v:Value}:∀ {dl:List Deferred} {w:World},Rel c s u m ρ { tmps:=t,defers:=dl } w ->
 (∀ w',Rel c s u m ρ { tmps:=t,defers:=[] } w'->(results fn t).run P w'=.ok v w'/\R (.returned v) w')->LeavesInM Fence.wide 1 P fn t R dl .returning w
 |[],w,hr,hv=>⟨v,(hv w hr).1,(hv w hr).2⟩
 |d::dl,w,hr,hv=>by
  obtain⟨r,w',a,b,e⟩:=hr.shut (P:=P) hr.marks;exact⟨mV,.inl ⟨r,w',a,b,e.leaves hv⟩⟩
def Rel.ends {c:Cx}{R:Ending->World->Prop}{s:S}{u m:PH}{ρ:Nat->Nat}{a:Act}{w:World}(b:Rel c s u m ρ a w){v:Value}
 (e:∀ w',Rel c s u m ρ { tmps:=a.tmps,defers:=[] } w'->(results fn a.tmps).run P w'=.ok v w'/\R (.returned v) w'):Am4 P fn R .ret a w/\Am4 P fn R .normal a w:=by
 have:=b.leaves (P:=P) (fn:=fn) (R:=R) e;exact⟨this,this⟩
section based
variable [Co]
def Sym.reg_seq {k:List KI}(h:Ob P id ops false (Hm P fn Post k) (List.range ops.size) s u m):Hm P fn Post (.code (.region id ops false)::k) s u m:=fun c ρ a w b e=>wp_region (h.wpOps (fun s u m ρ a w f e=>f c ρ a w b e) e)
def Aob (h:Ark ops s T=true):T.length=ops.size/\(∀ i,i<ops.size->i∈T)/\(∀ i∈T,i<ops.size)/\T.Nodup/\T.Pairwise (fun x y=>Ge ops s x y=true)/\(List.range ops.size).all (Kd ops)=true:=by
 unfold Ark at h;simp only[A1m]at h;obtain⟨⟨⟨⟨g,a⟩,b⟩,f⟩,j⟩:=h;rw[A1o]at a b;refine⟨A1y g,fun i hi=>by simpa using a i (by simpa using hi),fun i hi=>A8f▸b i hi,?_,G0 f,j⟩;refine (G0 f).imp fun {x y} hxy e=>?_;unfold Ge at hxy;subst e;simp at hxy
theorem Sym.reg_draw (q:P.follows .mixedOrders=true)(o:Ark ops s T=true){k:List KI}(h:Ob P id ops true (Hm P fn Post k) T s u m):Hm P fn Post (.code (.region id ops true)::k) s u m:=by
 intro c ρ a w f e;obtain⟨j,r,b,g,l,n⟩:=Aob o;refine wp_region_any q ?_;rw[show ops.size=T.length from j.symm];refine Ob.wpAny (c:=c) e.lv n (fun s u m ρ a w p e=>p c ρ a w f e) T.length T _ rfl (by simp[j]) (fun i hi=>?_) b g (fun i hi=>?_) l (Gb.refl _ _) h e.drew
 ·simp_all
 exfalso;simp only[A2t]at hi;by_cases b:i<T.length
 ·grind
 grind
def Sym.ofNo {a:List KI}(b:F2 a=true):Sym P fn Post a s u m=Hm P fn Post a s u m:=by
 cases a with
 |nil=>rfl
 |cons x k=>cases x<;>first|rfl|simp[F2]at b
theorem Pa (n:P.follows .mixedOrders=true){j g:List KI}{s l:S}(h:one P j s=some (g,l))(e:Sym P fn Post g l u m):Sym P fn Post j s u m:=by
 unfold one at h;split at h
 ·rename_i k;cases hn:F2 k with
  |false=>grind
  |true =>
   simp[hn]at h;obtain⟨rfl,rfl⟩:=h;rw[Sym.ofNo hn]at e;exact fun c ρ a w b f=>wp_skip (e c ρ a w b f)
 ·simp at h;obtain⟨rfl,rfl⟩:=h;exact fun c ρ a w b f=>wp_seq (e c ρ a w b f)
 ·simp at h;obtain⟨rfl,rfl⟩:=h;exact fun c ρ a w b f=>wp_block (e c ρ a w b f)
 ·split at h
  ·rename_i k' hk';cases hn:F2 k' with
   |false=>grind
   |true =>
    simp[hn]at h;obtain⟨rfl,rfl⟩:=h;rw[Sym.ofNo hn]at e;exact fun c ρ a w b f=>wp_exit (Mc hk' (e c ρ a w b f))
  cases h
 ·rename_i x y z k;split at h
  ·rename_i hx;simp at h;obtain⟨rfl,rfl⟩:=h;exact fun c ρ a w b f=>wp_cond_true (by rw[f.eval x (by rw[hx];simp),hx];rfl) (e c ρ a w b f)
  ·rename_i hx;simp at h;obtain⟨rfl,rfl⟩:=h;exact fun c ρ a w b f=>wp_cond_false (by rw[f.eval x (by rw[hx];simp),hx];rfl) (e c ρ a w b f)
  cases h
 ·simp at h;obtain⟨rfl,rfl⟩:=h;exact Sym.reg_seq e
 ·rename_i id ops k;cases hB:Ark ops s (Aw4 ops) with
  |false=>grind
  |true =>
   simp[hB]at h;obtain⟨rfl,rfl⟩:=h;exact Sym.reg_draw n hB e
 ·rename_i id k;cases hn:F2 k with
  |false=>grind
  |true =>
   simp[hn]at h;obtain⟨rfl,rfl⟩:=h;rw[Sym.ofNo hn]at e;exact fun c ρ a w b f=>e c ρ a w b f
 ·rename_i k;cases hn:F2 k with
  |false=>grind
  |true =>
   simp[hn]at h;obtain⟨rfl,rfl⟩:=h;rw[Sym.ofNo hn]at e;exact .nil e
 ·split at h
  ·rename_i o ho;split at h
   ·rename_i hd;split at h
    ·rename_i hg;split at h
     ·rename_i x hw he;simp at h;obtain⟨rfl,rfl⟩:=h;exact .auto ho hg hd he e
     cases h
    ·rename_i hg;simp at h;obtain⟨rfl,rfl⟩:=h;exact .skip ho hg hd e
    cases h
   cases h
  cases h
 cases h
def Tp (b:P.follows .mixedOrders=true){u m:PH}:∀ (n:Nat) (a:List KI×S),Sym P fn Post (run P n a).1 (run P n a).2 u m->Sym P fn Post a.1 a.2 u m
 |0,a,h=>h
 |n+1,a,h=>by
  unfold run at h;split at h
  ·rename_i st' he;obtain⟨e,f⟩:=st';exact Pa b he (Tp b n _ h)
  exact h
end based
end sound
end
section
variable {a:Act}{args:zV}{c:Cx}{env:Operand->Value}{f:Nat}{o:Op}{op:BinOp}{s:S}{w:World}{x y:Value}{ρ:Nat->Nat}
variable [Cl] [Pu]
section based
variable [Co]
class A6 (P:Program):Prop where
 mx:P.follows .mixedOrders=true
 ti:P.underlying 3=some (.int .i64)
def Acg {P:Program}[h:A6 P]{d:TypeId}{x:TypeDesc}(b:P.underlying d=some x)(g:x≠.int .i64):Auk d=false:=by
 unfold Auk;cases e:Nat.beq d 3 with
 |false=>rfl
 |true=>have:=A1y e;subst this;rw[h.ti]at b;cases b;exact absurd rfl g
structure G (P:Program)(fn:Func)(Post:Ce)(st:List KI×S)(u m:PH):Prop where
 out:Sym P fn Post st.1 st.2 u m
def adv (P:Program)(st:List KI×S):List KI×S:=run P 3000 st
def ctl (P:Program):Nat->List KI×S->List KI×S
 |0,st=>st
 |n+1,st=>cond (F2 st.1) st (match one P st.1 st.2 with|some st'=>ctl P n st'|none=>st)
def nx (st:List KI×S)(v:Value):List KI×S :=
 match st.1 with
 |.reg id ops dr (i::l)::k=>match ops[i]? with
  |some o=>(.reg id ops dr l::k,st.2.put o.dst (.v v))
  |none=>st
 |_=>st
def Ot (P:Program)(t:TypeId):Option Nat:=match P.underlying t with|some (.slice e)=>szB P e|_=>none
def M0 (P:Program)(t:TypeId):Option (TypeId×Nat×Nat×Value) :=
 match P.underlying t with
 |some (.slice e)=>match P.info? e with
  |some i=>match i.zero with|some z=>some (e,i.size,i.bytes,z)|none=>none
  |none=>none
 |_=>none
def Zd (P:Program)(t:TypeId):Option (Option Nat) :=
 match Qj P t with
 |some true=>match szB P t with|some n=>some (some n)|none=>none
 |some false=>some none
 |none=>none
inductive Vm where
 |other
 |bin (op:BinOp) (x y:Value)
 |binT (op:BinOp) (t:Option TypeDesc) (x y:Value)
 |un (op:UnOp) (x:Value)
 |conv (src dst:Option TypeDesc) (x:Value)
 |index (t:Option TypeDesc) (x i:Value)
 |addr (sz:Option Nat) (x i:Value)
 |slice (sz:Option Nat) (x:Value) (lo hi mx:Option Value)
 |load (k:Option (Option Nat)) (a:Value)
 |store (sz:Option Nat) (a v:Value)
 |make (e:Option (TypeId×Nat×Nat×Value)) (l c:Value)
 |call (f:Nat) (args:zV)
 |app (e:Option (TypeId×Nat×Nat×Value)) (same:Bool) (args:zV)
 |blt (b:Builtin) (ts:List TypeId) (args:zV)
 |build (t:TypeId) (parts:List (Nat×Value))
 |buildS (e:Option (TypeId×Nat×Nat×Value)) (n:Nat) (parts:List (Nat×Value))
 |field (t:TypeId) (x:Value) (f:Nat)
 |fieldA (t:TypeId) (x:Value) (f:Nat)
def Bc (P:Program)(env:Operand->Value):Op->Vm
 |.binOp op t x y _=>match env x with
  |.int k a=>.bin op (.int k a) (env y)
  |.string a=>.bin op (.string a) (env y)
  |z=>.binT op (P.underlying t) z (env y)
 |.unOp op _ x=>.un op (env x)
 |.convert s d x=>.conv (P.underlying s) (P.underlying d) (env x)
 |.index t x i=>.index (P.underlying t) (env x) (env i)
 |.indexAddr t x i=>.addr (Ot P t) (env x) (env i)
 |.slice t x lo hi mx=>.slice (Ot P t) (env x) (lo.map env) (hi.map env) (mx.map env)
 |.load t a=>.load (Zd P t) (env a)
 |.store t a v=>.store (szB P t) (env a) (env v)
 |.makeSlice t l c=>.make (M0 P t) (env l) (env c)
 |.build t ps=>.build t (ps.toList.map fun (i,x)=>(i,env x))
 |.buildSlice t n ps=>.buildS (M0 P t) n (ps.toList.map fun (i,x)=>(i,env x))
 |.field t x f=>.field t (env x) f
 |.fieldAddr t x f=>.fieldA t (env x) f
 |.call c=>match c.callee with
  |.value f=>match env f with
   |.func (.func n) first cap=>.call n (first.toList++c.args.toList.map env++cap.toList)
   |_=>.other
  |.builtin b=>match b with
   |.append=>match c.argTypes.toList with
    |[t,t']=>.app (M0 P t) (Nat.beq t t') (c.args.toList.map env)
    |_=>.other
   |b=>.blt b c.argTypes.toList (c.args.toList.map env)
  |_=>.other
 |_=>.other
def Aj (P:Program)(st:List KI×S):Vm :=
 match st.1 with
 |.reg _ ops _ (i::_)::_=>match ops[i]? with
  |some o=>match Fb st.2 o&&(Kl st.2 o.op&&Ix o.op) with
   |true=>match gv st.2 ops o with
    |some true=>Bc P (C2 st.2) o.op
    |_=>.other
   |false=>.other
  |none=>.other
 |_=>.other
def Yx (P:Program)(s:S):ResultVar->Option Value
 |.tmp t=>match s.tm t with|.v x=>some x|_=>none
 |.cell a t=>match s.tm a with
  |.p k off=>match s.hp k with
   |some b=>match ldv P t b.cells off with|some (.v y)=>some y|_=>none
   |none=>none
  |_=>none
def T3 (P:Program)(s:S):List ResultVar->Option zV
 |[]=>some []
 |r::l=>match Yx P s r with
  |some x=>match T3 P s l with|some xs=>some (x::xs)|none=>none
  |none=>none
def Pc:zV->Value
 |[x]=>x
 |l=>.tuple l.toArray
def Ay3 (P:Program)(fn:Func)(st:List KI×S):Option Value :=
 match st.1 with
 |.code .ret::_|[]=>match T3 P st.2 fn.results.toList with|some l=>some (Pc l)|none=>none
 |_=>none
end based
section rules
variable {P:Program} [A6 P] {fn:Func} {Post:Ce} {st:List KI×S} {u m:PH}
section based
variable [Co]
def G.stp (h:G P fn Post (adv P st) u m):G P fn Post st u m:=⟨Tp A6.mx 3000 st h.out⟩
def L3:∀ (n:Nat) (st:List KI×S),Sym P fn Post (ctl P n st).1 (ctl P n st).2 u m->Sym P fn Post st.1 st.2 u m
 |0,st,h=>h
 |n+1,st,h=>by
  unfold ctl at h;cases hn:F2 st.1 with
  |true=>simp[hn]at h;exact h
  |false =>
   simp only[hn,cond_false]at h;split at h
   ·rename_i st' he;obtain⟨b,e⟩:=st';exact Pa A6.mx he (L3 n _ h)
   exact h
theorem Eq {V:Vm}(h:Aj P st=V)(j:V≠.other):∃ g b e i l k s o,st=(.reg g b e (i::l)::k,s)/\b[i]?=some o/\gv s b o=some true/\Fb s o=true/\Kl s o.op=true/\Ix o.op=true/\Bc P (C2 s) o.op=V /\
 ∀ v,nx st v=(.reg g b e l::k,s.put o.dst (.v v)):=by
 obtain⟨n,s⟩:=st;unfold Aj at h;simp only at h;split at h
 ·rename_i g b e i l k;split at h
  ·rename_i o ho;split at h
   ·rename_i hb;simp only[A1m]at hb;split at h
    ·rename_i hg;exact⟨g,b,e,i,l,k,s,o,rfl,ho,hg,hb.1,hb.2.1,hb.2.2,h,fun v=>by simp[nx,ho]⟩
    grind
   grind
  grind
 grind
def Aby {V:Vm}(h:Bc P env o=V)(b:V≠.other):Fr o=false:=by
 cases o<;>first|rfl|(simp only[Bc]at h;exact absurd h.symm b)
def G.ask {V:Vm}{v:Value}(h:Aj P (adv P st)=V)(n:V≠.other)(z:∀ env (o:Oper),Bc P env o.op=V->∀ w,(Hr o.op=true->Fj u w/\(Pu.b=false->Fj m w))->(execOp env o).run P w=.ok (.value v) w)
 (k:G P fn Post (nx (adv P st) v) u m):G P fn Post st u m:=by
 refine G.stp ?_;obtain⟨E,C,D,i,l,F,s,o,e,t,r,q,B,A,g,j⟩:=Eq h n;have k:=k.out;rw[j]at k;rw[e];exact⟨Ob.ask t r q B A (Aby g n) (fun w hp=>z _ o g w fun h=>⟨(hp (.inl h)).1,fun p=>(hp (.inl h)).2 (.inl p)⟩) k⟩
theorem G.big {V:Vm}{K:Value->PH->PH->Prop}(h:Aj P (adv P st)=V)(z:V≠.other)(B:∀ env op,Bc P env op=V->Fa op=false)(n:(∀ v j g,K v j g->PH.le m g)\/(∀ env op,Bc P env op=V->Nk op=true))
 (E:∀ env (o:Oper),Bc P env o.op=V->∀ w,Bv u m w->Eg P env o w fun v w'=>∃ j g,Bv j g w'/\B0 u m w j g w'/\K v j g)
 (k:∀ v j g,PH.le u j->K v j g->G P fn Post (nx (adv P st) v) j g):G P fn Post st u m:=by
 refine G.stp ?_;obtain⟨N,I,J,i,l,O,s,o,e,D,C,A,H,F,b,q⟩:=Eq h z;rw[e];refine⟨?_⟩;refine Ob.big (K:=K) D C A H F (B _ _ b) (fun v j g L=>?_) (fun w p=>E _ o b w p) (fun v j g r t=>?_)
 ·rcases n with n|n
  ·grind
  exact .inr (.inr (.inl (Aol (n _ _ b))))
 have:=(k v j g r t).out;rw[q]at this;exact this
theorem Asc (h:Bc P env o=.bin op x y):∃ t X Y b,o=.binOp op t X Y b/\env X=x/\env Y=y:=by
 cases o<;>simp only[Bc]at h<;>try cases h
 ·split at h
  ·rename_i hx;simp at h;obtain⟨rfl,rfl,rfl⟩:=h;exact⟨_,_,_,_,rfl,hx,rfl⟩
  ·rename_i hx;simp at h;obtain⟨rfl,rfl,rfl⟩:=h;exact⟨_,_,_,_,rfl,hx,rfl⟩
  cases h
 grind
theorem Mb {d:Option TypeDesc}(h:Bc P env o=.binT op d x y):∃ t X Y b,o=.binOp op t X Y b/\env X=x/\env Y=y/\P.underlying t=d:=by
 cases o<;>simp only[Bc]at h<;>try cases h
 ·split at h
  ·cases h
  ·cases h
  simp at h;obtain⟨rfl,rfl,rfl,rfl⟩:=h;exact⟨_,_,_,_,rfl,rfl,rfl,rfl⟩
 grind
theorem Z6 (h:Bc P env o=.call f args):∃ c F first cap,o=.call c/\c.callee=.value F/\env F=.func (.func f) first cap/\args=first.toList++c.args.toList.map env++cap.toList:=by
 cases o<;>simp only[Bc]at h<;>try cases h
 ·grind
 split at h
 ·grind
 ·grind
 cases h
def G.bin {op:BinOp}{x y:Value}(v:Value)(h:Aj P (adv P st)=.bin op x y)(n:∀ t X Y w,(eqGuard op t X Y x y).run P w=.ok () w)(p:∀ t w,(binOp op t x y).run P w=.ok v w)
 (k:G P fn Post (nx (adv P st) v) u m):G P fn Post st u m:=by
 refine G.ask h mV (fun env o b w _=>?_) k;obtain⟨t,X,Y,r,e,rfl,rfl⟩:=Asc b;obtain⟨l,q,j,pos,after,g⟩:=o;simp only at e;subst e;simp[execOp,n,p]
def C0 {k:IntKind}{x y:Int}(t:TypeId)(X Y:Operand)(w:World):(eqGuard op t X Y (.int k x) (.int k y)).run P w=.ok () w:=by
 unfold eqGuard;split<;>simp
def Fk {z:Int}(b:-9223372036854775808<=z)(e:z<=9223372036854775807):IntKind.i64.wrap z=z:=by
 simp only[IntKind.wrap,IntKind.signed,IntKind.bits];simp;omega
def G.add (x y z:Int)(h:Aj P (adv P st)=.bin .add (zI x) (zI y))(g:x+y=z)(b:-9223372036854775808<=z)(e:z<=9223372036854775807)
 (k:G P fn Post (nx (adv P st) (zI z)) u m):G P fn Post st u m :=
 G.bin _ h C0 (fun t w=>by simp[binOp,Op.intArith,g,Fk b e]) k
def G.sub (x y z:Int)(h:Aj P (adv P st)=.bin .sub (zI x) (zI y))(g:x-y=z)(b:-9223372036854775808<=z)(e:z<=9223372036854775807)
 (k:G P fn Post (nx (adv P st) (zI z)) u m):G P fn Post st u m :=
 G.bin _ h C0 (fun t w=>by simp[binOp,Op.intArith,g,Fk b e]) k
def G.mul (x y z:Int)(h:Aj P (adv P st)=.bin .mul (zI x) (zI y))(g:x*y=z)(b:-9223372036854775808<=z)(e:z<=9223372036854775807)
 (k:G P fn Post (nx (adv P st) (zI z)) u m):G P fn Post st u m :=
 G.bin _ h C0 (fun t w=>by simp[binOp,Op.intArith,g,Fk b e]) k
def Db:BinOp->Int->Int->Bool
 |.eql,x,y=>decide (x=y)
 |.neq,x,y=>decide (x≠y)
 |.lss,x,y=>decide (x<y)
 |.leq,x,y=>decide (x<=y)
 |.gtr,x,y=>decide (x>y)
 |.geq,x,y=>decide (x≥y)
 |_,_,_=>false
def Awt:BinOp->Bool
 |.eql|.neq|.lss|.leq|.gtr|.geq=>true
 |_=>false
theorem G.cmpG (op:BinOp)(g:IntKind)(x y:Int)(b:Bool)(h:Aj P (adv P st)=.bin op (.int g x) (.int g y))(e:Awt op=true)(j:Db op x y=b)
 (k:G P fn Post (nx (adv P st) (.bool b)) u m):G P fn Post st u m:=by
 refine G.bin _ h C0 (fun t w=>?_) k;subst j;cases op<;>simp[Awt]at e<;>simp[binOp,Op.intCmp,Db]
 ·grind
 grind
def G.eqlT (x y:Int)(h:Aj P (adv P st)=.bin .eql (zI x) (zI y))(b:x=y)(k:G P fn Post (nx (adv P st) zT) u m):G P fn Post st u m :=
 G.cmpG .eql .i64 x y true h rfl (by simp only[Db,decide_eq_true_eq];exact b) k
def G.eqlF (x y:Int)(h:Aj P (adv P st)=.bin .eql (zI x) (zI y))(b:¬ (x=y))(k:G P fn Post (nx (adv P st) zL) u m):G P fn Post st u m :=
 G.cmpG .eql .i64 x y false h rfl (by simp only[Db,decide_eq_false_iff_not];exact b) k
def G.neqT (x y:Int)(h:Aj P (adv P st)=.bin .neq (zI x) (zI y))(b:x≠y)(k:G P fn Post (nx (adv P st) zT) u m):G P fn Post st u m :=
 G.cmpG .neq .i64 x y true h rfl (by simp only[Db,decide_eq_true_eq];exact b) k
def G.neqF (x y:Int)(h:Aj P (adv P st)=.bin .neq (zI x) (zI y))(b:¬ (x≠y))(k:G P fn Post (nx (adv P st) zL) u m):G P fn Post st u m :=
 G.cmpG .neq .i64 x y false h rfl (by simp only[Db,decide_eq_false_iff_not];exact b) k
def G.lssT (x y:Int)(h:Aj P (adv P st)=.bin .lss (zI x) (zI y))(b:x<y)(k:G P fn Post (nx (adv P st) zT) u m):G P fn Post st u m :=
 G.cmpG .lss .i64 x y true h rfl (by simp only[Db,decide_eq_true_eq];exact b) k
def G.lssF (x y:Int)(h:Aj P (adv P st)=.bin .lss (zI x) (zI y))(b:¬ (x<y))(k:G P fn Post (nx (adv P st) zL) u m):G P fn Post st u m :=
 G.cmpG .lss .i64 x y false h rfl (by simp only[Db,decide_eq_false_iff_not];exact b) k
def G.leqT (x y:Int)(h:Aj P (adv P st)=.bin .leq (zI x) (zI y))(b:x<=y)(k:G P fn Post (nx (adv P st) zT) u m):G P fn Post st u m :=
 G.cmpG .leq .i64 x y true h rfl (by simp only[Db,decide_eq_true_eq];exact b) k
def G.leqF (x y:Int)(h:Aj P (adv P st)=.bin .leq (zI x) (zI y))(b:¬ (x<=y))(k:G P fn Post (nx (adv P st) zL) u m):G P fn Post st u m :=
 G.cmpG .leq .i64 x y false h rfl (by simp only[Db,decide_eq_false_iff_not];exact b) k
def G.gtrT (x y:Int)(h:Aj P (adv P st)=.bin .gtr (zI x) (zI y))(b:x>y)(k:G P fn Post (nx (adv P st) zT) u m):G P fn Post st u m :=
 G.cmpG .gtr .i64 x y true h rfl (by simp only[Db,decide_eq_true_eq];exact b) k
def G.gtrF (x y:Int)(h:Aj P (adv P st)=.bin .gtr (zI x) (zI y))(b:¬ (x>y))(k:G P fn Post (nx (adv P st) zL) u m):G P fn Post st u m :=
 G.cmpG .gtr .i64 x y false h rfl (by simp only[Db,decide_eq_false_iff_not];exact b) k
def G.geqT (x y:Int)(h:Aj P (adv P st)=.bin .geq (zI x) (zI y))(b:x≥y)(k:G P fn Post (nx (adv P st) zT) u m):G P fn Post st u m :=
 G.cmpG .geq .i64 x y true h rfl (by simp only[Db,decide_eq_true_eq];exact b) k
def G.geqF (x y:Int)(h:Aj P (adv P st)=.bin .geq (zI x) (zI y))(b:¬ (x≥y))(k:G P fn Post (nx (adv P st) zL) u m):G P fn Post st u m :=
 G.cmpG .geq .i64 x y false h rfl (by simp only[Db,decide_eq_false_iff_not];exact b) k
def Fn0 (P:Program)(f:FuncId)(args:zV)(u:PH)(R:Value->PH->Prop):Prop:=Ag P f args u PH.mt (fun v u' m'=>m'=PH.mt/\R v u')
def Fj.mt (w:World):Fj PH.mt w:=fun _ _ h=>by cases h
def Bv.noM (h:Bv u m w):Bv u PH.mt w:=⟨h.pu,Fj.mt w,fun _=>.inr rfl,h.cl⟩
theorem Bv.frame {l:PH}{w w':World}(h:Bv u m w)(g:Bv l PH.mt w')(k:B0 u PH.mt w l PH.mt w'):Bv l m w'/\B0 u m w l m w':=by
 refine⟨⟨g.pu,fun b o j=>?_,fun b=>?_,g.cl⟩,⟨k.sz,fun b j _=>k.old b j rfl,k.us,fun b _ j=>j,k.io,k.dr⟩⟩
 ·rw[k.old b (h.pm.lt j) rfl];exact h.pm b o j
 cases j:m b with
 |none=>grind
 |some o =>
  rw[k.us b (h.pm.lt j)];rcases h.ap b with e|e
  ·grind
  grind
theorem Hq {env:Operand->Value}{o:Oper}{f:Nat}{args:zV}(g:Bc P env o.op=.call f args)(q:∀ args w,(callFunc f args).run P w=.ok (.enter f args) w)(w:World)(K:Value->World->Prop)
 (h:Calls P f args.toArray w fun e w'=>∃ v,e=.returned v/\K v w'):Eg P env o w K:=by
 obtain⟨c,F,first,cap,e,j,p,rfl⟩:=Z6 g
 obtain⟨l,r,k,pos,after,b⟩:=o;simp only at e;subst e;have:(execOp env ⟨l,.call c,k,pos,after,b⟩).run P w=.ok (.enter f ((first++c.args.map env)++cap)) w:=by
  simp[execOp,resolve,j,p,Deferred.ofValue,invoke,q]
 unfold Eg;rw[this];have n:(first.toList++c.args.toList.map env++cap.toList).toArray=(first++c.args.map env)++cap:=by grind
 rw[<-n];exact h
def Dv (env:Operand->Value)(op:Op)(h:Bc P env op=.call f args):Fa op=false:=by
 obtain⟨c,F,first,cap,rfl,b,_⟩:=Z6 h
 obtain⟨e,a,t⟩:=c;simp only at b;subst b;rfl
theorem G.call0 (f:Nat)(args:zV){R:Value->PH->Prop}(h:Aj P (adv P st)=.call f args)(z:∀ args w,(callFunc f args).run P w=.ok (.enter f args) w)(c:Fn0 P f args u R)
 (k:∀ v b,PH.le u b->R v b->G P fn Post (nx (adv P st) v) b m):G P fn Post st u m:=by
 refine G.big (K:=fun v b l=>l=m/\R v b) h mV Dv (.inl fun v b l t=>by rw[t.1];exact PH.le_refl _) (fun env o g w j=>?_) (fun v b l B C=>?_)
 ·refine Hq g z w _ (Calls.mono (c w j.noM) fun e w' A=>?_);obtain⟨v,b,l,n,p,q,rfl,r⟩:=A;obtain⟨g1,g2⟩:=j.frame p q;exact⟨v,n,b,m,g1,g2,rfl,r⟩
 grind
def S.init (n:Nat)(args:zV):S:={ n:=n,tm:=fun d=>match args[d]? with|some x=>.v x|none=>.junk,hp:=fun _=>none }
def Qd (fn:Func):Code:=match fn.body with|some c=>c|none=>.skip
def st0 (fn:Func)(args:zV):List KI×S:=([.code (Qd fn)],S.init fn.ntmps args)
end based
theorem Ag.of {e:Value->PH->PH->Prop}{f:FuncId}(z:P.funcs[f]?=some fn)(l:fn.body.isSome=true)(t:Nat.ble args.length fn.ntmps=true)(h:G P fn ⟨e,m⟩ (st0 fn args) u m):Ag P f args u m e:=by
 intro w q;have t:=A8a t;have p:fn.body=some (Qd fn):=by unfold Qd;cases hc:fn.body with|none=>simp[hc]at l|some c=>rfl
 refine callsIn_wide.1 (callsIn_of_wp_marks (n:=1) z p trivial (wpIn_wide.2 ?_) rfl);have C:Rel ⟨w,u,m⟩ (S.init fn.ntmps args) u m (fun _=>0) { tmps:=args.toArray++Array.replicate (fn.ntmps-args.toArray.size) undef,defers:=[] } w:=by
  refine⟨?_,fun d g=>?_,Agv.nil _ _ _ _,fun k b l=>?_,fun k j B=>absurd rfl B,⟨fun d k off g=>?_,fun j b k off A=>?_⟩,q,B0.refl _ _ _⟩
  ·simp[S.init];omega
  ·simp only[S.init]at g⊢;split at g
   ·rename_i x hx;have r:d<args.length:=by grind
    simp only[SV.den];rw[A5s (by simpa using r)];simpa using hx
   grind
  ·cases l
  ·simp only[S.init]at g;split at g<;>cases g
  cases A
 exact h.out _ _ _ _ rfl C
def Fn0.of {R:Value->PH->Prop}{f:FuncId}{args:zV}(e:P.funcs[f]?=some fn)(b:fn.body.isSome=true)(g:Nat.ble args.length fn.ntmps=true)(h:G P fn ⟨fun v k j=>j=PH.mt/\R v k,PH.mt⟩ (st0 fn args) u PH.mt):Fn0 P f args u R :=
 Ag.of e b g h
section based
variable [Co]
def Ms (t:Array Value):ResultVar->Sem Value
 |.tmp d=>pure (t.getD d undef)
 |.cell p ty=>do loadVar ty (<-asAddr (t.getD p undef))
def Ys (e:Rel c s u m ρ a w){r:ResultVar}(h:Yx P s r=some x):(Ms a.tmps r).run P w=.ok x w:=by
 cases r with
 |tmp t =>
  simp only[Yx]at h;split at h
  ·rename_i y hy;simp at h;subst h;have:=e.tm t (by rw[hy];simp);rw[hy]at this;simp[Ms,this,SV.den]
  cases h
 |cell p t =>
  simp only[Yx]at h;split at h
  ·rename_i k off hp;split at h
   ·rename_i b hb;split at h
    ·rename_i y hy;simp at h;subst h;have:=e.tm p (by rw[hp];simp);rw[hp]at this;obtain⟨g,_,_⟩:=Ali (P:=P) (w:=w) (e.box k b hb).1 hy;simp[Ms,this];exact g
    cases h
   cases h
  cases h
def Ve (g:Rel c s u m ρ a w){l:zV}(h:T3 P s fn.results.toList=some l):(results fn a.tmps).run P w=.ok (Pc l) w:=by
 have key:∀ (b:List ResultVar) (l:zV),T3 P s b=some l->(b.mapM (Ms a.tmps)).run P w=.ok l w:=by
  intro b;induction b with
  |nil=>intro l h;simp[T3]at h;subst h;simp
  |cons r b ih =>
   intro l h;unfold T3 at h;split at h
   ·rename_i x hx;split at h
    ·rename_i xs hxs;simp at h;subst h;rw[A9p];simp only[Sem.run_bind,Ys g hx,Result.andThen_ok,ih xs hxs,Sem.run_pure]
    cases h
   cases h
 have e:results fn a.tmps=(do let vs <-fn.results.mapM (Ms a.tmps);pure (if h:vs.size=1 then vs[0] else .tuple vs)):=by
  unfold results;rfl
 rw[e,<-A5x (xs:=fn.results),A81];simp only[Sem.run_bind,Sem.run_map,key _ l h]
 match l with
 |[]=>rfl
 |[x]=>rfl
 |x::y::l=>rfl
end based
def G.ret (v:Value)(h:Ay3 P fn (adv P st)=some v)(hp:Post.post v u m):G P fn Post st u m:=by
 refine G.stp ?_;generalize adv P st=st' at h;obtain⟨j,s⟩:=st';unfold Ay3 at h;simp only at h;split at h
 ·split at h
  ·rename_i l hl;simp at h;subst h;refine⟨?_⟩;intro c ρ a w e g;exact wp_ret (J6 (g.ends fun w' b=>⟨Ve (a:=⟨a.tmps,[]⟩) b hl,_,_,_,rfl,b.gd,b.gr,hp⟩).1 _)
  cases h
 ·split at h
  ·rename_i l hl;simp at h;subst h;refine⟨?_⟩;intro c ρ a w e g;exact (g.ends fun w' b=>⟨Ve (a:=⟨a.tmps,[]⟩) b hl,_,_,_,rfl,b.gd,b.gr,hp⟩).2
  cases h
 cases h
end rules
end
end Go.Proofs.YtemmheaocgmebaaGreatDoor
