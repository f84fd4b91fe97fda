/- Parts of one proof, joined by a program. -/
import Derived.Orders
import Derived.KernelRfl
import Derived.Laws.CopyRow
import Derived.Laws.World
import Derived.Laws.Entries
import Derived.RangeFuncRecord
set_option linter.defProp false
set_option linter.unusedVariables false
set_option linter.unusedSimpArgs false
set_option linter.unusedSectionVars false
set_option maxHeartbeats 16000000
namespace Go.Proofs.YtdgncafgglafjaaGreatDoor
def A0s:=@Nat.le_refl
def A0l:=@Nat.le_trans
def A16:=@Nat.lt_or_ge
def A4q:=@Array.getElem?_eq_none
def A12:=@Nat.lt_of_lt_of_le
def A8v:=@Bool.not_eq_true
def A1u:=@Nat.eq_of_beq_eq_true
def A7q:=@Array.getElem?_setIfInBounds_self
def A20:=@Array.getElem?_setIfInBounds_ne
def A9y:=@Array.getElem?_push
def A0u:=@Option.some.injEq
def A0w:=@List.mem_of_getElem?
def A6b:=@List.foldl_cons
def A1y:=@List.length_cons
def A0t:=@List.take_add_one
def A61:=@List.take_set_of_le
def A2q:=@List.getElem?_set_self
def A49:=@List.drop_set_of_lt
def A6q:=@Array.ext'
def A2w:=@Nat.add_zero
def A4n:=@Array.length_toList
def A1b:=@Bool.and_eq_true
def A72:=@Nat.le_of_ble_eq_true
def A9g:=@List.mapM_cons
def A3f:=@List.getElem?_take
def A3m:=@List.getElem?_drop
def A06:=@List.all_eq_true
def A2x:=@List.getElem?_toArray
def A6r:=@Array.toArray_toList
def A8n:=@List.mapM_toArray
def A04:=@List.mem_append
def A23:=@List.mem_of_mem_take
def A3w:=@List.mem_of_mem_drop
def A2m:=@List.append_assoc
def A5s:=@List.getElem?_append
def A0q:=@List.length_take
def A3o:=@Nat.min_eq_left
def A2c:=@Prod.mk.injEq
def A7k:=@List.size_toArray
def A8r:=@Nat.blt_eq
def A2h:=@Classical.byContradiction
def A33:=@Bool.or_eq_true
def A3d:=@List.mem_append_left
def A93:=@List.mem_filterMap
def A9p:=@Array.map_congr_left
def A9z:=@List.map_congr_left
def A8w:=@List.mem_toArray
def A0r:=@List.mem_map
def A2k:=@Option.some.inj
def A07:=@List.mem_singleton
def A5m:=@Bool.not_true
def A8l:=@Bool.false_or
def A6s:=@List.any_eq_true
def A01:=@List.mem_cons_of_mem
def A3k:=@Bool.not_eq_true'
def A73:=@Bool.and_eq_false_iff
def A3p:=@List.mem_filter
def A5x:=@List.mem_range
def A15:=@Array.getElem?_eq_getElem
def A3g:=@Option.map_some
def A3s:=@Option.getD_some
def A94:=@Array.all_eq_true'
def A14:=@List.eq_nil_of_length_eq_zero
def A2d:=@Array.getD_eq_getD_getElem?
def A0v:=@List.mem_cons
def A64:=@List.rel_of_pairwise_cons
def A6c:=@List.append_of_mem
def A4z:=@List.pairwise_append
def A30:=@List.nodup_append
def A3a:=@List.nodup_cons
def A51:=@List.filter_cons
def A1t:=@List.map_cons
def A3b:=@List.cons.injEq
def A1g:=@List.mem_cons_self
def A5n:=@Array.getElem?_append_left
section
theorem kV.{u} {α:Sort u}{a b:α}(h:a=b:=by kernel_rfl):a=b:=h
theorem oV {p:Prop}(h:p:=by omega):p:=h
theorem mV {p:Prop}(h:p:=by simp):p:=h
theorem dV {p:Prop}(h:p:=by dsimp only;omega):p:=h
theorem gV {p:Prop}(h:p:=by simp;omega):p:=h
theorem jV {p:Prop}(h:p:=by decide +kernel):p:=h
theorem fV {p:Prop}(h:p:=by decide):p:=h
end
section
variable {e g:Nat}{o:Obj}{w:World}
abbrev PH:=Nat->Option Obj
def PH.mt:PH:=fun _=>none
def F7 (x:PH)(w:World):Prop:=∀ g o,x g=some o->w.heap[g]?=some o
def G1 (x y:PH):Prop:=∀ g,x g=none\/y g=none
def PH.le (x y:PH):Prop:=∀ g o,x g=some o->y g=some o
def Aeu (u:PH)(w:World):Prop:=∀ (g:Nat) (cs:Array Value) (t:TypeId) (fr:Nat×Nat) (j:Nat) (z:Int),w.heap[g]?=some (.cells cs t fr)->cs[j]?=some (.int .u64 z)->u g=some (.cells cs t fr)
structure Ci (u m:PH)(w:World):Prop where
 pu:F7 u w
 pm:F7 m w
 ap:G1 u m
 cl:Aeu u w
class Cj where
 on:Prop
instance (priority:=low) Cj.no:Cj:=⟨False⟩
structure Oe (w w':World):Prop where
 tape:w'.tape=w.tape
 dr:w.drawn<=w'.drawn
def Oe.refl (w:World):Oe w w:=⟨rfl,A0s _⟩
def Oe.trans {a b c:World}(h:Oe a b)(k:Oe b c):Oe a c:=⟨k.tape.trans h.tape,A0l h.dr k.dr⟩
variable [Fl:Cj]
structure Cn (u m:PH)(w:World)(u' m':PH)(w':World):Prop where
 sz:w.heap.size<=w'.heap.size
 old:∀ g,g<w.heap.size->m g=none->w'.heap[g]?=w.heap[g]?
 us:∀ g,g<w.heap.size->u' g=u g
 ms:∀ g,g<w.heap.size->m g=none->m' g=none
 io:w'.os=w.os/\w'.output=w.output
 dr:Fl.on->Oe w w'
def Cf (h:w.heap[g]?=some o):g<w.heap.size:=by
 rcases A16 g w.heap.size with a|a
 ·exact a
 simp[A4q a]at h
def F7.lt {x:PH}(h:F7 x w)(a:x g=some o):g<w.heap.size:=Cf (h g o a)
def F7.none {x:PH}{w:World}(h:F7 x w){g:Nat}(a:w.heap.size<=g):x g=none:=by
 cases hx:x g with
 |none=>rfl
 |some o=>have:=h.lt hx;omega
def Cn.refl (u m:PH)(w:World):Cn u m w u m w:=⟨A0s _,fun _ _ _=>rfl,fun _ _=>rfl,fun _ _ h=>h,⟨rfl,rfl⟩,fun _=>Oe.refl w⟩
def Cn.trans {u m j c l d:PH}{w n p:World}(h:Cn u m w j c n)(k:Cn j c n l d p):Cn u m w l d p :=
 ⟨A0l h.sz k.sz,fun g a b=>(k.old g (A12 a h.sz) (h.ms g a b)).trans (h.old g a b),
  fun g a=>(k.us g (A12 a h.sz)).trans (h.us g a),fun g a b=>k.ms g (A12 a h.sz) (h.ms g a b),⟨k.io.1.trans h.io.1,k.io.2.trans h.io.2⟩,fun f=>(h.dr f).trans (k.dr f)⟩
def Cn.le {u m b c:PH}{w w':World}(h:Cn u m w b c w')(hp:F7 u w):PH.le u b :=
 fun g o a=>by rw[h.us g (hp.lt a)];exact a
def PH.le_refl (u:PH):PH.le u u:=fun _ _ h=>h
def PH.le.trans {u v x:PH}(h:PH.le u v)(k:PH.le v x):PH.le u x:=fun g o a=>k g o (h g o a)
inductive SV where
 |junk
 |v (x:Value)
 |p (k off:Nat)
def SV.den (ρ:Nat->Nat):SV->Value
 |.junk=>undef
 |.v x=>x
 |.p k off=>.pointer (some ⟨ρ k,off,none⟩)
structure Blk where
 t:TypeId
 cells:List SV
structure S where
 n:Nat
 tm:Nat->SV
 hp:Nat->Option Blk
def S.put (s:S)(d:Option Nat)(x:SV):S :=
 match d with
 |none=>s
 |some d=>{ s with tm:=fun e=>cond (Nat.beq e d) x (s.tm e) }
def S.setb (s:S)(w:Option (Nat×Blk)):S :=
 match w with
 |none=>s
 |some (k,b)=>{ s with hp:=fun j=>cond (Nat.beq j k) (some b) (s.hp j) }
def S.ev (s:S):Operand->SV
 |.tmp t=>s.tm t
 |.const v=>.v v
 |.global g=>.v (.pointer (some ⟨g,0,none⟩))
 |.func f=>.v (.func (.func f) #[] #[])
def Bt (s:S)(d:Nat)(x:SV):(s.put (some d) x).tm d=x:=by simp[S.put]
def Gc (s:S)(d:Nat)(x:SV)(h:e≠d):(s.put (some d) x).tm e=s.tm e:=by
 have:Nat.beq e d=false:=by rw[<-A8v];exact fun a=>h (A1u a)
 simp[S.put,this]
def F6 (s:S)(d:Option Nat)(x:SV)(h:d≠some e):(s.put d x).tm e=s.tm e:=by
 cases d with
 |none=>rfl
 |some d=>exact Gc s d x (fun a=>h (by rw[a]))
def Dg (s:S)(d:Option Nat)(x:SV):(s.put d x).hp=s.hp:=by cases d<;>rfl
def Fn (s:S)(w:Option (Nat×Blk)):(s.setb w).tm=s.tm:=by rcases w with _|⟨k,b⟩<;>rfl
def Bq (s:S)(k:Nat)(b:Blk):(s.setb (some (k,b))).hp k=some b:=by simp[S.setb]
def Bd (s:S)(k:Nat)(b:Blk){j:Nat}(h:j≠k):(s.setb (some (k,b))).hp j=s.hp j:=by
 have:Nat.beq j k=false:=by rw[<-A8v];exact fun a=>h (A1u a)
 simp[S.setb,this]
def Abc (s:S)(d:Option Nat)(x:SV):(s.put d x).n=s.n:=by cases d<;>rfl
def Tu (s:S)(w:Option (Nat×Blk)):(s.setb w).n=s.n:=by rcases w with _|⟨k,b⟩<;>rfl
def S.ext' {s t:S}(a:s.n=t.n)(h:s.tm=t.tm)(k:s.hp=t.hp):s=t:=by cases s;cases t;simp_all
def Aqk (s:S){d e:Option Nat}(x y:SV)(h:∀ k,d=some k->e≠some k):(s.put d x).put e y=(s.put e y).put d x:=by
 refine S.ext' (by simp only[Abc]) (funext fun i=>?_) (by simp only[Dg]);by_cases b:d=some i
 ·have a:e≠some i:=h i b;subst b;rw[F6 _ _ _ a,Bt,Bt]
 rw[F6 _ d x b];by_cases a:e=some i
 ·subst a;rw[Bt,Bt]
 rw[F6 _ _ _ a,F6 _ _ _ a,F6 _ _ _ b]
def Sa (s:S)(d:Option Nat)(x:SV)(w:Option (Nat×Blk)):(s.setb w).put d x=(s.put d x).setb w:=by
 cases d<;>rcases w with _|⟨k,b⟩<;>rfl
def Ant (s:S)(w w':Option (Nat×Blk))(h:∀ k b a b',w=some (k,b)->w'=some (a,b')->k≠a):(s.setb w).setb w'=(s.setb w').setb w:=by
 rcases w with _|⟨k,b⟩
 ·rfl
 rcases w' with _|⟨a,b'⟩
 ·rfl
 have f:=h k b a b' rfl rfl;refine S.ext' rfl rfl (funext fun i=>?_);by_cases c:i=k
 ·subst c;rw[Bd _ _ _ f,Bq,Bq]
 by_cases d:i=a
 ·subst d;rw[Bq,Bd _ _ _ c,Bq]
 rw[Bd _ _ _ d,Bd _ _ _ c,Bd _ _ _ c,Bd _ _ _ d]
def Anw (ρ:Nat->Nat)(b:Blk)(o:Option Obj):Prop :=
 ∃ cs:Array Value,o=some (.cells cs b.t (0,0))/\cs.size=b.cells.length/\∀ (i:Nat) (x:SV),b.cells[i]?=some x->x≠.junk->cs[i]?=some (x.den ρ)
structure Cx where
 w0:World
 u0:PH
 m0:PH
def Axz (r:Nat):Deferred:={ target:=.collected r,args:=#[] }
class Dd where
 dl:List Deferred
instance (priority:=low) Dd.no:Dd:=⟨[]⟩
class Pu where
 b:Bool
instance (priority:=low) Pu.no:Pu:=⟨false⟩
def Ad9 (d:Deferred):Bool:=match d.target with|.collected _=>true|_=>false
def Ai1 [Dd](n0:Nat)(u m:PH)(w:World)(dl:List Deferred):Prop:=∃ ds:List Nat,ds.Nodup/\dl.filter Ad9=ds.map Axz/\dl.filter (fun d=>!Ad9 d)=Dd.dl/\∀ r∈ds,w.heap[r]?=some (.deferred (some []))/\n0<=r/\u r=none/\m r=none
def Ai1.nil (b:Nat)(u m:PH)(w:World):Ai1 b u m w []:=⟨[],.nil,rfl,rfl,fun r a=>by cases a⟩
def Ai1.of [Dd]{b:Nat}{u m j f:PH}{w w':World}{c:List Deferred}(h:Ai1 b u m w c)
 (A:∀ r,w.heap[r]?=some (.deferred (some []))->b<=r->u r=none->m r=none->w'.heap[r]?=some (.deferred (some []))/\j r=none/\f r=none):Ai1 b j f w' c:=by
 obtain⟨k,x,y,a,z⟩:=h;refine⟨k,x,y,a,fun r B=>?_⟩;obtain⟨l,d,n,p⟩:=z r B;obtain⟨q,s,t⟩:=A r l d n p;exact⟨q,d,s,t⟩
def Pb (s:S):Prop:=(∀ d k off,s.tm d=.p k off->s.hp k≠none)/\(∀ j b k off,s.hp j=some b->SV.p k off∈b.cells->s.hp k≠none)
structure Rel [Dd](c:Cx)(s:S)(u m:PH)(ρ:Nat->Nat)(a:Act)(w:World):Prop where
 sz:a.tmps.size=s.n
 tm:∀ d,s.tm d≠.junk->a.tmps[d]?=some ((s.tm d).den ρ)
 df:Ai1 c.w0.heap.size u m w a.defers
 box:∀ k b,s.hp k=some b->Anw ρ b (w.heap[ρ k]?)/\c.w0.heap.size<=ρ k/\u (ρ k)=none/\m (ρ k)=none
 inj:∀ k j,s.hp k≠none->s.hp j≠none->ρ k=ρ j->k=j
 lv:Pb s
 gd:Ci u m w
 gr:Cn c.u0 c.m0 c.w0 u m w
def Rel.eval [Dd]{c:Cx}{s:S}{u m:PH}{ρ:Nat->Nat}{a:Act}{w:World}(h:Rel c s u m ρ a w)(x:Operand)(b:s.ev x≠.junk):a.eval x=(s.ev x).den ρ:=by
 cases x with
 |tmp t=>have:=h.tm t b;simp[Act.eval,S.ev,this]
 |const v=>rfl
 |global g=>rfl
 |func f=>rfl
end
section
variable {g:Nat}{v:Value}
variable [Cj] [Dd]
def Be:Value->Bool
 |.agg _|.tuple _=>false
 |.int .u64 _=>false
 |_=>true
def Ja (h:Be v=true):v.oneCell'=true:=by
 unfold Be at h;split at h<;>simp_all [Value.oneCell']
 all_goals (cases v<;>simp_all)
def Kc (h:Be v=true)(z:Int):v≠.int .u64 z:=by rintro rfl;simp[Be]at h
section rel
variable {c:Cx} {s:S} {u m:PH} {ρ:Nat->Nat} {a:Act} {w:World}
def Rel.put (h:Rel c s u m ρ a w){d:Option Nat}{x:SV}{y:Value}(E:x≠.junk->y=x.den ρ)(B:∀ k l,x=.p k l->s.hp k≠none)(z:∀ e,d=some e->e<s.n) :
 Rel c (s.put d x) u m ρ (a.put d y) w:=by
 cases d with
 |none=>exact h
 |some d =>
  have A:=z d rfl;have D:=h.sz;refine⟨by simpa[Act.put,S.put] using h.sz,fun e o=>?_,by simpa[Act.put] using h.df,fun k b r=>?_,fun k j t q=>?_,⟨fun e k l o=>?_,fun j b k l q C=>?_⟩,h.gd,h.gr⟩
  ·by_cases f:e=d
   ·subst f;rw[Bt]at o⊢;simp only[Act.put];rw[A7q];simp[show e<a.tmps.size by omega,E o]
   rw[Gc _ _ _ f]at o⊢;simp only[Act.put];rw[A20 (fun h=>f h.symm)];exact h.tm e o
  ·rw[Dg]at r;exact h.box k b r
  ·rw[Dg]at t q;exact h.inj k j t q
  ·rw[Dg];by_cases f:e=d
   ·subst f;rw[Bt]at o;exact B k l o
   rw[Gc _ _ _ f]at o;exact h.lv.1 e k l o
  rw[Dg]at q⊢;exact h.lv.2 j b k l q C
def Bi (w:World)(o:Obj)(h:g<w.heap.size):(w.alloc o).heap[g]?=w.heap[g]?:=by
 show (w.heap.push o)[g]?=_;rw[A9y,if_neg (Nat.ne_of_lt h)]
def Cy (w:World)(o:Obj):(w.alloc o).heap[w.heap.size]?=some o:=by
 show (w.heap.push o)[w.heap.size]?=_;rw[A9y,if_pos rfl]
def Cd (w:World)(o:Obj):(w.alloc o).heap.size=w.heap.size+1:=Array.size_push ..
def Ci.alloc (h:Ci u m w){cs:Array Value}{t:TypeId}{fr:Nat×Nat}(n:∀ (j:Nat) (z:Int),cs[j]?≠some (.int .u64 z)):Ci u m (w.alloc (.cells cs t fr)):=by
 refine⟨fun g o b=>?_,fun g o b=>?_,h.ap,fun g d p e j z b l=>?_⟩
 ·rw[Bi _ _ (h.pu.lt b)];exact h.pu g o b
 ·rw[Bi _ _ (h.pm.lt b)];exact h.pm g o b
 have k:=Cf b;rw[Cd]at k;by_cases f:g=w.heap.size
 ·subst f;rw[Cy]at b;simp only[A0u,Obj.cells.injEq]at b;obtain⟨rfl,rfl,rfl⟩:=b;exact absurd l (n j z)
 rw[Bi _ _ oV]at b;exact h.cl g d p e j z b l
def Cn.alloc {d m0:PH}{e:World}(h:Cn d m0 e u m w)(o:Obj):Cn d m0 e u m (w.alloc o) :=
 ⟨by rw[Cd];have:=h.sz;omega,fun g b j=>by rw[Bi _ _ (A12 b h.sz)];exact h.old g b j,h.us,h.ms,h.io,fun f=>⟨(h.dr f).tape,(h.dr f).dr⟩⟩
def Ade {ρ:Nat->Nat}{k g:Nat}{x:SV}(d:∀ b,x≠.p k b):x.den (fun j=>if j=k then g else ρ j)=x.den ρ:=by
 cases x with
 |junk=>rfl
 |v x=>rfl
 |p j b =>
  have:j≠k:=fun e=>d b (by rw[e]);simp[SV.den,this]
def Rel.alloc (h:Rel c s u m ρ a w){k:Nat}(C:s.hp k=none){b:Blk}{cs:Array Value}(D:cs.size=b.cells.length)(J:∀ (i:Nat) (x:SV),b.cells[i]?=some x->x≠.junk->cs[i]?=some (x.den ρ))
 (N:∀ j l,SV.p j l∈b.cells->s.hp j≠none) (T:∀ (j:Nat) (z:Int),cs[j]?≠some (.int .u64 z)) :
 Rel c (s.setb (some (k,b))) u m (fun j=>if j=k then w.heap.size else ρ j) a (w.alloc (.cells cs b.t)):=by
 have Q:∀ j b',s.hp j=some b'->j≠k:=fun j b' q e=>by rw[e,C]at q;cases q
 have F:∀ j,s.hp j≠none->j≠k:=fun j q e=>q (by rw[e,C]);have E:∀ j,s.hp j≠none->ρ j<w.heap.size:=fun j q=>by
  cases y:s.hp j with
  |none=>exact absurd y q
  |some b'=>obtain⟨⟨A,e,_⟩,_⟩:=h.box j b' y;exact Cf e
 refine⟨by rw[Tu];exact h.sz,fun d B=>?_,h.df.of fun r e _ R I=>⟨by rw[Bi _ _ (Cf e)];exact e,R,I⟩,fun j b' y=>?_,fun i j o q H=>?_,⟨fun d j l B=>?_,fun i b' j l o I=>?_⟩,h.gd.alloc T,h.gr.alloc _⟩
 ·rw[Fn]at B⊢;rw[h.tm d B,Ade (fun l e=>h.lv.1 d k l e C)]
 ·by_cases f:j=k
  ·subst f;rw[Bq]at y;simp only[A0u]at y;subst y;simp only[if_true];refine⟨⟨cs,by rw[Cy],D,fun i x o K=>?_⟩,h.gr.sz,?_,?_⟩
   ·rw[J i x o K,Ade (fun l e=>?_)];exact N j l (e▸A0w o) C
   ·exact h.gd.pu.none (A0s _)
   exact h.gd.pm.none (A0s _)
  rw[Bd _ _ _ f]at y;simp only[if_neg f];obtain⟨⟨A,L,O,P⟩,r⟩:=h.box j b' y;refine⟨⟨A,by rw[Bi _ _ (Cf L)];exact L,O,fun i x o K=>?_⟩,r⟩;rw[P i x o K,Ade (fun l e=>h.lv.2 j b' k l y (e▸A0w o) C)]
 ·by_cases n:i=k
  ·by_cases f:j=k
   ·rw[n,f]
   rw[Bd _ _ _ f]at q;simp only[n,if_true,if_neg f]at H;have:=E j q;omega
  rw[Bd _ _ _ n]at o;by_cases f:j=k
  ·simp only[f,if_true,if_neg n]at H;have:=E i o;omega
  rw[Bd _ _ _ f]at q;simp only[if_neg n,if_neg f]at H;exact h.inj i j o q H
 ·rw[Fn]at B;have:=h.lv.1 d j l B;rw[Bd _ _ _ (F j this)];exact this
 by_cases f:j=k
 ·rw[f,Bq];simp
 rw[Bd _ _ _ f];by_cases n:i=k
 ·subst n;rw[Bq]at o;simp only[A0u]at o;subst o;exact N j l I
 rw[Bd _ _ _ n]at o;exact h.lv.2 i b' j l o I
def Rel.store (h:Rel c s u m ρ a w){k:Nat}{b b':Blk}(Q:s.hp k=some b)(ht:b'.t=b.t){cs:Array Value}(I:cs.size=b'.cells.length)(P:∀ (i:Nat) (x:SV),b'.cells[i]?=some x->x≠.junk->cs[i]?=some (x.den ρ))
 (Z:∀ j y,SV.p j y∈b'.cells->s.hp j≠none) (hw:∀ (j:Nat) (z:Int),cs[j]?≠some (.int .u64 z)) :
 Rel c (s.setb (some (k,b'))) u m ρ a (w.setRow (ρ k) cs):=by
 obtain⟨⟨N,T,_,_⟩,r0,V,W⟩:=h.box k b Q;have l:∀ g,g≠ρ k->(w.setRow (ρ k) cs).heap[g]?=w.heap[g]?:=fun g q=>setRow_other w (ρ k) g cs q;have B:(w.setRow (ρ k) cs).heap[ρ k]?=some (.cells cs b.t (0,0)):=setRow_heap w (ρ k) N cs _ _ T;refine⟨by rw[Tu];exact h.sz,fun d F=>by rw[Fn]at F⊢;exact h.tm d F,h.df.of fun r e _ hu E=>⟨by rw[l _ (fun X=>by rw[X,T]at e;cases e)];exact e,hu,E⟩,fun j K D=>?_,fun i j C J Y=>?_,⟨fun d j y F=>?_,fun i K j y C E=>?_⟩,⟨?_,?_,h.gd.ap,?_⟩,⟨?_,?_,h.gr.us,h.gr.ms,h.gr.io,fun f=>⟨(h.gr.dr f).tape,(h.gr.dr f).dr⟩⟩⟩
 ·by_cases n:j=k
  ·subst n;rw[Bq]at D;simp only[A0u]at D;subst D;exact⟨⟨cs,by rw[B,ht],I,P⟩,r0,V,W⟩
  rw[Bd _ _ _ n]at D;have R:ρ j≠ρ k:=fun e=>n (h.inj j k (by rw[D];simp) (by rw[Q];simp) e);rw[l _ R];exact h.box j K D
 ·have U:∀ i,(s.setb (some (k,b'))).hp i≠none->s.hp i≠none:=fun i C=>by
   by_cases A:i=k
   ·rw[A,Q];simp
   rw[Bd _ _ _ A]at C;exact C
  exact h.inj i j (U i C) (U j J) Y
 ·rw[Fn]at F;by_cases n:j=k
  ·rw[n,Bq];simp
  rw[Bd _ _ _ n];exact h.lv.1 d j y F
 ·by_cases n:j=k
  ·rw[n,Bq];simp
  rw[Bd _ _ _ n];by_cases A:i=k
  ·subst A;rw[Bq]at C;simp only[A0u]at C;subst C;exact Z j y E
  rw[Bd _ _ _ A]at C;exact h.lv.2 i K j y C E
 ·intro g o q;rw[l g (fun e=>by rw[e,V]at q;cases q)];exact h.gd.pu g o q
 ·intro g o q;rw[l g (fun e=>by rw[e,W]at q;cases q)];exact h.gd.pm g o q
 ·intro g L t' O j z q J;by_cases H:g=ρ k
  ·rw[H,B]at q;simp only[A0u,Obj.cells.injEq]at q;obtain⟨rfl,_,_⟩:=q;exact absurd J (hw j z)
  rw[l g H]at q;exact h.gd.cl g L t' O j z q J
 ·rw[setRow_size];exact h.gr.sz
 intro g q E;rw[l g oV];exact h.gr.old g q E
end rel
end
section
def iV (x:Int):SV:=.v (.int .i64 x)
def sV (a:Option Addr)(n c:Nat):SV:=.v (.slice a n c)
def bV (b:Bool):SV:=.v (.bool b)
end
section fill
def Zv (a:Nat):∀ (l:List Value) (k:Nat) (cells:Array Value),a+k+l.length<=cells.size ->
 (((l.zipIdx k).foldl (fun (cs:Array Value) (p:Value×Nat)=>cs.setIfInBounds (a+p.2) p.1) cells).toList)=cells.toList.take (a+k)++l++cells.toList.drop (a+k+l.length)
 |[],k,cells,h=>mV
 |v::l,k,cells,h=>by
  have e:=Zv a l (k+1) (cells.setIfInBounds (a+k) v) (by simp at h⊢;omega);simp only[List.zipIdx_cons,A6b];rw[e];simp only[Array.toList_setIfInBounds,A1y];have b:a+k<cells.toList.length:=by simp at h⊢;omega
  have c:(cells.toList.set (a+k) v).take (a+(k+1))=cells.toList.take (a+k)++[v]:=by
   rw[show a+(k+1)=a+k+1 by omega,A0t,A61 (A0s _),A2q b];rfl
  have d:(cells.toList.set (a+k) v).drop (a+(k+1)+l.length)=cells.toList.drop (a+k+(l.length+1)):=by
   rw[A49 oV];congr 1;omega
  rw[c,d];simp
def Aar (b:Nat->Option (Nat×Nat))(cells:Array Value)(i a size:Nat)(v:Value)(rest:List (Nat×Value))(hp:b i=some (a,size))(c:v.cells.size=size)(d:a+size<=cells.size) :
 Instr.fill b cells ((i,v)::rest)=Instr.fill b (cells.toList.take a++v.cells.toList++cells.toList.drop (a+size)).toArray rest:=by
 have e:v.cells.zipIdx.foldl (fun (cs:Array Value) (p:Value×Nat)=>cs.setIfInBounds (a+p.2) p.1) cells=(cells.toList.take a++v.cells.toList++cells.toList.drop (a+size)).toArray:=by
  apply A6q;have:=Zv a v.cells.toList 0 cells gV;simp only[A2w,A4n,c]at this;rw[<-this,<-Array.foldl_toList,Array.toList_zipIdx]
 rw[Instr.fill.eq_2];simp only[hp];rw[if_neg (by simp[c];omega),<-e]
def Q3 (P:Program):List Field->Option (List (Nat×Nat))
 |[]=>some []
 |f::l=>match P.info? f.type with
  |some i=>match Q3 P l with|some r=>some ((f.offset,i.size)::r)|none=>none
  |none=>none
def Ae2 (pl:List (Nat×Nat)):List Value->List (Nat×Value)->Option (List Value)
 |cells,[]=>some cells
 |cells,(i,v)::r=>match pl[i]? with
  |some (off,size)=>cond (Nat.beq v.cells.size size&&Nat.ble (off+size) cells.length) (Ae2 pl (cells.take off++v.cells.toList++cells.drop (off+size)) r) none
  |none=>none
def W5 (b:List (Nat×Nat)):∀ (a:List (Nat×Value)) (cells:List Value) (r:List Value),Ae2 b cells a=some r->Instr.fill (fun i=>b[i]?) cells.toArray a=some r.toArray
 |[],cells,r,h=>by simp[Ae2]at h;simp[Instr.fill,h]
 |(i,v)::a,cells,r,h=>by
  unfold Ae2 at h;split at h
  ·rename_i off size hp;cases hc:(Nat.beq v.cells.size size&&Nat.ble (off+size) cells.length) with
   |false=>simp[hc]at h
   |true =>
    simp only[hc,cond_true]at h;simp only[A1b]at hc;rw[Aar _ _ i off size v a hp (A1u hc.1) (by simpa using A72 hc.2)];exact W5 b a _ r h
  cases h
def Ym {P:Program}{w:World}:∀ (l:List Field) (r:List (Nat×Nat)),Q3 P l=some r->(l.mapM (fun f=>do pure (f.offset,<-sizeOf f.type)):Sem (List (Nat×Nat))).run P w=.ok r w
 |[],r,h=>by simp[Q3]at h;subst h;simp
 |f::l,r,h=>by
  unfold Q3 at h;split at h
  ·rename_i i hi;split at h
   ·rename_i r' hr;simp at h;subst h;rw[A9g];have a:=Ym (P:=P) (w:=w) l r' hr;simp only[Sem.run_bind,sizeOf,typeInfo,run_program,Result.andThen_ok,hi,Sem.run_pure]at a⊢;rw[a];rfl
   cases h
  cases h
end fill
section
variable {b:Blk}{g i:Nat}{l:List SV}{o:Oper}{t:TypeId}{x:SV}
variable [Cj] [Dd]
def J8:List SV->Option (List Value)
 |[]=>some []
 |.v x::l=>match J8 l with|some r=>some (x::r)|none=>none
 |_=>none
def M2 (P:Program)(t:TypeId):Option Bool :=
 match P.underlying t with
 |some (.struct _)|some (.array _ _)=>some true
 |some _=>some false
 |none=>none
def szB (P:Program)(t:TypeId):Option Nat:=match P.info? t with|some i=>some i.size|none=>none
def ldv (P:Program)(t:TypeId)(cells:List SV)(off:Nat):Option SV :=
 match M2 P t with
 |some true =>
  match szB P t with
  |some n=>match J8 ((cells.drop off).take n) with
   |some l=>cond (Nat.beq l.length n) (some (.v (.agg l.toArray))) none
   |none=>none
  |none=>none
 |some false=>match cells[off]? with
  |some (.v x)=>some (.v x)
  |some (.p k o)=>some (.p k o)
  |_=>none
 |none=>none
def Kn:SV->Option (List SV)
 |.v x=>cond (x.cells.toList.all Be) (some (x.cells.toList.map .v)) none
 |.p k off=>some [.p k off]
 |.junk=>none
def Ni (l:List SV)(off:Nat)(r:List SV):List SV:=l.take off++r++l.drop (off+r.length)
def Ny (P:Program)(t:TypeId)(f:Nat):Option Nat :=
 match P.underlying t with
 |some (.struct fs)=>match fs[f]? with
  |some fd=>match szB P fd.type with
   |some (_+1)=>some fd.offset
   |_=>none
  |none=>none
 |_=>none
def Mw (s:S)(x:Operand):Value:=match s.ev x with|.v y=>y|_=>undef
def isV:SV->Bool|.v _=>true|_=>false
def M1 (s:S)(o:Op):Bool:=o.operands.toList.all fun x=>isV (s.ev x)
def pv (P:Program)(env:Operand->Value)(o:Op):Option Value :=
 match o with
 |.extract x i=>match env x with|.tuple vs=>vs[i]?|_=>none
 |.pick c a b=>match env c with|.bool true=>some (env a)|.bool false=>some (env b)|_=>none
 |.makeFunc fn first captured=>some (.func fn (first.map env) (captured.map env))
 |.unOp .not _ x=>match env x with|.bool b=>some (.bool !b)|_=>none
 |.convert src dst x=>match P.underlying src with
  |some .string=>match P.underlying dst with
   |some .string=>match env x with|.string y=>some (.string y)|_=>none
   |_=>none
  |_=>none
 |.call { callee:=.builtin .len,args:=args,argTypes:=ts } =>
  match args[0]?,ts[0]? with
  |some x,some t=>match P.underlying t with
   |some (.slice _)=>match env x with|.slice _ n _=>some (.int .i64 n)|_=>none
   |some .string=>match env x with|.string y=>some (.int .i64 y.size)|_=>none
   |_=>none
  |_,_=>none
 |.nilCheck x=>match env x with|.pointer (some a)=>some (.pointer (some a))|_=>none
 |.build t ps=>match P.info? t with
  |some i=>match i.zero with
   |some z=>match P.underlying t with
    |some (.struct fs)=>match Q3 P fs.toList with
     |some pl=>match Ae2 pl z.cells.toList (ps.toList.map fun (i,x)=>(i,env x)) with|some l=>some (.agg l.toArray)|none=>none
     |none=>none
    |_=>none
   |none=>none
  |none=>none
 |.field t x f=>match P.underlying t with
  |some (.struct fs)=>match fs[f]? with
   |some fd=>match M2 P fd.type with
    |some false=>match env x with|.agg cs=>cs[fd.offset]?|_=>none
    |some true=>match szB P fd.type with
     |some n=>match env x with|.agg cs=>some (.agg (cs.extract fd.offset (fd.offset+n)))|_=>none
     |none=>none
    |none=>none
   |none=>none
  |_=>none
 |_=>none
def eff (P:Program)(name:Nat)(s:S)(o:Op):Option (SV×Option (Nat×Blk)) :=
 match o with
 |.move x=>some (s.ev x,none)
 |.assign x=>some (s.ev x,none)
 |.alloc t=>match P.info? t with
  |some i=>match i.zero with
   |some z=>match s.hp name with
    |none=>match Kn (.v z) with
     |some l=>some (.p name 0,some (name,⟨t,l⟩))
     |none=>none
    |some _=>none
   |none=>none
  |none=>none
 |.box t x=>match s.hp name with
  |none=>match Kn (s.ev x) with
   |some l=>some (.p name 0,some (name,⟨t,l⟩))
   |none=>none
  |some _=>none
 |.load t x=>match s.ev x with
  |.p k off=>match s.hp k with
   |some b=>match ldv P t b.cells off with|some y=>some (y,none)|none=>none
   |none=>none
  |_=>none
 |.store t x y=>match s.ev x with
  |.p k off=>match s.hp k with
   |some b=>match Kn (s.ev y) with
    |some l=>match szB P t with
     |some n=>cond (Nat.beq l.length n&&Nat.ble (off+n) b.cells.length) (some (.v undef,some (k,⟨b.t,Ni b.cells off l⟩))) none
     |none=>none
    |none=>none
   |none=>none
  |_=>none
 |.fieldAddr t x f=>match s.ev x with
  |.p k off=>match Ny P t f with|some fo=>some (.p k (off+fo),none)|none=>none
  |_=>none
 |o=>match M1 s o with
  |true=>match pv P (Mw s) o with|some y=>some (.v y,none)|none=>none
  |false=>none
section sound
variable {P:Program} {c:Cx} {s:S} {u m:PH} {ρ:Nat->Nat} {a:Act} {w:World}
def Aao:∀ {l:List SV} {r:List Value},J8 l=some r->l=r.map .v
 |[],r,h=>by simp[J8]at h;simp[h]
 |.v x::l,r,h=>by
  unfold J8 at h;cases hl:J8 l with
  |none=>simp[hl]at h
  |some r'=>simp[hl]at h;subst h;simp[<-Aao hl]
 |.junk::l,r,h=>by simp[J8]at h
 |.p k off::l,r,h=>by simp[J8]at h
theorem Ei {b:Bool}(h:M2 P t=some b)(w:World):(isAgg t).run P w=.ok b w:=by
 unfold M2 at h;unfold isAgg;cases hd:P.underlying t with
 |none=>grind
 |some d=>simp only[Sem.run_bind,run_underlying hd];cases d<;>simp_all
theorem Bg {n:Nat}(h:szB P t=some n)(w:World):(sizeOf t).run P w=.ok n w:=by
 unfold szB at h;unfold sizeOf typeInfo;cases hi:P.info? t with
 |none=>grind
 |some i=>simp_all
def Eu (g d j:Nat):(⟨g,d,none⟩:Addr).add j=⟨g,d+j,none⟩:=by unfold Addr.add;split<;>simp_all
def Xn {o:Option Obj}(h:Anw ρ b o)(f:w.heap[g]?=o)(j:b.cells[i]?=some x)(k:x≠.junk):w.cell? ⟨g,i,none⟩=some (x.den ρ):=by
 obtain⟨cs,e,_,d⟩:=h;simp[World.cell?,f,e,d i x j k]
theorem Ak7 {g f:Nat}{y:SV}(h:Anw ρ b (w.heap[g]?))(d:ldv P t b.cells f=some y) :
 (loadVar t ⟨g,f,none⟩).run P w=.ok (y.den ρ) w/\y≠.junk/\(∀ k o,y=.p k o->SV.p k o∈b.cells):=by
 unfold ldv at d;unfold loadVar;split at d
 ·rename_i ha;split at d
  ·rename_i n hn;split at d
   ·rename_i l hl;cases hlen:Nat.beq l.length n with
    |false=>grind
    |true =>
     simp[hlen]at d;subst d;have z:l.length=n:=A1u hlen;have B:=Aao hl;have q:∀ j v,l[j]?=some v->w.cell? ((⟨g,f,none⟩:Addr).add j)=some v:=by
      intro j v A;rw[Eu];have r:((b.cells.drop f).take n)[j]?=some (.v v):=by grind
      rw[A3f]at r;split at r
      ·rw[A3m]at r;exact Xn h rfl r mV
      cases r
     have:=run_loadCells_list (P:=P) w ⟨g,f,none⟩ l q;refine⟨?_,mV,mV⟩;simp only[Sem.run_bind,Ei ha,Result.andThen_ok,if_true,Bg hn];rw[<-z,this];rfl
   cases d
  cases d
 ·rename_i ha;split at d
  ·rename_i x hx;simp at d;subst d;have:=Xn h rfl hx mV;exact⟨by simp[Ei ha,this],mV,mV⟩
  ·rename_i k o hx;simp at d;subst d;have:=Xn h rfl hx mV;exact⟨by simp[Ei ha,this],mV,fun C o' e=>by simp at e;obtain⟨rfl,rfl⟩:=e;exact A0w hx⟩
  cases d
 grind
theorem Fo (h:Kn x=some l)(ρ:Nat->Nat) :
 l.map (·.den ρ)=(x.den ρ).cells.toList/\(∀ y∈l,y≠.junk)/\(∀ v∈l.map (SV.den ρ),Be v=true)/\(∀ k o,SV.p k o∈l->x=.p k o)/\x≠.junk:=by
 cases x with
 |junk=>simp[Kn]at h
 |v x =>
  unfold Kn at h;cases hc:x.cells.toList.all Be with
  |false=>grind
  |true =>
   simp only[hc,cond_true,A0u]at h;subst h;refine⟨by simp[SV.den,Function.comp_def],mV,?_,mV,mV⟩;intro v e;simp[SV.den]at e;rw[A06]at hc;exact hc v (by simpa using e)
 |p k off =>
  simp[Kn]at h;subst h;refine⟨by simp[SV.den,Value.cells],mV,by simp[SV.den,Be],?_,mV⟩;intro f o' d;simp at d;rw[d.1,d.2]
theorem Am0 {v:List Value}(ρ:Nat->Nat)(h:l.map (·.den ρ)=v)(d:l[i]?=some x):v.toArray[i]?=some (x.den ρ):=by grind
def Atv {l:List Value}(h:∀ v∈l,Be v=true)(j:Nat)(z:Int):l.toArray[j]?≠some (.int .u64 z):=by
 intro e;rw[A2x]at e;exact Kc (h _ (A0w e)) z rfl
def Yp (t:TypeId)(v:Value):(newVar t v).run P w=.ok ⟨w.heap.size,0,none⟩ (w.alloc (.cells v.cells t)):=by
 simp[newVar,newRow]
def Rel.box_new (h:Rel c s u m ρ a w){k:Nat}(E:s.hp k=none)(F:Kn x=some l)(I:∀ j f,x=.p j f->s.hp j≠none)(t:TypeId){d:Option Nat}(C:∀ e,d=some e->e<s.n) :
 ∃ J,Rel c ((s.put d (.p k 0)).setb (some (k,⟨t,l⟩))) u m J (a.put d (.pointer (some ⟨w.heap.size,0,none⟩))) (w.alloc (.cells (x.den ρ).cells t)):=by
 obtain⟨q,K,r,A,_⟩:=Fo F ρ;have B:=h.alloc (k:=k) (b:=⟨t,l⟩) (cs:=(x.den ρ).cells) E (by rw[<-A4n,<-q];simp)
  (fun i y D _=>by have:=Am0 ρ q D;simpa using this) (fun j f H=>I j f (A j f H))
  (fun j z=>by have:=Atv r j z;rw[q]at this;simpa using this)
 refine⟨fun j=>if j=k then w.heap.size else ρ j,?_⟩;rw[<-Sa];refine B.put (fun _=>by simp[SV.den]) (fun j f e=>?_) (by rw[Tu];exact C);simp only[SV.p.injEq]at e;rw[<-e.1,Bq];simp
theorem Qa (h:Rel c s u m ρ a w)(e:∀ cs b,o.op≠.select cs b)(d:M1 s o.op=true):execOp a.eval o=execOp (Mw s) o:=by
 refine execOp_congr o e fun x f=>?_;unfold M1 at d;rw[A06]at d;have:=d x (by simpa using f);unfold isV at this;split at this
 ·rename_i y hy;rw[h.eval x (by rw[hy];simp),hy];simp[SV.den,Mw,hy]
 grind
def Ao7 {d:Operand->Value}{y:Value}(h:pv P d o.op=some y)(w:World):(execOp d o).run P w=.ok (.value y) w:=by
 obtain⟨C,D,B,pos,q,r⟩:=o;unfold pv at h;simp only at h;split at h
 ·rename_i x i;split at h
  ·rename_i vs hvs;simp[execOp,Instr.extract,hvs,h]
  cases h
 ·rename_i c x y';split at h
  ·rename_i hc;simp at h;subst h;simp[execOp,hc,asBool]
  ·rename_i hc;simp at h;subst h;simp[execOp,hc,asBool]
  cases h
 ·simp at h;subst h;simp[execOp,Instr.makeFunc]
 ·rename_i t x;split at h
  ·rename_i b hb;simp at h;subst h;simp[execOp,Op.unary,hb]
  cases h
 ·rename_i src dst' x;split at h
  ·rename_i k;split at h
   ·rename_i A;split at h
    ·rename_i z hz;simp at h;subst h;simp[execOp,convert,run_underlying k,run_underlying A,hz]
    cases h
   cases h
  cases h
 ·rename_i args ts;split at h
  ·rename_i x t hx ht;have j:(args.map d)[0]?=some (d x):=by simp[hx]
   split at h
   ·rename_i e hu;split at h
    ·rename_i hz;simp at h;subst h;simp[execOp,resolve,invoke,builtin,Builtin.len_,j,ht,run_underlying hu,hz,goInt]
    cases h
   ·rename_i hu;split at h
    ·rename_i hz;simp at h;subst h;simp[execOp,resolve,invoke,builtin,Builtin.len_,j,ht,run_underlying hu,hz,goInt]
    cases h
   cases h
  cases h
 ·rename_i x;split at h
  ·rename_i z hz;simp at h;subst h;simp[execOp,hz]
  cases h
 ·rename_i t ps;split at h
  ·rename_i i hi;split at h
   ·rename_i z hz;split at h
    ·rename_i fs hu;split at h
     ·rename_i pl hpl;split at h
      ·rename_i l hl;simp at h;subst h;have k:=W5 pl _ _ _ hl;have A:=Ym (w:=w) fs.toList pl hpl;have e:(ps.map fun (p:Nat×Operand)=>(p.1,d p.2)).toList=ps.toList.map fun (p:Nat×Operand)=>(p.1,d p.2):=mV;simp only[execOp,Instr.build,zeroValue,typeInfo,Sem.run_bind,Sem.run_map,run_program,Result.andThen_ok,hi,hz,Sem.run_pure,run_underlying hu];rw[<-A6r (xs:=fs),A8n];simp only[Sem.run_map,A,Result.andThen_ok,A2x];simp only[A6r]at k;rw[e,k];rfl
      cases h
     cases h
    cases h
   cases h
  cases h
 ·rename_i t x f;split at h
  ·rename_i fs hu;split at h
   ·rename_i fd hf;split at h
    ·rename_i ha;split at h
     ·rename_i cs hx;simp[execOp,Instr.field,run_underlying hu,hf,asAgg,hx,part,Ei ha,h]
     cases h
    ·rename_i ha;split at h
     ·rename_i n hn;split at h
      ·rename_i cs hx;simp at h;subst h;simp[execOp,Instr.field,run_underlying hu,hf,asAgg,hx,part,Ei ha,Bg hn]
      cases h
     cases h
    cases h
   cases h
  cases h
 cases h
end sound
end
section
variable {l r:List SV}{off:Nat}{x:SV}
variable [Cj] [Dd]
section sound
variable {P:Program} {c:Cx} {s:S} {u m:PH} {ρ:Nat->Nat} {a:Act} {w:World}
def Azl (P:Program)(a:Act)(o:Oper)(w:World)(y:Value)(w':World):Prop :=
 (execOp a.eval o).run P w=.ok (.value y) w'\/((execOp a.eval o).run P w=.ok .skip w'/\y=undef)
def Ahv (l r:List SV)(off:Nat)(h:off+r.length<=l.length):(Ni l off r).length=l.length:=by
 unfold Ni;simp;omega
def Wr (h:x∈Ni l off r):x∈l\/x∈r:=by
 unfold Ni at h;rcases A04.1 h with h|h
 ·rcases A04.1 h with h|h
  ·exact .inl (A23 h)
  exact .inr h
 exact .inl (A3w h)
def Agx (h:off+r.length<=l.length)(i:Nat):(Ni l off r)[i]?=if i<off then l[i]? else if i<off+r.length then r[i-off]? else l[i]?:=by
 unfold Ni;rw[A2m,A5s];simp only[A0q,A3o (show off<=l.length by omega)];split
 ·rw[A3f,if_pos (by assumption)]
 rw[A5s];by_cases b:i<off+r.length
 ·rw[if_pos oV,if_pos b]
 rw[if_neg oV,if_neg b,A3m];congr 1;omega
def Alb {cs:List Value}{r:List Value}(h:off+r.length<=cs.length)(i:Nat):(cs.take off++r++cs.drop (off+r.length))[i]?=if i<off then cs[i]? else if i<off+r.length then r[i-off]? else cs[i]?:=by
 rw[A2m,A5s];simp only[A0q,A3o (show off<=cs.length by omega)];split
 ·rw[A3f,if_pos (by assumption)]
 rw[A5s];by_cases b:i<off+r.length
 ·rw[if_pos oV,if_pos b]
 rw[if_neg oV,if_neg b,A3m];congr 1;omega
def Ani (h:Rel c s u m ρ a w){V:Nat}{o:Oper}{hw:Option (Nat×Blk)}(d:eff P V s o.op=some (x,hw))(J:∀ e,o.dst=some e->e<s.n) :
 ∃ F w' y,Azl P a o w y w'/\Rel c ((s.put o.dst x).setb hw) u m F (a.put o.dst y) w':=by
 obtain⟨H,op,N,pos,C,D⟩:=o;simp only at d J⊢;have mv:∀ z:Operand,∃ F w' y,(Result.ok (Next.value (a.eval z)) w=Result.ok (Next.value y) w')/\Rel c (s.put H (s.ev z)) u m F (a.put H y) w':=by
  intro z;refine⟨ρ,w,a.eval z,rfl,h.put (fun q=>h.eval z q) (fun k off q=>?_) J⟩;cases z with
  |tmp t=>exact h.lv.1 t k off q
  |const v=>cases q
  |global g=>cases q
  |func f=>cases q
 have E:∀ (z:Operand) (k off:Nat),s.ev z=.p k off->s.hp k≠none:=by
  intro z k off q;cases z with
  |tmp t=>exact h.lv.1 t k off q
  |const v=>cases q
  |global g=>cases q
  |func f=>cases q
 unfold eff at d;split at d
 ·rename_i z;simp only[A0u,A2c]at d;obtain⟨rfl,rfl⟩:=d;obtain⟨F,w',y,e,r⟩:=mv z;exact⟨F,w',y,.inl (by simpa[execOp] using e),r⟩
 ·rename_i z;simp only[A0u,A2c]at d;obtain⟨rfl,rfl⟩:=d;obtain⟨F,w',y,e,r⟩:=mv z;exact⟨F,w',y,.inl (by simpa[execOp] using e),r⟩
 ·rename_i t;split at d
  ·rename_i i B;split at d
   ·rename_i z q;split at d
    ·rename_i hn;split at d
     ·rename_i l hl;simp only[A0u,A2c]at d;obtain⟨rfl,rfl⟩:=d;obtain⟨F,r⟩:=h.box_new hn hl mV t J;refine⟨F,_,_,.inl ?_,r⟩;simp[execOp,Instr.alloc,zeroValue,typeInfo,B,q,Yp,SV.den]
     cases d
    cases d
   cases d
  cases d
 ·rename_i t z;split at d
  ·rename_i hn;split at d
   ·rename_i l hl;simp only[A0u,A2c]at d;obtain⟨rfl,rfl⟩:=d;obtain⟨F,r⟩:=h.box_new hn hl (fun j off q=>E z j off q) t J;refine⟨F,_,_,.inl ?_,r⟩;have q:=h.eval z (Fo hl ρ).2.2.2.2;simp[execOp,Instr.box,Yp,q]
   cases d
  cases d
 ·rename_i t z;split at d
  ·rename_i k off q;split at d
   ·rename_i b hb;split at d
    ·rename_i y hy;simp only[A0u,A2c]at d;obtain⟨rfl,rfl⟩:=d;obtain⟨h1,h2,h3⟩:=Ak7 (P:=P) (w:=w) (h.box k b hb).1 hy;have A:=h.eval z (by rw[q];simp);rw[q]at A;refine⟨ρ,w,y.den ρ,.inl ?_,h.put (fun _=>rfl) (fun Z o' e=>h.lv.2 k b Z o' hb (h3 Z o' e)) J⟩;simp[execOp,Instr.loadAt,Instr.sureAddr,A,SV.den,h1]
    cases d
   cases d
  cases d
 ·rename_i t z y;split at d
  ·rename_i k off q;split at d
   ·rename_i b hb;split at d
    ·rename_i l hl;split at d
     ·rename_i n hn;cases hc:(Nat.beq l.length n&&Nat.ble (off+n) b.cells.length) with
      |false=>simp[hc]at d
      |true =>
       simp only[hc,cond_true,A0u,A2c]at d;obtain⟨rfl,rfl⟩:=d;simp only[A1b]at hc;have O:l.length=n:=A1u hc.1;have a0:off+n<=b.cells.length:=A72 hc.2;obtain⟨W,e2,e3,e4,e5⟩:=Fo hl ρ;have A:=h.eval z (by rw[q];simp);rw[q]at A;have Y:=h.eval y e5;obtain⟨⟨cs,c1,c2,c3⟩,r0,r1,r2⟩:=h.box k b hb;have I:((s.ev y).den ρ).cells.toList.length=n:=by rw[<-W];simpa using O
       have T:=run_storeCells_at P (ρ k) off b.t ((s.ev y).den ρ).cells.toList 0 cs w c1 oV (fun v hv=>Ja (e3 v (by rw[W];exact hv)));have K:off+((s.ev y).den ρ).cells.toList.length<=cs.toList.length:=by simp at I⊢;omega
       refine⟨ρ,w.setRow (ρ k) (cs.toList.take off++((s.ev y).den ρ).cells.toList++cs.toList.drop (off+((s.ev y).den ρ).cells.toList.length)).toArray,undef,.inr ⟨?_,rfl⟩,?_⟩
       ·have X:((s.ev y).den ρ).cells.size=n:=by simpa using I
        have U:a.eval z=.pointer (some ⟨ρ k,off,none⟩):=A;simp only[execOp,Instr.storeAt,Instr.sureAddr,U,Y,storeVar,Sem.run_bind,Sem.run_pure,Result.andThen_ok,Bg hn,X,ne_eq,not_true_eq_false,if_false];simp only[A2w]at T;simp[T]
       rw[<-Sa];refine Rel.put (x:=.v undef) ?_ (fun _=>rfl) mV (by rw[Tu];exact J);refine h.store (b':=⟨b.t,Ni b.cells off l⟩) hb rfl ?_ (fun i x B hx=>?_) (fun j o Q=>?_) (fun j zz=>?_)
       ·simp only[A7k];rw[Ahv _ _ _ oV];simp at I⊢;omega
       ·rw[A2x,Alb K];rw[Agx oV]at B;rw[I];rw[O]at B;split
        ·rename_i hlt;rw[if_pos hlt]at B;have:=c3 i x B hx;simpa using this
        rename_i hlt;rw[if_neg hlt]at B;split
        ·rename_i hlt2;rw[if_pos hlt2]at B;rw[<-W];simp[B]
        rename_i hlt2;rw[if_neg hlt2]at B;have:=c3 i x B hx;simpa using this
       ·rcases Wr Q with Q|Q
        ·exact h.lv.2 k b j o hb Q
        exact E y j o (e4 j o Q)
       intro e;rw[A2x,Alb K]at e;have R:∀ (i:Nat),cs.toList[i]?≠some (Value.int .u64 zz):=fun i B=>by
        have:=h.gd.cl (ρ k) cs b.t (0,0) i zz c1 (by simpa using B);rw[r1]at this;cases this
       split at e
       ·exact R _ e
       split at e
       ·exact Kc (e3 _ (by rw[W];exact A0w e)) zz rfl
       exact R _ e
     cases d
    cases d
   cases d
  cases d
 ·rename_i t z f;split at d
  ·rename_i k off q;split at d
   ·rename_i fo hf;simp only[A0u,A2c]at d;obtain⟨rfl,rfl⟩:=d;have A:=h.eval z (by rw[q];simp);rw[q]at A;refine⟨ρ,w,_,.inl ?_,h.put (y:=.pointer (some ⟨ρ k,off+fo,none⟩)) (fun _=>rfl) (fun Z o' e=>?_) J⟩
    ·unfold Ny at hf;split at hf
     ·rename_i fs hfs;split at hf
      ·rename_i fd hfd;split at hf
       ·rename_i n hn;simp only[A0u]at hf;subst hf;simp[execOp,Instr.fieldAt,run_underlying hfs,hfd,Instr.sureAddr,A,SV.den,fieldPlace,Bg hn,Eu]
       cases hf
      cases hf
     cases hf
    simp only[SV.p.injEq]at e;rw[<-e.1];exact E z k off q
   cases d
  cases d
 rename_i hn1 hn2 hn3 hn4 hn5 hn6 hn7;split at d
 ·rename_i hall;split at d
  ·rename_i y hy;simp only[A0u,A2c]at d;obtain⟨rfl,rfl⟩:=d;refine⟨ρ,w,y,.inl ?_,h.put (fun _=>rfl) mV J⟩;rw[Qa (o:=⟨H,op,N,pos,C,D⟩) h (fun cs b L=>?_) hall]
   ·exact Ao7 (o:=⟨H,op,N,pos,C,D⟩) hy w
   simp only at L;subst L;simp[pv]at hy
  cases d
 cases d
end sound
end
section
variable {a:Act}{d:Option Nat}{hw:Option (Nat×Blk)}{i name y:Nat}{m u:PH}{o:Oper}{s s':S}{w:World}{x:SV}{z:Operand}{ρ:Nat->Nat}
variable [Cj] [Dd] [Pu]
def gv (s:S)(ops:Array Oper)(o:Oper):Option Bool :=
 match o.guard with
 |none=>some true
 |some (j,want)=>match ops[j]? with
  |some oj=>match oj.dst with
   |some d=>match s.tm d with
    |.v (.bool b)=>some (b==want)
    |.v (.tuple _)=>some false
    |_=>none
   |none=>none
  |none=>none
def G8 (s:S)(o:Oper):Bool:=match o.dst with|none=>true|some d=>Nat.blt d s.n
def Atn (d:TypeId):Bool:=Nat.beq d 3
def E9:Op->Bool
 |.convert _ d _=>Atn d
 |.move _|.assign _|.pick ..|.alloc _|.box ..|.build ..|.load ..|.nilCheck _|.binOp ..|.unOp ..|.fieldAddr ..|.field ..|.indexAddr ..|.index ..|.slice ..|.extract ..|.makeFunc ..|.makeInterface ..=>true
 |.lookup ..=>true
 |.call { callee:=.builtin .len,.. }|.call { callee:=.builtin .cap,.. }|.call { callee:=.builtin .max,.. }|.call { callee:=.builtin .min,.. }=>true
 |_=>false
def Ij:Op->Bool
 |.convert _ d _=>!Atn d
 |.load ..|.lookup ..=>true
 |_=>false
def Na:Op->Bool
 |.store ..=>true
 |.call { callee:=.builtin .append,.. }|.call { callee:=.builtin .copy,.. }=>true
 |_=>false
def bef (ops:Array Oper):Nat->Nat->Nat->Bool
 |0,_,_=>false
 |f+1,i,x=>match ops[i]? with
  |some o=>o.after.toList.any fun e=>Region.binds .any e&&(Nat.beq e.on x||bef ops f e.on x)
  |none=>false
def A0c:Op->Bool
 |.call { callee:=.value _,.. }=>true
 |.mapUpdate ..|.insert ..=>true
 |_=>false
def Ay9 (ops:Array Oper)(y:Nat):Bool:=(List.range ops.size).all fun x=>Nat.beq x y||bef ops ops.size y x
def Pq (ops:Array Oper)(y:Nat)(o:Op):Bool:=Na o||(A0c o&&Ay9 ops y)
def Ann {ops:Array Oper}{o:Op}(h:Na o=true):Pq ops y o=true:=by unfold Pq;rw[h];rfl
theorem Ap2 {ops:Array Oper}{o:Op}(h:Pq ops y o=false):Na o=false:=by
 unfold Pq at h;cases hm:Na o with
 |true=>grind
 |false=>rfl
def Qn (ops:Array Oper)(t:Nat):Bool:=ops.toList.all fun o=>match o.dst with|some d=>!Nat.beq d t|none=>true
def isP:SV->Bool
 |.p _ _=>true
 |_=>false
def faB (ops:Array Oper)(s:S)(o:Oper):Bool:=o.guard.isNone&&match o.op with
 |.fieldAddr _ (.tmp b) _=>Qn ops b&&isP (s.tm b)
 |_=>false
def wrB (t:Nat)(o:Oper):Bool:=match o.dst with|some d=>Nat.beq d t|none=>false
def Y6 (ops:Array Oper)(s:S)(t:Nat):Bool:=ops.toList.any (wrB t)&&ops.toList.all fun o=>!wrB t o||faB ops s o
def Agd (ops:Array Oper)(s:S)(o:Oper):Bool:=match o.op with
 |.load _ (.tmp t)=>(Qn ops t&&isP (s.tm t))||Y6 ops s t
 |_=>false
def Ky (ops:Array Oper)(s:S):Bool:=ops.toList.all fun o=>!Ij o.op||Agd ops s o
def Fk:Op->Bool
 |.alloc _|.box ..=>true
 |_=>false
def M7:Op->Bool
 |.select ..=>false
 |_=>true
def Lb {o:Op}(h:M7 o=true)(cs:Array SelectCase)(b:Bool):o≠.select cs b:=by rintro rfl;simp[M7]at h
def Ft (P:Program)(env:Operand->Value)(o:Oper)(w:World)(K:Value->World->Prop):Prop :=
 match (execOp env o).run P w with
 |.ok (.value v) w'=>K v w'
 |.ok .skip w'=>K undef w'
 |.ok (.enter f args) w'=>Calls P f args w' fun e w''=>∃ v,e=.returned v/\K v w''
 |_=>False
inductive Ob (P:Program)(id:Nat)(ops:Array Oper)(dr:Bool)(Fin:S->PH->PH->Prop):List Nat->S->PH->PH->Prop
 |nil {s:S} {u m:PH}:Fin s u m->Ob P id ops dr Fin [] s u m
 |auto {i:Nat} {l:List Nat} {s:S} {u m:PH} {o:Oper} {x:SV} {hw:Option (Nat×Blk)}:ops[i]?=some o->gv s ops o=some true->G8 s o=true->eff P (id*1000+i) s o.op=some (x,hw) ->
  Ob P id ops dr Fin l ((s.put o.dst x).setb hw) u m->Ob P id ops dr Fin (i::l) s u m
 |skip {i:Nat} {l:List Nat} {s:S} {u m:PH} {o:Oper}:ops[i]?=some o->gv s ops o=some false->G8 s o=true ->
  Ob P id ops dr Fin l (s.put o.dst (.v undef)) u m->Ob P id ops dr Fin (i::l) s u m
 |ask {i:Nat} {l:List Nat} {s:S} {u m:PH} {o:Oper} {v:Value}:ops[i]?=some o->gv s ops o=some true->G8 s o=true->M1 s o.op=true->M7 o.op=true->Fk o.op=false ->
  (∀ w,(Ij o.op=true\/dr=false->F7 u w/\(Pu.b=false\/dr=false->F7 m w))->(execOp (Mw s) o).run P w=.ok (.value v) w) ->
  Ob P id ops dr Fin l (s.put o.dst (.v v)) u m->Ob P id ops dr Fin (i::l) s u m
 |big {i:Nat} {l:List Nat} {s:S} {u m:PH} {o:Oper} {K:Value->PH->PH->Prop}:ops[i]?=some o->gv s ops o=some true->G8 s o=true->M1 s o.op=true->M7 o.op=true->E9 o.op=false ->
  (∀ v u' m',K v u' m'->PH.le m m'\/dr=false\/Pq ops i o.op=true\/Ky ops s=true\/Pu.b=true) ->
  (∀ w,Ci u m w->Ft P (Mw s) o w fun v w'=>∃ u' m',Ci u' m' w'/\Cn u m w u' m' w'/\K v u' m') ->
  (∀ v u' m',PH.le u u'->K v u' m'->Ob P id ops dr Fin l (s.put o.dst (.v v)) u' m')->Ob P id ops dr Fin (i::l) s u m
section sound
variable {P:Program} {id:Nat} {ops:Array Oper} {dr:Bool} {Fin:S->PH->PH->Prop} {c:Cx} {Q:Exit->Act->World->Prop}
theorem Ov (h:Rel c s u m ρ a w){b:Bool}(f:gv s ops o=some b):Region.wanted o (yielded ops a.tmps)=b:=by
 unfold gv at f;unfold Region.wanted;split at f
 ·grind
 rename_i j want e;rw[e];split at f
 ·rename_i oj hj;split at f
  ·rename_i d hd;split at f
   ·rename_i b' hb;have:=h.tm d (by rw[hb];simp);rw[hb]at this;simp[yielded,hj,hd,this]at f⊢;exact f
   ·rename_i vs hb;have:=h.tm d (by rw[hb];simp);rw[hb]at this;simp only[A0u]at f;subst f;simp[yielded,hj,hd,this,SV.den]
   cases f
  cases f
 grind
def Acn (h:G8 s o=true):∀ e,o.dst=some e->e<s.n:=by
 intro e b;unfold G8 at h;rw[b]at h;exact A8r▸h
def Zo {w w':World}{y:Value}{K:Act->World->Prop}(h:Azl P a o w y w')(b:K (a.put o.dst y) w'):o.wp P a w K Q:=by
 unfold Oper.wp;rcases h with h|⟨h,rfl⟩<;>rw[h]<;>exact b
theorem Zq {ops:Array Oper}(h:∀ t,Qn ops t=true->s'.tm t=s.tm t)(o:Oper):faB ops s' o=faB ops s o:=by
 unfold faB;split
 ·grind
 rfl
def Mc {ops:Array Oper}(h:∀ t,Qn ops t=true->s'.tm t=s.tm t)(t:Nat):Y6 ops s' t=Y6 ops s t:=by
 unfold Y6;simp only[Zq h]
def Ah1 {ops:Array Oper}(h:∀ t,Qn ops t=true->s'.tm t=s.tm t)(o:Oper):Agd ops s' o=Agd ops s o:=by
 unfold Agd;split
 ·rename_i t' t hop;rw[Mc h];cases hn:Qn ops t with
  |false=>rfl
  |true=>rw[h t hn]
 rfl
def Ace {ops:Array Oper}(h:∀ t,Qn ops t=true->s'.tm t=s.tm t):Ky ops s'=Ky ops s:=by
 unfold Ky;simp only[Ah1 h]
def ixB (o:Oper):Bool:=match o.op with
 |.indexAddr ..=>true
 |_=>false
def alB (ops:Array Oper)(t:Nat):Bool:=ops.toList.all fun o=>!wrB t o||(Fk o.op&&o.guard.isNone)
def Am3 (ops:Array Oper)(s:S)(t:Nat):Bool:=ops.toList.all fun o=>!wrB t o||ixB o||faB ops s o
def Ah5 {ops:Array Oper}(h:∀ t,Qn ops t=true->s'.tm t=s.tm t)(t:Nat):Am3 ops s' t=Am3 ops s t:=by
 unfold Am3;simp only[Zq h]
structure G6 (ops:Array Oper)(s s':S):Prop where
 eq:∀ t,Qn ops t=true->s'.tm t=s.tm t
 pt:∀ t,Y6 ops s t=true->isV (s.tm t)=false->isV (s'.tm t)=false
 nw:∀ t,alB ops t=true->isV (s.tm t)=false->isV (s'.tm t)=false
 ol:∀ t k off,Am3 ops s t=true->s'.tm t=.p k off->s.tm t=.p k off\/∃ b off',Qn ops b=true/\s.tm b=.p k off'
 fr:∀ t k off,alB ops t=true->s'.tm t=.p k off->s.tm t=.p k off\/s.hp k=none
 hm:∀ k,s.hp k≠none->s'.hp k≠none
def G6.refl (ops:Array Oper)(s:S):G6 ops s s:=⟨fun _ _=>rfl,fun _ _ h=>h,fun _ _ h=>h,fun _ _ _ _ h=>.inl h,fun _ _ _ _ h=>.inl h,fun _ h=>h⟩
def G6.trans {ops:Array Oper}{s s' l:S}(h:G6 ops s s')(j:G6 ops s' l):G6 ops s l :=
 ⟨fun t f=>(j.eq t f).trans (h.eq t f),fun t f n=>j.pt t (by rw[Mc h.eq];exact f) (h.pt t f n),fun t f n=>j.nw t f (h.nw t f n),
  fun t k g f hp=>by
   rcases j.ol t k g (by rw[Ah5 h.eq];exact f) hp with e|⟨b,o2,e1,e2⟩
   ·exact h.ol t k g f e
   exact .inr ⟨b,o2,e1,by rw[<-h.eq b e1];exact e2⟩,
  fun t k g f hp=>by
   rcases j.fr t k g f hp with e|e
   ·exact h.fr t k g f e
   refine .inr (A2h fun q=>h.hm k q e),fun k p=>j.hm k (h.hm k p)⟩
structure Fit (ops:Array Oper)(s:S)(o:Oper)(x:SV):Prop where
 fa:faB ops s o=true->isV x=false
 al:Fk o.op=true->o.guard.isNone=true->isV x=false
 ol:ixB o=true\/faB ops s o=true->∀ k off,x=.p k off->∃ b off',Qn ops b=true/\s.tm b=.p k off'
 fr:Fk o.op=true->∀ k off,x=.p k off->s.hp k=none
theorem Acc {ops:Array Oper}(b:ops[i]?=some o):o∈ops.toList:=by grind
def Gb (C:ops[i]?=some o)(x:SV)(hw:Option (Nat×Blk))(l:Fit ops s o x):G6 ops s ((s.put o.dst x).setb hw):=by
 have n:∀ {t:Nat} {q:Oper->Bool},(ops.toList.all fun o=>!wrB t o||q o)=true->o.dst=some t->q o=true:=fun {t q} g f=>by
  rw[A06]at g;have:=g o (Acc C);have A:wrB t o=true:=by unfold wrB;rw[f];simp
  rw[A]at this;simpa using this
 refine⟨fun t g=>?_,fun t g r=>?_,fun t g r=>?_,fun t k h g hp=>?_,fun t k h g hp=>?_,fun k B=>?_⟩
 ·rw[Fn,F6];intro f;unfold Qn at g;rw[A06]at g;have:=g o (Acc C);rw[f]at this;simp at this
 ·rw[Fn];by_cases f:o.dst=some t
  ·rw[f,Bt];unfold Y6 at g;rw[A1b]at g;exact l.fa (n g.2 f)
  rw[F6 s _ _ f];exact r
 ·rw[Fn];by_cases f:o.dst=some t
  ·rw[f,Bt];have:=n g f;rw[A1b]at this;exact l.al this.1 this.2
  rw[F6 s _ _ f];exact r
 ·rw[Fn]at hp;by_cases f:o.dst=some t
  ·rw[f,Bt]at hp;have p:(ops.toList.all fun o=>!wrB t o||(ixB o||faB ops s o))=true:=by unfold Am3 at g;simpa only[Bool.or_assoc] using g
   have:=n p f;rw[A33]at this;exact .inr (l.ol this k h hp)
  rw[F6 s _ _ f]at hp;exact .inl hp
 ·rw[Fn]at hp;by_cases f:o.dst=some t
  ·rw[f,Bt]at hp;have:=n g f;rw[A1b]at this;exact .inr (l.fr this.1 k h hp)
  rw[F6 s _ _ f]at hp;exact .inl hp
 rcases hw with _|⟨j,b⟩
 ·show (s.put o.dst x).hp k≠none;rw[Dg];exact B
 by_cases e:k=j
 ·subst e;rw[Bq];simp
 rw[Bd _ _ _ e,Dg];exact B
theorem Acz (h:faB ops s o=true):o.guard=none/\∃ T b f,o.op=.fieldAddr T (.tmp b) f/\isP (s.tm b)=true:=by
 unfold faB at h;rw[A1b]at h;obtain⟨g,e⟩:=h;refine⟨by simpa using g,?_⟩;split at e
 ·grind
 cases e
theorem Au5 (e:eff P name s o.op=some (x,hw))(h:faB ops s o=true):isV x=false:=by
 obtain⟨_,T,b,f,g,hp⟩:=Acz h;rw[g]at e;unfold eff at e;simp only[show s.ev (.tmp b)=s.tm b from rfl]at e;cases hb:s.tm b with
 |junk=>grind
 |v y=>grind
 |p k off =>
  rw[hb]at e;simp only at e;split at e
  ·simp only[A0u,A2c]at e;rw[<-e.1];rfl
  cases e
def Atl (b:gv s ops o=some false)(h:faB ops s o=true):False:=by
 obtain⟨e,_⟩:=Acz h;unfold gv at b;rw[e]at b;simp at b
def Asl (g:M1 s o.op=true)(h:faB ops s o=true):False:=by
 obtain⟨_,T,b,f,e,hp⟩:=Acz h;unfold M1 at g;rw[A06]at g;have:=g (.tmp b) (by rw[e];simp[Op.operands]);rw[show s.ev (.tmp b)=s.tm b from rfl]at this;cases hb:s.tm b with
 |junk=>rw[hb]at hp;cases hp
 |v y=>rw[hb]at hp;cases hp
 |p k off=>rw[hb]at this;cases this
theorem Anz {o:Op}(b:eff P name s o=some (x,hw))(e:Fk o=true):x=.p name 0/\s.hp name=none:=by
 unfold Fk at e;split at e
 ·unfold eff at b;simp only at b;split at b
  ·grind
  cases b
 ·unfold eff at b;simp only at b;split at b
  ·grind
  cases b
 cases e
theorem Fit.auto (e:eff P name s o.op=some (x,hw)):Fit ops s o x:=by
 refine⟨Au5 e,fun g _=>by rw[(Anz e g).1];rfl,fun h k l j=>?_,fun g k l j=>?_⟩
 ·rcases h with h|h
  ·unfold ixB at h;split at h
   ·rename_i t a b hop;rw[hop]at e;unfold eff at e;simp only at e;split at e
    ·grind
    cases e
   cases h
  unfold faB at h;rw[A1b]at h;obtain⟨_,h⟩:=h;split at h
  ·rename_i T b f hop;rw[hop]at e;unfold eff at e;simp only[show s.ev (.tmp b)=s.tm b from rfl]at e;cases hb:s.tm b with
   |junk=>grind
   |v y=>grind
   |p k' off'=>grind
  cases h
 obtain⟨n,q⟩:=Anz e g;rw[n]at j;cases j;exact q
def Fit.skip (b:gv s ops o=some false):Fit ops s o (.v undef) :=
 ⟨fun h=>(Atl b h).elim,fun _ h=>by
  unfold gv at b;rw[show o.guard=none by simpa using h]at b;simp at b,fun _ k f e=>(by cases e),fun _ k f e=>(by cases e)⟩
def Fit.val (g:M1 s o.op=true)(f:Fk o.op=false)(y:Value):Fit ops s o (.v y) :=
 ⟨fun h=>(Asl g h).elim,fun h=>(by rw[f]at h;cases h),fun _ k b e=>(by cases e),fun _ k b e=>(by cases e)⟩
def Aj7 {o:Op}(h:E9 o=false):Fk o=false:=by
 cases o<;>first|rfl|(simp[E9]at h)
theorem Ob.step {l:List Nat}(h:Ob P id ops dr Fin (i::l) s u m)(g:Rel c s u m ρ a w) :
 wpOp P ops Q i (fun F w'=>∃ s' n j A,Rel c s' n j A F w'/\G6 ops s s'/\Ob P id ops dr Fin l s' n j) a w:=by
 cases h with
 |auto ho hg hd t hl =>
  simp only[wpOp,ho,Ov g hg];obtain⟨A,w',y,p,B⟩:=Ani (P:=P) g t (Acn hd);exact .inl (Zo p ⟨_,_,_,_,B,Gb ho _ _ (Fit.auto t),hl⟩)
 |skip ho hg hd hl =>
  simp only[wpOp,ho,Ov g hg];exact⟨_,_,_,_,g.put (x:=.v undef) (fun _=>rfl) mV (Acn hd),Gb ho _ none (Fit.skip hg),hl⟩
 |ask ho hg hd hv hs hal hw hl =>
  simp only[wpOp,ho,Ov g hg];refine .inl (Zo (.inl ?_) ⟨_,_,_,_,g.put (fun _=>rfl) mV (Acn hd),Gb ho _ none (Fit.val hv hal _),hl⟩);rw[Qa g (Lb hs) hv];exact hw w (fun _=>⟨g.gd.pu,fun _=>g.gd.pm⟩)
 |big ho hg hd hv hs hf hk hw hl =>
  rename_i o K;simp only[wpOp,ho,Ov g hg];refine .inl ?_;have p:=hw w g.gd;have fin:∀ v w',(∃ n j,Ci n j w'/\Cn u m w n j w'/\K v n j)->∃ s' n j A,Rel c s' n j A (a.put o.dst v) w'/\G6 ops s s'/\Ob P id ops dr Fin l s' n j:=by
   rintro v w' ⟨n,j,g1,g2,g3⟩;refine⟨_,n,j,ρ,?_,Gb ho _ none (Fit.val hv (Aj7 hf) _),hl v n j (g2.le g.gd.pu) g3⟩;refine Rel.put (x:=.v v) ?_ (fun _=>rfl) mV (Acn hd);refine⟨g.sz,g.tm,g.df.of fun r e _ L E=>⟨by rw[g2.old _ (Cf e) E];exact e,by rw[g2.us _ (Cf e)];exact L,g2.ms _ (Cf e) E⟩,fun k b J=>?_,g.inj,g.lv,g1,g.gr.trans g2⟩;obtain⟨C,H,I,D⟩:=g.box k b J;have q:ρ k<w.heap.size:=by obtain⟨cs,e,_⟩:=C;exact Cf e
   refine⟨?_,H,?_,?_⟩
   ·rw[g2.old _ q D];exact C
   ·rw[g2.us _ q];exact I
   exact g2.ms _ q D
  unfold Ft at p;unfold Oper.wp;rw[Qa g (Lb hs) hv];split at p
  ·rename_i v w' e;rw[e];exact fin _ _ p
  ·rename_i w' e;rw[e];exact fin _ _ p
  ·rename_i f args w' e;rw[e];refine Calls.mono p fun O N t=>?_;obtain⟨v,rfl,B⟩:=t;exact fin _ _ B
  grind
def Ob.wpOps (b:∀ s u m ρ a w,Fin s u m->Rel c s u m ρ a w->Q .normal a w):∀ {l:List Nat} {s:S} {u m:PH} {ρ:Nat->Nat} {a:Act} {w:World},Ob P id ops dr Fin l s u m->Rel c s u m ρ a w->Go.wpOps P ops Q l a w
 |[],s,u,m,ρ,a,w,h,hr=>by
  cases h with
  |nil h=>exact b _ _ _ _ _ _ h hr
 |i::l,s,u,m,ρ,a,w,h,hr=>by
  rw[wpOps_cons];refine wpOp_mono (fun g w' ⟨s',k,j,n,e,_,f⟩=>?_) (h.step (Q:=Q) hr);exact Ob.wpOps b f e
def Awl (h:∀ e,d=some e->z≠.tmp e):(s.put d x).ev z=s.ev z:=by
 cases z with
 |tmp t=>exact F6 s d x (fun e=>h t e rfl)
 |_=>rfl
def Asj {w:Option (Nat×Blk)}:(s.setb w).ev z=s.ev z:=by
 cases z with
 |tmp t=>show (s.setb w).tm t=s.tm t;rw[Fn]
 |_=>rfl
def Yg {w:Option (Nat×Blk)}(h:∀ e,d=some e->e∉o.looksAt ops)(g:z∈o.op.operands):((s.put d x).setb w).ev z=s.ev z:=by
 rw[Asj];refine Awl fun e f b=>h e f ?_;subst b;exact A3d _ (A93.2 ⟨.tmp e,by simpa using g,rfl⟩)
def Xk {w:Option (Nat×Blk)}(h:∀ e,d=some e->e∉o.looksAt ops):gv ((s.put d x).setb w) ops o=gv s ops o:=by
 unfold gv;cases hg:o.guard with
 |none=>rfl
 |some p =>
  obtain⟨j,b⟩:=p;simp only;cases hj:ops[j]? with
  |none=>rfl
  |some oj =>
   simp only;cases hd:oj.dst with
   |none=>rfl
   |some e =>
    simp only;rw[Fn,F6 s d x (fun f=>h e f (by simp[Oper.looksAt,hg,hj,hd]))]
def Ki {o:Op}(h:∀ z∈o.operands,s'.ev z=s.ev z):∀ z∈o.operands,Mw s' z=Mw s z:=fun z b=>by unfold Mw;rw[h z b]
theorem Hd {o:Op}(h:∀ z∈o.operands,s'.ev z=s.ev z):M1 s' o=M1 s o:=by
 unfold M1;rw[Bool.eq_iff_iff,A06,A06];constructor
 ·grind
 grind
theorem Ao9 {e g:Operand->Value}{o:Op}(h:∀ z∈o.operands,g z=e z):pv P g o=pv P e o:=by
 unfold pv;split
 ·rename_i x i;rw[h x (by simp[Op.operands])]
 ·rename_i c x y;rw[h c (by simp[Op.operands]),h x (by simp[Op.operands]),h y (by simp[Op.operands])]
 ·rename_i fn first captured
  rw[A9p (xs:=first) fun x b=>h x (by simp[Op.operands,b]),A9p (xs:=captured) fun x b=>h x (by simp[Op.operands,b])]
 ·rename_i t x;rw[h x (by simp[Op.operands])]
 ·rename_i src dst x;rw[h x (by simp[Op.operands])]
 ·rename_i args ts;cases b:args[0]? with
  |none=>rfl
  |some x =>
   have:x∈args:=by grind
   cases ht:ts[0]? with
   |none=>rfl
   |some t=>simp only;rw[h x (by simp[Op.operands,Call.operands,this])]
 ·rename_i x;rw[h x (by simp[Op.operands])]
 ·rename_i t ps;have:(ps.toList.map fun (p:Nat×Operand)=>(p.1,g p.2))=ps.toList.map fun (p:Nat×Operand)=>(p.1,e p.2):=A9z fun p hp=>by
   rw[h p.2 (by simp only[Op.operands,A8w,A0r];exact⟨p,hp,rfl⟩)]
  rw[this]
 ·rename_i t x f;rw[h x (by simp[Op.operands])]
 rfl
def Aap {s s':S}{name:Nat}{o:Op}(h:∀ z∈o.operands,s'.ev z=s.ev z)(e:Fk o=true->s'.hp name=s.hp name)
 (hp:(Ij o=true\/Na o=true)->∀ z∈o.operands,∀ k b,s.ev z=.p k b->s'.hp k=s.hp k):eff P name s' o=eff P name s o:=by
 unfold eff;split
 ·rename_i x;rw[h x (by simp[Op.operands])]
 ·rename_i x;rw[h x (by simp[Op.operands])]
 ·rw[e rfl]
 ·rename_i t x;rw[e rfl,h x (by simp[Op.operands])]
 ·rename_i t x;rw[h x (by simp[Op.operands])];split
  ·rename_i k b hk;rw[hp (.inl rfl) x (by simp[Op.operands]) k b hk]
  rfl
 ·rename_i t x y;rw[h x (by simp[Op.operands]),h y (by simp[Op.operands])];split
  ·rename_i k b hk;rw[hp (.inr rfl) x (by simp[Op.operands]) k b hk]
  rfl
 ·rename_i t x f;rw[h x (by simp[Op.operands])]
 rw[Hd h,Ao9 (Ki h)]
end sound
end
section
variable {hw:Option (Nat×Blk)}{name:Nat}{o:Op}{s:S}{x:SV}
variable [Cj] [Dd] [Pu]
section swap
variable {P:Program} {id:Nat} {ops:Array Oper} {dr:Bool} {Fin:S->PH->PH->Prop}
theorem R3 {k:Nat}{b:Blk}(h:eff P name s o=some (x,some (k,b))) :
 (k=name/\s.hp name=none/\Na o=false/\Ij o=false)\/(Na o=true/\s.hp k≠none/\∃ z∈o.operands,∃ a,s.ev z=.p k a):=by
 unfold eff at h;split at h
 ·grind
 ·grind
 ·split at h
  ·split at h
   ·split at h
    ·split at h
     ·simp at h;exact .inl ⟨h.2.1.symm,by assumption,rfl,rfl⟩
     cases h
    cases h
   cases h
  cases h
 ·split at h
  ·split at h
   ·simp at h;exact .inl ⟨h.2.1.symm,by assumption,rfl,rfl⟩
   cases h
  cases h
 ·grind
 ·rename_i t z y;split at h
  ·rename_i k' a hz;split at h
   ·rename_i b' hb;split at h
    ·split at h
     ·rename_i l _ _ n _;cases hc:(Nat.beq l.length n&&Nat.ble (a+n) b'.cells.length) with
      |false=>grind
      |true =>
       simp[hc]at h;obtain⟨_,rfl,_⟩:=h;exact .inr ⟨rfl,by rw[hb];simp,z,by simp[Op.operands],a,hz⟩
     cases h
    cases h
   cases h
  cases h
 ·grind
 grind
theorem Am2 (h:eff P name s o=some (x,hw))(a:Fk o=true):hw≠none:=by
 unfold eff at h;unfold Fk at a;split at a
 ·grind
 ·grind
 cases a
def Sf (h:E9 o=true):Na o=false:=by
 unfold Na;split
 ·simp[E9]at h
 ·simp[E9]at h
 ·simp[E9]at h
 rfl
theorem Ob.redo {x:Nat}{l:List Nat}{u m:PH}{f:Oper}(h:Ob P id ops true Fin (x::l) s u m)(y:ops[x]?=some f)(Q:E9 f.op=true) :
 ∃ R r,Ob P id ops true Fin l ((s.put f.dst R).setb r) u m/\(∀ k b,r=some (k,b)->k=id*1000+x/\s.hp k=none/\Ij f.op=false) /\
  ∀ (a:S) (B A:PH) (L:List Nat),(∀ z∈f.op.operands,a.ev z=s.ev z)->gv a ops f=gv s ops f->a.n=s.n->(r≠none->a.hp (id*1000+x)=s.hp (id*1000+x)) ->
   (Ij f.op=true->∀ z∈f.op.operands,∀ k N,s.ev z=.p k N->a.hp k=s.hp k)->PH.le u B->(Ij f.op=true->PH.le m A\/Pu.b=true\/∃ t tx,f.op=.load t (.tmp tx)/\isV (s.tm tx)=false) ->
   Ob P id ops true Fin L ((a.put f.dst R).setb r) B A->Ob P id ops true Fin (x::L) a B A:=by
 have J:∀ (a:S),a.n=s.n->G8 s f=true->G8 a f=true:=fun a Y q=>by unfold G8 at q⊢;rw[Y];exact q
 cases h with
 |auto ho j q he hl =>
  rw[y]at ho;obtain rfl:=A2k ho;refine⟨_,_,hl,fun k b X=>?_,fun a B A L C D E K O _ _ H=>?_⟩
  ·subst X;rcases R3 he with ⟨rfl,e,_,Z⟩|⟨e,_⟩
   ·grind
   rw[Sf Q]at e;cases e
  refine .auto y (D.trans j) (J a E q) ?_ H;rw[Aap C (fun W=>K (Am2 he W)) (fun I=>?_),he];rcases I with I|I
  ·grind
  rw[Sf Q]at I;cases I
 |skip ho j q hl =>
  rw[y]at ho;obtain rfl:=A2k ho;refine⟨.v undef,none,hl,mV,fun a B A L C D E K O _ _ H=>.skip y (D.trans j) (J a E q) H⟩
 |ask ho j q hv hs hal hw hl =>
  rw[y]at ho;obtain rfl:=A2k ho;rename_i v;refine⟨.v v,none,hl,mV,fun a B A L C D E K O V F H=>.ask y (D.trans j) (J a E q) (by rw[Hd C];exact hv) hs hal (fun w hp=>?_) H⟩;rw[execOp_congr _ (Lb hs) (Ki C)];refine hw w fun c=>⟨fun g o j=>(hp c).1 g o (V g o j),fun d g o j=>?_⟩;rcases F (c.resolve_right fV) with F|F|⟨t,tx,T,U⟩
  ·exact (hp c).2 d g o (F g o j)
  ·rcases d with d|d
   ·rw[F]at d;cases d
   cases d
  unfold M1 at hv;rw[A06]at hv;have:=hv (.tmp tx) (by rw[T];simp[Op.operands]);rw[show s.ev (.tmp tx)=s.tm tx from rfl,U]at this;cases this
 |big ho j q hv hs hf' hk hw hl=>grind
def Two (s:S)(ox oy:Oper):Prop:=∃ t tx t' ty v kx ox' ky oy',ox.op=.load t (.tmp tx)/\oy.op=.store t' (.tmp ty) v/\s.tm tx=.p kx ox'/\s.tm ty=.p ky oy'/\kx≠ky
def New (s:S)(ox oy:Oper):Prop:=∃ t tx t' ty v,ox.op=.load t (.tmp tx)/\oy.op=.store t' (.tmp ty) v/\isV (s.tm ty)=false/\∀ k off k' off',s.tm tx=.p k off->s.tm ty=.p k' off'->k≠k'
def Ak5:Op->Bool
 |.call { callee:=.builtin .append,.. }|.call { callee:=.builtin .copy,.. }=>true
 |_=>false
def Own (s:S)(ox oy:Oper):Prop:=Ak5 oy.op=true/\∃ t tx,ox.op=.load t (.tmp tx)/\isV (s.tm tx)=false
theorem At9 (a:eff P name s o=some (x,hw))(h:Ak5 o=true):hw=none:=by
 unfold Ak5 at h;split at h
 ·unfold eff at a;simp only at a;split at a
  ·grind
  cases a
 ·unfold eff at a;simp only at a;split at a
  ·grind
  cases a
 cases h
theorem Ob.swap {x y:Nat}{l:List Nat}{s:S}{u m:PH}{C B:Oper}(hL:Pb s)(h:Ob P id ops true Fin (x::y::l) s u m)(hx:ops[x]?=some C)(T:ops[y]?=some B)(a5:x≠y)
 (hf:E9 C.op=true) (a9:Oper.apart ops C B=true) (a4:Ij C.op=true->Pq ops y B.op=false\/Own s C B\/Two s C B\/New s C B) (aa:∀ t tx,C.op=.load t (.tmp tx)->Y6 ops s tx=true->isV (s.tm tx)=false):Ob P id ops true Fin (y::x::l) s u m:=by
 obtain⟨N,c,h1,hn,redo⟩:=h.redo hx hf;obtain⟨a1,a2,Q⟩:=Oper.apart_spec a9;have V:id*1000+x≠id*1000+y:=oV;have E:∀ z∈B.op.operands,((s.put C.dst N).setb c).ev z=s.ev z:=fun z A=>Yg a1 A;have J:gv ((s.put C.dst N).setb c) ops B=gv s ops B:=Xk a1;have a8:∀ z:Operand,∀ k q,s.ev z=.p k q->s.hp k≠none:=by
  intro z k q A;cases z with
  |tmp t=>exact hL.1 t k q A
  |const v=>cases A
  |global g=>cases A
  |func f=>cases A
 have a6:∀ k,(∀ b,c≠some (k,b))->((s.put C.dst N).setb c).hp k=s.hp k:=by
  intro k r;rcases c with _|⟨j,b⟩
  ·show (s.put C.dst N).hp k=s.hp k;rw[Dg]
  rw[Bd _ _ _ (fun e=>r b (by rw[e])),Dg]
 have ad:∀ k,s.hp k≠none->∀ b,c≠some (k,b):=fun k r b e=>r (hn k b e).2.1;have I:G8 ((s.put C.dst N).setb c) B=G8 s B:=by unfold G8;rw[Tu,Abc]
 have F:∀ (O:SV) (d:Option (Nat×Blk)),(∀ k b,d=some (k,b)->∀ b',c≠some (k,b')) ->
  ((((s.put C.dst N).setb c).put B.dst O).setb d)=(((s.put B.dst O).setb d).put C.dst N).setb c:=by
  intro O d r;rw[Sa,Sa,Aqk s N O a2,Ant];rintro k b k' b' e1 e2 rfl;exact r k b' e2 b e1
 cases h1 with
 |auto ho hg hd he hl =>
  rw[T]at ho;obtain rfl:=A2k ho;rename_i O d;have a:eff P (id*1000+y) s B.op=some (O,d):=by
   rw[<-he];refine (Aap E (fun _=>a6 _ (fun b e=>V.symm ((hn _ b e).1))) (fun _ z A k q r=>a6 k (ad k (a8 z k q r)))).symm
  have U:∀ k b,d=some (k,b)->∀ b',c≠some (k,b'):=by
   intro k b e b' e';subst e;rcases R3 a with ⟨rfl,_⟩|⟨_,r,_⟩
   ·exact V.symm (hn _ b' e').1
   exact r (hn k b' e').2.1
  refine .auto T (by rw[<-J];exact hg) (by rw[<-I];exact hd) a ?_;have a7:∀ k,(∀ b,d≠some (k,b))->((s.put B.dst O).setb d).hp k=s.hp k:=by
   intro k r;rcases d with _|⟨j,b⟩
   ·show (s.put B.dst O).hp k=s.hp k;rw[Dg]
   rw[Bd _ _ _ (fun e=>r b (by rw[e])),Dg]
  refine redo _ u m l (fun z A=>Yg Q A) (Xk Q) (by rw[Tu,Abc]) ?_ ?_ (PH.le_refl _) (fun _=>.inl (PH.le_refl _)) ?_
  ·intro W;by_cases r:∃ b,d=some (id*1000+x,b)
   ·obtain⟨b,hb⟩:=r;subst hb;rcases R3 a with ⟨e,_⟩|⟨em,r,z,A,q,af⟩
    ·exact absurd e V
    rcases c with _|⟨j,b'⟩
    ·exact absurd rfl W
    obtain⟨rfl,e,_⟩:=hn j b' rfl;exact absurd e r
   exact a7 _ (fun b e=>r ⟨b,e⟩)
  ·intro L z A k q r;refine a7 k (fun b e=>?_);subst e;rcases R3 a with ⟨rfl,e,_⟩|⟨em,_⟩
   ·exact a8 z _ q r e
   rcases a4 L with h|⟨q0,_⟩|⟨t,tx,t',D,v,kx,o1,ky,o2,q1,X,Y,Z,q5⟩|⟨t,tx,t',D,v,q1,X,Y,Z⟩
   ·rw[Ap2 h]at em;cases em
   ·cases At9 a q0
   case inr.inr.inr =>
    rw[q1]at A;simp only[Op.operands,A8w,A07]at A;subst A;rw[X]at a;cases hty:s.tm D with
    |junk=>simp only[eff,show s.ev (.tmp D)=s.tm D from rfl,hty]at a;cases a
    |v y=>simp only[eff,show s.ev (.tmp D)=s.tm D from rfl,hty]at a;cases a
    |p ky o2 =>
     have a5:=Z k q ky o2 r hty;simp only[eff,show s.ev (.tmp D)=s.tm D from rfl,hty]at a;split at a
     ·split at a
      ·split at a
       ·rename_i n _
        revert a
        cases (Nat.beq _ _&&Nat.ble _ _) with
        |false=>simp
        |true=>simp;intro _ e _;exact absurd e.symm a5
       cases a
      cases a
     cases a
   rw[q1]at A;simp only[Op.operands,A8w,A07]at A;subst A;have:SV.p k q=.p kx o1:=r.symm.trans Y;simp only[SV.p.injEq]at this;rw[X]at a;have ae:s.ev (.tmp D)=.p ky o2:=Z;simp only[eff,ae]at a;split at a
   ·split at a
    ·split at a
     ·rename_i n _
      revert a
      cases (Nat.beq _ _&&Nat.ble _ _) with
      |false=>simp
      |true=>simp;intro _ e _;exact absurd (this.1.symm.trans e.symm) q5
     cases a
    cases a
   cases a
  rw[<-F O d U];exact hl
 |skip ho hg hd hl =>
  rw[T]at ho;obtain rfl:=A2k ho;refine .skip T (by rw[<-J];exact hg) (by rw[<-I];exact hd) ?_;refine redo _ u m l (fun z A=>Yg (w:=none) Q A) (Xk (w:=none) Q) (by rw[Abc]) (fun _=>by rw[Dg]) (fun _ _ _ _ _ _=>by rw[Dg]) (PH.le_refl _) (fun _=>.inl (PH.le_refl _)) ?_;have:=F (.v undef) none mV;rw[show (s.put B.dst (.v undef))=(s.put B.dst (.v undef)).setb none from rfl,<-this];exact hl
 |ask ho hg hd hv hs hal hw hl =>
  rw[T]at ho;obtain rfl:=A2k ho;rename_i v;refine .ask (v:=v) T (by rw[<-J];exact hg) (by rw[<-I];exact hd) (by rw[<-Hd E];exact hv) hs hal (fun w hp=>?_) ?_
  ·rw[<-execOp_congr _ (Lb hs) (Ki E)];exact hw w hp
  refine redo _ u m l (fun z A=>Yg (w:=none) Q A) (Xk (w:=none) Q) (by rw[Abc]) (fun _=>by rw[Dg]) (fun _ _ _ _ _ _=>by rw[Dg]) (PH.le_refl _) (fun _=>.inl (PH.le_refl _)) ?_;have:=F (.v v) none mV;rw[show (s.put B.dst (.v v))=(s.put B.dst (.v v)).setb none from rfl,<-this];exact hl
 |big ho hg hd hv hs hf' r hw hl =>
  rw[T]at ho;obtain rfl:=A2k ho;rename_i K;have R:Ky ops ((s.put C.dst N).setb c)=Ky ops s:=Ace fun t ht=>by
   rw[Fn,F6];intro ab;unfold Qn at ht;rw[A06]at ht;have:=ht C (Acc hx);rw[ab]at this;simp at this
  refine .big (K:=K) T (by rw[<-J];exact hg) (by rw[<-I];exact hd) (by rw[<-Hd E];exact hv) hs hf' (by rw[<-R];exact r) (fun w ac=>?_) (fun v u' m' a0 hK=>?_)
  ·have:=hw w ac;unfold Ft at this⊢;rw[<-execOp_congr _ (Lb hs) (Ki E)];exact this
  refine redo _ u' m' l (fun z A=>Yg (w:=none) Q A) (Xk (w:=none) Q) (by rw[Abc]) (fun _=>by rw[Dg]) (fun _ _ _ _ _ _=>by rw[Dg]) a0 (fun L=>?_) ?_
  ·rcases r v u' m' hK with h|h|h|h|h
   ·exact .inl h
   ·cases h
   ·rcases a4 L with h'|⟨_,q0⟩|⟨t,tx,t',D,v,kx,o1,ky,o2,q1,X,Y,Z,q5⟩|⟨t,tx,t',D,v,q1,X,Y,Z⟩
    ·rw[h']at h;cases h
    ·exact .inr (.inr q0)
    case inr.inr.inr =>
     exfalso;rw[Hd E]at hv;unfold M1 at hv;rw[A06]at hv;have:=hv (.tmp D) (by rw[X];simp[Op.operands]);rw[show s.ev (.tmp D)=s.tm D from rfl]at this;cases hty:s.tm D with
     |junk=>rw[hty]at this;cases this
     |v y=>rw[hty]at Y;cases Y
     |p k q=>rw[hty]at this;cases this
    exfalso;rw[Hd E]at hv;unfold M1 at hv;rw[A06]at hv;have:=hv (.tmp D) (by rw[X];simp[Op.operands]);rw[show s.ev (.tmp D)=.p ky o2 from Z]at this;cases this
   rotate_left
   ·exact .inr (.inl h)
   right;right;rw[R]at h;unfold Ky at h;rw[A06]at h;have H:=h C (Acc hx);rw[L]at H;simp only[A5m,A8l]at H;unfold Agd at H;split at H
   ·rename_i t tx hop;refine⟨t,tx,hop,?_⟩;rw[A33,A1b]at H;rcases H with ⟨_,H⟩|H
    ·cases hb:s.tm tx with
     |junk=>rfl
     |v y=>rw[hb]at H;cases H
     |p k q=>rfl
    grind
   cases H
  have:=F (.v v) none mV;rw[show (s.put B.dst (.v v))=(s.put B.dst (.v v)).setb none from rfl,<-this];exact hl v u' m' a0 hK
end swap
end
section
variable {ox oy:Oper}{s s':S}{x:Nat}
variable [Cj] [Dd] [Pu]
section live
variable {P:Program}
theorem Ar1 {H:Nat}{o:Op}{x:SV}{r:Option (Nat×Blk)}(h:eff P H s o=some (x,r))(B:Pb s)(d:Option Nat):Pb ((s.put d x).setb r):=by
 have q:∀ (z:Operand) (k a:Nat),s.ev z=.p k a->s.hp k≠none:=by
  intro z k a C;cases z with
  |tmp t=>exact B.1 t k a C
  |const v=>cases C
  |global g=>cases C
  |func f=>cases C
 have key:∀ (x:SV) (r:Option (Nat×Blk)),(∀ k a,x=.p k a->s.hp k≠none\/∃ b,r=some (k,b))->(∀ j b,r=some (j,b)->∀ k a,SV.p k a∈b.cells->s.hp k≠none)->Pb ((s.put d x).setb r):=by
  intro x r K L;have hp:∀ k,s.hp k≠none->((s.put d x).setb r).hp k≠none:=by
   intro k J;rcases r with _|⟨j,b⟩
   ·show (s.put d x).hp k≠none;rw[Dg];exact J
   by_cases e:k=j
   ·rw[e,Bq];simp
   rw[Bd _ _ _ e,Dg];exact J
  refine⟨fun e k a E=>?_,fun j b k a u m=>?_⟩
  ·rw[Fn]at E;by_cases D:d=some e
   ·subst D;rw[Bt]at E;rcases K k a E with h|⟨b,rfl⟩
    ·exact hp k h
    rw[Bq];simp
   rw[F6 _ _ _ D]at E;exact hp k (B.1 e k a E)
  rcases r with _|⟨i,b'⟩
  ·change (s.put d x).hp j=some b at u;rw[Dg]at u;exact hp k (B.2 j b k a u m)
  by_cases e:j=i
  ·subst e;rw[Bq]at u;obtain rfl:=A2k u;exact hp k (L j b' rfl k a m)
  rw[Bd _ _ _ e,Dg]at u;exact hp k (B.2 j b k a u m)
 unfold eff at h;split at h
 ·rename_i z;simp at h;obtain⟨rfl,rfl⟩:=h;exact key _ _ (fun k a e=>.inl (q z k a e)) mV
 ·rename_i z;simp at h;obtain⟨rfl,rfl⟩:=h;exact key _ _ (fun k a e=>.inl (q z k a e)) mV
 ·split at h
  ·split at h
   ·split at h
    ·split at h
     ·rename_i l hl;simp at h;obtain⟨rfl,rfl⟩:=h;obtain⟨_,_,_,I,_⟩:=Fo hl (fun _=>0);exact key _ _ (fun k a e=>.inr (by simp at e;exact⟨_,by rw[e.1]⟩)) (fun j b e k a m=>by simp at e;obtain⟨_,rfl⟩:=e;cases I k a m)
     cases h
    cases h
   cases h
  cases h
 ·rename_i t z;split at h
  ·split at h
   ·rename_i l hl;simp at h;obtain⟨rfl,rfl⟩:=h;obtain⟨_,_,_,I,_⟩:=Fo hl (fun _=>0);exact key _ _ (fun k a e=>.inr (by simp at e;exact⟨_,by rw[e.1]⟩)) (fun j b e k a m=>by simp at e;obtain⟨_,rfl⟩:=e;exact q z k a (I k a m))
   cases h
  cases h
 ·split at h
  ·split at h
   ·rename_i k a C b hb;split at h
    ·rename_i y hy;simp at h;obtain⟨rfl,rfl⟩:=h;have F:∀ A o',y=.p A o'->SV.p A o'∈b.cells:=by
      unfold ldv at hy;split at hy
      ·grind
      ·grind
      cases hy
     exact key _ _ (fun A o' e=>.inl (B.2 _ b A o' hb (F A o' e))) mV
    cases h
   cases h
  cases h
 ·split at h
  ·rename_i A a C;split at h
   ·rename_i b' hb;split at h
    ·rename_i l hl;split at h
     ·rename_i n _;cases hc:(Nat.beq l.length n&&Nat.ble (a+n) b'.cells.length) with
      |false=>grind
      |true =>
       simp[hc]at h;obtain⟨rfl,rfl⟩:=h;obtain⟨_,_,_,I,_⟩:=Fo hl (fun _=>0);refine key _ _ mV (fun j b e k a m=>?_);obtain⟨rfl,rfl⟩:=e;rcases Wr m with m|m
       ·exact B.2 A b' k a hb m
       grind
     cases h
    cases h
   cases h
  cases h
 ·grind
 grind
def Wa (h:Pb s)(d:Option Nat)(v:Value):Pb (s.put d (.v v)):=by
 refine⟨fun e k a g=>?_,fun j b k a l m=>?_⟩
 ·rw[Dg];by_cases f:d=some e
  ·subst f;rw[Bt]at g;cases g
  rw[F6 _ _ _ f]at g;exact h.1 e k a g
 rw[Dg]at l⊢;exact h.2 j b k a l m
end live
section drawn
variable {P:Program} {id:Nat} {ops:Array Oper} {Fin:S->PH->PH->Prop} {c:Cx} {Q:Exit->Act->World->Prop}
def Ob.mapTail {a:Bool}{L d:List Nat}{u m:PH}(b:Pb s)(h:Ob P id ops a Fin (x::L) s u m)(f:∀ s' u m,Pb s'->G6 ops s s'->Ob P id ops a Fin L s' u m->Ob P id ops a Fin d s' u m):Ob P id ops a Fin (x::d) s u m:=by
 cases h with
 |auto ho hg hd he hl=>exact .auto ho hg hd he (f _ _ _ (Ar1 he b _) (Gb ho _ _ (Fit.auto he)) hl)
 |skip ho hg hd hl=>exact .skip ho hg hd (f _ _ _ (Wa b _ _) (Gb ho _ none (Fit.skip hg)) hl)
 |ask ho hg hd hv hs hal hw hl=>exact .ask ho hg hd hv hs hal hw (f _ _ _ (Wa b _ _) (Gb ho _ none (Fit.val hv hal _)) hl)
 |big ho hg hd hv hs hf hk hw hl=>exact .big ho hg hd hv hs hf hk hw (fun v k j e g=>f _ _ _ (Wa b _ _) (Gb ho _ none (Fit.val hv (Aj7 hf) _)) (hl v k j e g))
def Awi (ops:Array Oper)(s:S)(ox oy:Oper):Bool :=
 match ox.op with
 |.load _ (.tmp tx)=>match oy.op with
  |.store _ (.tmp ty) _=>Qn ops tx&&Qn ops ty&&(match s.tm tx with
   |.p kx _=>match s.tm ty with|.p ky _=>!Nat.beq kx ky|_=>false
   |_=>false)
  |_=>false
 |_=>false
def Aw4 {ops:Array Oper}(h:Awi ops s ox oy=true)(b:G6 ops s s'):Two s' ox oy:=by
 unfold Awi at h;split at h
 ·rename_i t tx e1;split at h
  ·rename_i t' ty v e2;simp only[A1b]at h;obtain⟨⟨d,f⟩,a⟩:=h;split at a
   ·rename_i kx o1 e3;split at a
    ·rename_i ky o2 e4;refine⟨t,tx,t',ty,v,kx,o1,ky,o2,e1,e2,by rw[b.eq tx d];exact e3,by rw[b.eq ty f];exact e4,fun e=>?_⟩;rw[e]at a;simp at a
    cases a
   cases a
  cases h
 cases h
def Aw2 (ops:Array Oper)(s:S)(ox oy:Oper):Bool :=
 match ox.op with
 |.load _ (.tmp tx)=>match oy.op with
  |.store _ (.tmp ty) _=>Am3 ops s tx&&alB ops ty&&(match s.tm ty with|.junk=>true|_=>false)
  |_=>false
 |_=>false
theorem Awj {ops:Array Oper}(h:Aw2 ops s ox oy=true)(d:G6 ops s s')(j:Pb s):New s' ox oy:=by
 unfold Aw2 at h;split at h
 ·rename_i t tx e1;split at h
  ·rename_i t' ty v e2;simp only[A1b]at h;obtain⟨⟨l,g⟩,p⟩:=h;have m:s.tm ty=.junk:=by grind
   refine⟨t,tx,t',ty,v,e1,e2,d.nw ty g (by rw[m];rfl),fun k f r a n o e=>?_⟩;subst e;have u:s.hp k≠none:=by
    rcases d.ol tx k f l n with q|⟨b,y,_,q⟩
    ·exact j.1 _ _ _ q
    exact j.1 _ _ _ q
   rcases d.fr ty k a g o with q|q
   ·grind
   grind
  cases h
 cases h
def Ayf {ops:Array Oper}(h:Agd ops s ox=true)(b:G6 ops s s')(e:∀ t tx,ox.op=.load t (.tmp tx)->Y6 ops s' tx=true->isV (s'.tm tx)=false):∃ t tx,ox.op=.load t (.tmp tx)/\isV (s'.tm tx)=false:=by
 unfold Agd at h;split at h
 ·rename_i t tx hop;refine⟨t,tx,hop,?_⟩;rw[A33,A1b]at h;rcases h with ⟨d,a⟩|h
  ·rw[b.eq tx d];cases hb:s.tm tx with
   |junk=>rfl
   |v y=>rw[hb]at a;cases a
   |p k off=>rfl
  exact e t tx hop (by rw[Mc b.eq];exact h)
 cases h
def Av0 (ops:Array Oper)(s:S)(o:Oper):Bool:=match o.op with
 |.load _ (.tmp t)=>!(isV (s.tm t)&&Y6 ops s t)
 |_=>true
def Aek (ops:Array Oper)(s:S)(x y:Nat):Bool :=
 match ops[x]? with
 |some ox=>match ops[y]? with
  |some oy=>E9 ox.op&&Oper.apart ops ox oy&&(!(Ij ox.op&&Pq ops y oy.op)||Awi ops s ox oy||Aw2 ops s ox oy||(Agd ops s ox&&Ak5 oy.op)) && !Nat.beq x y&&Av0 ops s ox
  |none=>false
 |none=>false
def dir (ops:Array Oper)(i x:Nat):Bool:=match ops[i]? with
 |some o=>o.after.toList.any fun e=>Region.binds .any e&&Nat.beq e.on x
 |none=>false
def Il (ops:Array Oper)(s:S)(x y:Nat):Bool:=!(dir ops x y) && !(Nat.beq x y)&&(dir ops y x||Aek ops s x y||bef ops ops.size y x)
def Yq (ops:Array Oper)(s:S):List Nat->Bool
 |[]=>true
 |x::l=>l.all (Il ops s x)&&Yq ops s l
def L3 (ops:Array Oper)(i:Nat):Bool:=match ops[i]? with
 |some o=>o.after.toList.all fun e=>!Region.binds .any e||(Nat.blt e.on ops.size && !Nat.beq e.on i)
 |none=>false
def Ar0 (ops:Array Oper)(s:S)(T:List Nat):Bool :=
 Nat.beq T.length ops.size&&(List.range ops.size).all (fun i=>T.contains i)&&T.all (fun i=>Nat.blt i ops.size)&&Yq ops s T&&(List.range ops.size).all (L3 ops)
def Ke {ops:Array Oper}{s:S}:∀ {T:List Nat},Yq ops s T=true->T.Pairwise (fun x y=>Il ops s x y=true)
 |[],_=>List.Pairwise.nil
 |x::l,h=>by
  simp only[Yq,A1b,A06]at h;exact List.Pairwise.cons h.1 (Ke h.2)
def Ahf (ops:Array Oper)(listed:Array Bool):Prop:=∀ i,listed.getD i false=true->∀ o,ops[i]?=some o->∀ e∈o.after,Region.binds .any e=true->listed.getD e.on false=true
def Jp {a:Array Bool}(b:Ahf ops a){x:Nat}:∀ (f i:Nat),(∀ o,ops[i]?=some o->∀ e∈o.after,Region.binds .any e=true->a.getD e.on false=true)->bef ops f i x=true->a.getD x false=true
 |0,i,_,h=>by simp[bef]at h
 |f+1,i,hi,h=>by
  unfold bef at h;cases ho:ops[i]? with
  |none=>simp[ho]at h
  |some o =>
   simp only[ho,A6s,A1b,A33]at h;obtain⟨e,j,g,h⟩:=h;have d:=hi o ho e (by simpa using j) g;rcases h with h|h
   ·rw[<-A1u h];exact d
   exact Jp b f e.on (b e.on d) h
theorem Vz {a:Array Bool}{i x:Nat}(f:∀ o,ops[i]?=some o->∀ e∈o.after,Region.binds .any e=true->a.getD e.on false=true)(h:dir ops i x=true):a.getD x false=true:=by
 unfold dir at h;cases ho:ops[i]? with
 |none=>grind
 |some o =>
  simp only[ho,A6s,A1b]at h;obtain⟨e,d,b,h⟩:=h;rw[<-A1u h];exact f o ho e (by simpa using d) b
def Ob.bubble {s0:S}(d:Pb s0){i:Nat}{B:List Nat}:∀ (A:List Nat),(∀ x∈A,Aek ops s0 x i=true)->∀ {s:S} {u m:PH},Pb s->G6 ops s0 s->Ob P id ops true Fin (A++i::B) s u m->Ob P id ops true Fin (i::(A++B)) s u m
 |[],_,s,u,m,_,_,h=>h
 |x::A,hx,s,u,m,hL,hag,h=>by
  have q:Ob P id ops true Fin (x::i::(A++B)) s u m:=h.mapTail hL fun s' u m k r z=>Ob.bubble d A (fun y C=>hx y (A01 _ C)) k (hag.trans r) z;have g:=hx x mV;unfold Aek at g;cases hox:ops[x]? with
  |none=>simp[hox]at g
  |some ox =>
   cases hoy:ops[i]? with
   |none=>simp[hox,hoy]at g
   |some oy =>
    simp only[hox,hoy,A1b,A33,A3k,A73]at g;obtain⟨⟨⟨⟨o,p⟩,a⟩,n⟩,j⟩:=g;have f:∀ t tx,ox.op=.load t (.tmp tx)->Y6 ops s tx=true->isV (s.tm tx)=false:=fun t tx l b=>by
     rw[Mc hag.eq]at b;unfold Av0 at j;rw[l]at j;simp only[b,Bool.and_true,A3k]at j;exact hag.pt tx b j
    refine q.swap hL hox hoy (fun e=>?_) o p (fun k=>?_) f
    ·rw[e]at n;simp at n
    rcases a with (((a|a)|a)|a)|a
    ·rw[k]at a;cases a
    ·exact .inl a
    ·exact .inr (.inr (.inl (Aw4 a hag)))
    ·exact .inr (.inr (.inr (Awj a hag d)))
    exact .inr (.inl ⟨a.2,Ayf a.1 hag f⟩)
theorem Ob.wpAny {s0:S}(a2:Pb s0)(hE:(List.range ops.size).all (L3 ops)=true)(hF:∀ s u m ρ a w,Fin s u m->Rel c s u m ρ a w->Q .normal a w) :
 ∀ (n:Nat) (T:List Nat) (b:Array Bool) {s:S} {u m:PH} {ρ:Nat->Nat} {a:Act} {w:World},T.length=n->b.size=ops.size->(∀ i,i<ops.size->(b.getD i true=false↔i∈T))->(∀ i∈T,i<ops.size)->T.Nodup->Ahf ops b ->
  T.Pairwise (fun x y=>Il ops s0 x y=true)->G6 ops s0 s->Ob P id ops true Fin T s u m->Rel c s u m ρ a w->Go.wpAny P .any ops Q n b a w:=by
 have d:∀ (b:Array Bool) (i:Nat),i∈Region.ready .any ops b↔i<ops.size/\b.getD i true=false/\∃ o,ops[i]?=some o/\∀ e∈o.after,Region.binds .any e=true->b.getD e.on false=true:=by
  intro b i;simp only[Region.ready,A3p,A5x,A1b,A3k];refine and_congr_right fun R=>and_congr_right fun _=>?_;have ho:ops[i]?=some ops[i]:=A15 R;rw[ho];simp only[A3g,A3s,A94,A0u,exists_eq_left',A33,A3k];constructor
  ·intro h e C z;rcases h e C with h|h
   ·rw[z]at h;cases h
   exact h
  intro h e C;cases z:Region.binds .any e with
  |false=>exact .inl rfl
  |true=>exact .inr (h e C z)
 intro n;induction n with
 |zero =>
  intro T b s u m ρ a w f Y E l q H hP F hO hr;have:T = []:=A14 f;subst this;refine⟨?_,?_⟩
  ·rw[List.eq_nil_iff_forall_not_mem];intro i R;obtain⟨O,h2,_⟩:=(d b i).1 R;exact absurd ((E i O).1 h2) mV
  cases hO with
  |nil h=>exact hF _ _ _ _ _ _ h hr
 |succ n ih =>
  intro T b s u m ρ a w f Y E l q H hP F hO hr;refine⟨fun U=>?_,fun i R=>?_⟩
  ·cases T with
   |nil=>simp at f
   |cons t T' =>
    exfalso;have N:=l t mV;have:t∈Region.ready .any ops b:=by
     refine (d b t).2 ⟨N,(E t N).2 mV,ops[t],A15 N,fun e C z=>?_⟩;rw[A06]at hE;have p:=hE t (by simpa using N);unfold L3 at p;rw[A15 N]at p;simp only[A06]at p;have:=p e (by simpa using C);simp only[z,A5m,A8l,A1b,A3k]at this;have K:e.on<ops.size:=A8r▸this.1;have a6:e.on≠t:=fun h=>by rw[h]at this;simp at this
     cases J:b.getD e.on true with
     |true =>
      have O:e.on<b.size:=oV;simp only[A2d,A15 O,A3s]at J⊢;exact J
     |false =>
      have L:=(E e.on K).1 J;rcases A0v.1 L with L|L
      ·exact absurd L a6
      have:=A64 hP L;unfold Il at this;simp only[A1b,A3k]at this;have a4:dir ops t e.on=true:=by
       unfold dir;rw[A15 N];simp only[A6s,A1b];exact⟨e,by simpa using C,z,mV⟩
      rw[a4]at this;exact absurd this.1.1 mV
    rw[U]at this;cases this
  obtain⟨O,h2,o,ho,X⟩:=(d b i).1 R;have L:=(E i O).1 h2;obtain⟨A,B,rfl⟩:=A6c L;have a1:(A++B).length=n:=by simp at f⊢;omega
  have K:i<b.size:=oV;have a7:∀ x∈A,Aek ops s0 x i=true:=by
   intro x Z;have hp:=(A4z.1 hP).2.2 x Z i mV;unfold Il at hp;simp only[A1b,A33]at hp;have W:∀ o',ops[i]?=some o'->∀ e∈o'.after,Region.binds .any e=true->b.getD e.on false=true:=fun o' r=>by rw[ho]at r;obtain rfl:=A2k r;exact X
   have V:b.getD x false=true->False:=by
    intro J;have a8:=l x (by simp[Z]);have:=(E x a8).2 (by simp[Z]);have h3:x<b.size:=oV;simp only[A2d,A15 h3,A3s]at J this;rw[this]at J;cases J
   rcases hp.2 with (h|h)|h
   ·exact (V (Vz W h)).elim
   ·exact h
   exact (V (Jp H ops.size i W h)).elim
  have a3:=Ob.bubble a2 A a7 hr.lv F hO;refine wpOp_mono (fun a' w' ⟨s',u',m',ρ',r1,ra,r2⟩=>?_) (a3.step (Q:=Q) hr);have D:(A++B).Nodup/\i∉A++B:=by
   rw[A30]at q⊢;simp only[A3a,A0v,A04]at q⊢;obtain⟨n1,⟨n2,n3⟩,n4⟩:=q;exact⟨⟨n1,n3,fun x Z y hy=>n4 x Z y (.inr hy)⟩,fun h=>h.elim (fun h=>n4 i h i (.inl rfl) rfl) n2⟩
  refine ih (A++B) _ a1 (by simpa using Y) (fun j I=>?_) (fun j I=>l j ?_) D.1 ?_ ?_ (F.trans ra) r2 r1
  ·by_cases g:j=i
   ·subst g;simp only[A2d,Array.getElem?_setIfInBounds_self_of_lt K,A3s];exact⟨fun h=>absurd h mV,fun h=>absurd h D.2⟩
   have:=E j I;simp only[A2d,A20 (fun h=>g h.symm)]at this⊢;rw[this];simp[g]
  ·simp only[A04,A0v]at I⊢;rcases I with h|h
   ·exact .inl h
   grind
  ·intro j I o' r e C z;have a0:∀ k,b.getD k false=true->(b.setIfInBounds i true).getD k false=true:=by
    intro k hk;by_cases a5:k=i
    ·grind
    simp only[A2d,A20 (fun h=>a5 h.symm)]at hk⊢;exact hk
   by_cases g:j=i
   ·grind
   refine a0 _ (H j ?_ o' r e C z);simp only[A2d,A20 (fun h=>g h.symm)]at I⊢;exact I
  grind
end drawn
end
section
variable {T:List Nat}{c:Cx}{d:Deferred}{dl:List Deferred}{id:Nat}{m u:PH}{ops:Array Oper}{s:S}{t:Array Value}{w:World}{ρ:Nat->Nat}
variable [Cj] [Pu]
section based
variable [Dd]
inductive KI where
 |code (c:Code)
 |blk (id:Nat)
 |reg (id:Nat) (ops:Array Oper) (dr:Bool) (l:List Nat)
 |lp (J:S->PH->PH->Prop)
def Aup (c:Cx)(Post:Value->PH->PH->Prop):Ending->World->Prop:=fun e w'=>∃ v u' m',e=.returned v/\Ci u' m' w'/\Cn c.u0 c.m0 c.w0 u' m' w'/\Post v u' m'
def Ah (P:Program)(f:FuncId)(args:List Value)(u m:PH)(Post:Value->PH->PH->Prop):Prop:=∀ w,Ci u m w->Calls P f args.toArray w (Aup ⟨w,u,m⟩ Post)
structure Ca where
 post:Value->PH->PH->Prop
 m0:PH
abbrev Auy (P:Program)(fn:Func)(R:Ending->World->Prop):Exit->Act->World->Prop:=bodyPostM Fence.wide 1 P fn R
def Ms (P:Program)(fn:Func)(Post:Ca)(c:Cx):List KI->Exit->Act->World->Prop
 |[]=>Auy P fn (Aup c Post.post)
 |.code x::k=>Exit.then (x.wp P (Ms P fn Post c k)) (Ms P fn Post c k)
 |.blk id::k=>Exit.inBlock id (Ms P fn Post c k)
 |.reg _ _ _ _::k=>Ms P fn Post c k
 |.lp J::k=>Exit.then (fun a w=>∃ s u m ρ,Rel c s u m ρ a w/\J s u m) (Ms P fn Post c k)
def Nz (P:Program)(fn:Func)(Post:Ca)(ks:List KI)(s:S)(u m:PH):Prop:=∀ c ρ a w,c.m0=Post.m0->Rel c s u m ρ a w->Ms P fn Post c ks .normal a w
def Sym (P:Program)(fn:Func)(Post:Ca)(ks:List KI)(s:S)(u m:PH):Prop :=
 match ks with
 |.reg id ops dr l::k=>Ob P id ops dr (Nz P fn Post k) l s u m
 |ks=>Nz P fn Post ks s u m
def Rq (id:Nat):List KI->Option (List KI)
 |.blk j::k=>cond (Nat.beq j id) (some k) (Rq id k)
 |_::k=>Rq id k
 |[]=>none
def An5 (ops:Array Oper)(done:List Nat)(i:Nat):Bool:=match ops[i]? with
 |some o=>!(done.contains i)&&o.after.toList.all fun e=>!Region.binds .any e||done.contains e.on
 |none=>false
def Xd (ops:Array Oper):Nat->List Nat->List Nat
 |0,done=>done.reverse
 |f+1,done=>match (List.range ops.size).find? (fun i=>An5 ops done i&&(match ops[i]? with|some o=>E9 o.op|none=>false)) with
  |some i=>Xd ops f (i::done)
  |none=>match (List.range ops.size).find? (An5 ops done) with
   |some i=>Xd ops f (i::done)
   |none=>done.reverse
def Aww (ops:Array Oper):List Nat:=Xd ops ops.size []
def G2:List KI->Bool
 |.reg ..::_=>false
 |_=>true
def one (P:Program)(ks:List KI)(s:S):Option (List KI×S) :=
 match ks with
 |.code .skip::k=>cond (G2 k) (some (k,s)) none
 |.code (.seq x y)::k=>some (.code x::.code y::k,s)
 |.code (.block id x)::k=>some (.code x::.blk id::k,s)
 |.code (.exit id)::k=>match Rq id k with|some k'=>cond (G2 k') (some (k',s)) none|none=>none
 |.code (.cond x y z)::k=>match s.ev x with
  |.v (.bool true)=>some (.code y::k,s)
  |.v (.bool false)=>some (.code z::k,s)
  |_=>none
 |.code (.region id ops false)::k=>some (.reg id ops false (List.range ops.size)::k,s)
 |.code (.region id ops true)::k=>cond (Ar0 ops s (Aww ops)) (some (.reg id ops true (Aww ops)::k,s)) none
 |.blk _::k=>cond (G2 k) (some (k,s)) none
 |.reg _ _ _ []::k=>cond (G2 k) (some (k,s)) none
 |.reg id ops dr (i::l)::k=>match ops[i]? with
  |some o=>match G8 s o with
   |true=>match gv s ops o with
    |some true=>match eff P (id*1000+i) s o.op with
     |some (x,hw)=>some (.reg id ops dr l::k,(s.put o.dst x).setb hw)
     |none=>none
    |some false=>some (.reg id ops dr l::k,s.put o.dst (.v undef))
    |none=>none
   |false=>none
  |none=>none
 |_=>none
def run (P:Program):Nat->List KI×S->List KI×S
 |0,st=>st
 |n+1,st=>match one P st.1 st.2 with
  |some st'=>run P n st'
  |none=>st
end based
section sound
variable {P:Program} {fn:Func} {Post:Ca}
section based
variable [Dd]
def Lc {c:Cx}{id:Nat}:∀ {k b:List KI},Rq id k=some b->∀ {a:Act} {w:World},Ms P fn Post c b .normal a w->Ms P fn Post c k (.exit id) a w
 |.blk j::k,b,h,a,w,hc=>by
  unfold Rq at h;cases hb:Nat.beq j id with
  |true =>
   simp[hb]at h;subst h;have:=A1u hb;subst this;simp[Ms,Exit.inBlock];exact hc
  |false =>
   simp[hb]at h;have f:id≠j:=fun e=>by subst e;simp at hb
   simp only[Ms,Exit.inBlock,if_neg f];exact Lc h hc
 |.code x::k,b,h,a,w,hc=>by simp only[Rq]at h;simp only[Ms,Exit.then];exact Lc h hc
 |.reg _ _ _ _::k,b,h,a,w,hc=>by simp only[Rq]at h;simp only[Ms];exact Lc h hc
 |.lp J::k,b,h,a,w,hc=>by simp only[Rq]at h;simp only[Ms,Exit.then];exact Lc h hc
 |[],b,h,a,w,hc=>by simp[Rq]at h
def K4 {c:Cx}{a:Act}{w:World}(h:Auy P fn (Aup c Post.post) .ret a w):∀ k:List KI,Ms P fn Post c k .ret a w
 |[]=>h
 |.blk j::k=>by simp only[Ms,Exit.inBlock];exact K4 h k
 |.code x::k=>by simp only[Ms,Exit.then];exact K4 h k
 |.reg _ _ _ _::k=>by simp only[Ms];exact K4 h k
 |.lp J::k=>by simp only[Ms,Exit.then];exact K4 h k
def Rel.drew {a:Act}(h:Rel c s u m ρ a w):Rel c s u m ρ a { w with drawn:=w.drawn+1 } :=
 ⟨h.sz,h.tm,h.df,h.box,h.inj,h.lv,⟨h.gd.pu,h.gd.pm,h.gd.ap,h.gd.cl⟩,⟨h.gr.sz,h.gr.old,h.gr.us,h.gr.ms,h.gr.io,fun f=>⟨(h.gr.dr f).tape,Nat.le_succ_of_le (h.gr.dr f).dr⟩⟩⟩
theorem Rel.shut (h:Rel c s u m ρ { tmps:=t,defers:=d::dl } w)(L:Ad9 d=true) :
 ∃ r w',d.target=.collected r/\(Instr.takeDeferred r).run P w=.ok [] w'/\Rel c s u m ρ { tmps:=t,defers:=dl } w':=by
 obtain⟨q,I,l,B,J⟩:=h.df;rw[A51,if_pos L]at l;cases q with
 |nil=>cases l
 |cons r q =>
  rw[A1t,A3b]at l;obtain⟨rfl,l⟩:=l;obtain⟨x,V,C,D⟩:=J r A1g;have n:∀ g,g≠r->(w.putObj r (.deferred none)).heap[g]?=w.heap[g]?:=fun g a=>World.putObj_heap_other a;have R:(w.putObj r (.deferred none)).heap[r]?=some (.deferred none):=World.putObj_heap_same (Cf x);refine⟨r,w.putObj r (.deferred none),rfl,run_takeDeferred x,h.sz,h.tm,⟨q,(A3a.1 I).2,l,B,fun r' Q=>?_⟩,fun k b K=>?_,h.inj,h.lv,⟨fun g o a=>?_,fun g o a=>?_,h.gd.ap,fun g p U A j z a N=>?_⟩,⟨?_,fun g a O=>?_,h.gr.us,h.gr.ms,h.gr.io,fun f=>⟨(h.gr.dr f).tape,(h.gr.dr f).dr⟩⟩⟩
  ·grind
  ·obtain⟨⟨cs,y,E,F⟩,H⟩:=h.box k b K;refine⟨⟨cs,?_,E,F⟩,H⟩;rw[n _ (fun e=>by rw[e,x]at y;cases y)];exact y
  ·rw[n g (fun e=>by rw[e,C]at a;cases a)];exact h.gd.pu g o a
  ·rw[n g (fun e=>by rw[e,D]at a;cases a)];exact h.gd.pm g o a
  ·rw[n g (fun e=>by rw[e,R]at a;cases a)]at a;exact h.gd.cl g p U A j z a N
  ·grind
  rw[n g oV];exact h.gr.old g a O
end based
def Rel.marks (a:Rel c s u m ρ { tmps:=t,defers:=d::dl } w):Ad9 d=true:=by
 obtain⟨_,_,_,h,_⟩:=a.df;cases e:Ad9 d with
 |true=>rfl
 |false=>simp_all
def Rel.leaves {c:Cx}{R:Ending->World->Prop}{s:S}{u m:PH}{ρ:Nat->Nat}{t:Array Value}{v:Value}:∀ {dl:List Deferred} {w:World},Rel c s u m ρ { tmps:=t,defers:=dl } w ->
 (∀ w',Rel c s u m ρ { tmps:=t,defers:=[] } w'->(results fn t).run P w'=.ok v w'/\R (.returned v) w')->LeavesInM Fence.wide 1 P fn t R dl .returning w
 |[],w,hr,hv=>⟨v,(hv w hr).1,(hv w hr).2⟩
 |d::dl,w,hr,hv=>by
  obtain⟨r,w',a,b,e⟩:=hr.shut (P:=P) hr.marks;exact⟨mV,.inl ⟨r,w',a,b,e.leaves hv⟩⟩
def Rel.ends {c:Cx}{R:Ending->World->Prop}{s:S}{u m:PH}{ρ:Nat->Nat}{a:Act}{w:World}(b:Rel c s u m ρ a w){v:Value}
 (e:∀ w',Rel c s u m ρ { tmps:=a.tmps,defers:=[] } w'->(results fn a.tmps).run P w'=.ok v w'/\R (.returned v) w'):Auy P fn R .ret a w/\Auy P fn R .normal a w:=by
 have:=b.leaves (P:=P) (fn:=fn) (R:=R) e;exact⟨this,this⟩
section based
variable [Dd]
def Sym.reg_seq {k:List KI}(h:Ob P id ops false (Nz P fn Post k) (List.range ops.size) s u m):Nz P fn Post (.code (.region id ops false)::k) s u m:=fun c ρ a w b e=>wp_region (h.wpOps (fun s u m ρ a w f e=>f c ρ a w b e) e)
def Amf (h:Ar0 ops s T=true):T.length=ops.size/\(∀ i,i<ops.size->i∈T)/\(∀ i∈T,i<ops.size)/\T.Nodup/\T.Pairwise (fun x y=>Il ops s x y=true)/\(List.range ops.size).all (L3 ops)=true:=by
 unfold Ar0 at h;simp only[A1b]at h;obtain⟨⟨⟨⟨j,b⟩,f⟩,g⟩,k⟩:=h;rw[A06]at b f;refine⟨A1u j,fun i a=>by simpa using b i (by simpa using a),fun i a=>A8r▸f i a,?_,Ke g,k⟩;refine (Ke g).imp fun {x y} hxy e=>?_;unfold Il at hxy;subst e;simp at hxy
theorem Sym.reg_draw (r:P.follows .mixedOrders=true)(p:Ar0 ops s T=true){k:List KI}(h:Ob P id ops true (Nz P fn Post k) T s u m):Nz P fn Post (.code (.region id ops true)::k) s u m:=by
 intro c ρ a w f e;obtain⟨j,x,b,g,n,o⟩:=Amf p;refine wp_region_any r ?_;rw[show ops.size=T.length from j.symm];refine Ob.wpAny (c:=c) e.lv o (fun s u m ρ a w q e=>q c ρ a w f e) T.length T _ rfl (by simp[j]) (fun i l=>?_) b g (fun i l=>?_) n (G6.refl _ _) h e.drew
 ·simp_all
 exfalso;simp only[A2d]at l;by_cases b:i<T.length
 ·grind
 grind
def Sym.ofNo {a:List KI}(b:G2 a=true):Sym P fn Post a s u m=Nz P fn Post a s u m:=by
 cases a with
 |nil=>rfl
 |cons x k=>cases x<;>first|rfl|simp[G2]at b
theorem O7 (n:P.follows .mixedOrders=true){j g:List KI}{s l:S}(h:one P j s=some (g,l))(e:Sym P fn Post g l u m):Sym P fn Post j s u m:=by
 unfold one at h;split at h
 ·rename_i k;cases hn:G2 k with
  |false=>grind
  |true =>
   simp[hn]at h;obtain⟨rfl,rfl⟩:=h;rw[Sym.ofNo hn]at e;exact fun c ρ a w b f=>wp_skip (e c ρ a w b f)
 ·simp at h;obtain⟨rfl,rfl⟩:=h;exact fun c ρ a w b f=>wp_seq (e c ρ a w b f)
 ·simp at h;obtain⟨rfl,rfl⟩:=h;exact fun c ρ a w b f=>wp_block (e c ρ a w b f)
 ·split at h
  ·rename_i k' hk';cases hn:G2 k' with
   |false=>grind
   |true =>
    simp[hn]at h;obtain⟨rfl,rfl⟩:=h;rw[Sym.ofNo hn]at e;exact fun c ρ a w b f=>wp_exit (Lc hk' (e c ρ a w b f))
  cases h
 ·rename_i x y z k;split at h
  ·rename_i hx;simp at h;obtain⟨rfl,rfl⟩:=h;exact fun c ρ a w b f=>wp_cond_true (by rw[f.eval x (by rw[hx];simp),hx];rfl) (e c ρ a w b f)
  ·rename_i hx;simp at h;obtain⟨rfl,rfl⟩:=h;exact fun c ρ a w b f=>wp_cond_false (by rw[f.eval x (by rw[hx];simp),hx];rfl) (e c ρ a w b f)
  cases h
 ·simp at h;obtain⟨rfl,rfl⟩:=h;exact Sym.reg_seq e
 ·rename_i id ops k;cases hB:Ar0 ops s (Aww ops) with
  |false=>grind
  |true =>
   simp[hB]at h;obtain⟨rfl,rfl⟩:=h;exact Sym.reg_draw n hB e
 ·rename_i id k;cases hn:G2 k with
  |false=>grind
  |true =>
   simp[hn]at h;obtain⟨rfl,rfl⟩:=h;rw[Sym.ofNo hn]at e;exact fun c ρ a w b f=>e c ρ a w b f
 ·rename_i k;cases hn:G2 k with
  |false=>grind
  |true =>
   simp[hn]at h;obtain⟨rfl,rfl⟩:=h;rw[Sym.ofNo hn]at e;exact .nil e
 ·split at h
  ·rename_i o ho;split at h
   ·rename_i hd;split at h
    ·rename_i hg;split at h
     ·rename_i x hw he;simp at h;obtain⟨rfl,rfl⟩:=h;exact .auto ho hg hd he e
     cases h
    ·rename_i hg;simp at h;obtain⟨rfl,rfl⟩:=h;exact .skip ho hg hd e
    cases h
   cases h
  cases h
 cases h
def Aai (b:P.follows .mixedOrders=true){u m:PH}:∀ (n:Nat) (a:List KI×S),Sym P fn Post (run P n a).1 (run P n a).2 u m->Sym P fn Post a.1 a.2 u m
 |0,a,h=>h
 |n+1,a,h=>by
  unfold run at h;split at h
  ·rename_i st' he;obtain⟨e,f⟩:=st';exact O7 b he (Aai b n _ h)
  exact h
end based
end sound
end
section
variable {a:Act}{args:List Value}{c:Cx}{env:Operand->Value}{f:Nat}{o:Op}{op:BinOp}{s:S}{w:World}{x y:Value}{ρ:Nat->Nat}
variable [Cj] [Pu]
section based
variable [Dd]
class A6 (P:Program):Prop where
 mx:P.follows .mixedOrders=true
 ti:P.underlying 3=some (.int .i64)
def Alc {P:Program}[h:A6 P]{d:TypeId}{x:TypeDesc}(b:P.underlying d=some x)(g:x≠.int .i64):Atn d=false:=by
 unfold Atn;cases e:Nat.beq d 3 with
 |false=>rfl
 |true=>have:=A1u e;subst this;rw[h.ti]at b;cases b;exact absurd rfl g
structure G (P:Program)(fn:Func)(Post:Ca)(st:List KI×S)(u m:PH):Prop where
 out:Sym P fn Post st.1 st.2 u m
def adv (P:Program)(st:List KI×S):List KI×S:=run P 3000 st
def ctl (P:Program):Nat->List KI×S->List KI×S
 |0,st=>st
 |n+1,st=>cond (G2 st.1) st (match one P st.1 st.2 with|some st'=>ctl P n st'|none=>st)
def nx (st:List KI×S)(v:Value):List KI×S :=
 match st.1 with
 |.reg id ops dr (i::l)::k=>match ops[i]? with
  |some o=>(.reg id ops dr l::k,st.2.put o.dst (.v v))
  |none=>st
 |_=>st
def Nf (P:Program)(t:TypeId):Option Nat:=match P.underlying t with|some (.slice e)=>szB P e|_=>none
def Ly (P:Program)(t:TypeId):Option (TypeId×Nat×Nat×Value) :=
 match P.underlying t with
 |some (.slice e)=>match P.info? e with
  |some i=>match i.zero with|some z=>some (e,i.size,i.bytes,z)|none=>none
  |none=>none
 |_=>none
def Xb (P:Program)(t:TypeId):Option (Option Nat) :=
 match M2 P t with
 |some true=>match szB P t with|some n=>some (some n)|none=>none
 |some false=>some none
 |none=>none
inductive Tn where
 |other
 |bin (op:BinOp) (x y:Value)
 |binT (op:BinOp) (t:Option TypeDesc) (x y:Value)
 |un (op:UnOp) (x:Value)
 |conv (src dst:Option TypeDesc) (x:Value)
 |index (t:Option TypeDesc) (x i:Value)
 |addr (sz:Option Nat) (x i:Value)
 |slice (sz:Option Nat) (x:Value) (lo hi mx:Option Value)
 |load (k:Option (Option Nat)) (a:Value)
 |store (sz:Option Nat) (a v:Value)
 |make (e:Option (TypeId×Nat×Nat×Value)) (l c:Value)
 |call (f:Nat) (args:List Value)
 |app (e:Option (TypeId×Nat×Nat×Value)) (same:Bool) (args:List Value)
 |blt (b:Builtin) (ts:List TypeId) (args:List Value)
 |build (t:TypeId) (parts:List (Nat×Value))
 |buildS (e:Option (TypeId×Nat×Nat×Value)) (n:Nat) (parts:List (Nat×Value))
 |field (t:TypeId) (x:Value) (f:Nat)
 |fieldA (t:TypeId) (x:Value) (f:Nat)
def Bc (P:Program)(env:Operand->Value):Op->Tn
 |.binOp op t x y _=>match env x with
  |.int k a=>.bin op (.int k a) (env y)
  |.string a=>.bin op (.string a) (env y)
  |z=>.binT op (P.underlying t) z (env y)
 |.unOp op _ x=>.un op (env x)
 |.convert s d x=>.conv (P.underlying s) (P.underlying d) (env x)
 |.index t x i=>.index (P.underlying t) (env x) (env i)
 |.indexAddr t x i=>.addr (Nf P t) (env x) (env i)
 |.slice t x lo hi mx=>.slice (Nf P t) (env x) (lo.map env) (hi.map env) (mx.map env)
 |.load t a=>.load (Xb P t) (env a)
 |.store t a v=>.store (szB P t) (env a) (env v)
 |.makeSlice t l c=>.make (Ly P t) (env l) (env c)
 |.build t ps=>.build t (ps.toList.map fun (i,x)=>(i,env x))
 |.buildSlice t n ps=>.buildS (Ly P t) n (ps.toList.map fun (i,x)=>(i,env x))
 |.field t x f=>.field t (env x) f
 |.fieldAddr t x f=>.fieldA t (env x) f
 |.call c=>match c.callee with
  |.value f=>match env f with
   |.func (.func n) first cap=>.call n (first.toList++c.args.toList.map env++cap.toList)
   |_=>.other
  |.builtin b=>match b with
   |.append=>match c.argTypes.toList with
    |[t,t']=>.app (Ly P t) (Nat.beq t t') (c.args.toList.map env)
    |_=>.other
   |b=>.blt b c.argTypes.toList (c.args.toList.map env)
  |_=>.other
 |_=>.other
def Ak (P:Program)(st:List KI×S):Tn :=
 match st.1 with
 |.reg _ ops _ (i::_)::_=>match ops[i]? with
  |some o=>match G8 st.2 o&&(M1 st.2 o.op&&M7 o.op) with
   |true=>match gv st.2 ops o with
    |some true=>Bc P (Mw st.2) o.op
    |_=>.other
   |false=>.other
  |none=>.other
 |_=>.other
def Yd (P:Program)(s:S):ResultVar->Option Value
 |.tmp t=>match s.tm t with|.v x=>some x|_=>none
 |.cell a t=>match s.tm a with
  |.p k off=>match s.hp k with
   |some b=>match ldv P t b.cells off with|some (.v y)=>some y|_=>none
   |none=>none
  |_=>none
def Tc (P:Program)(s:S):List ResultVar->Option (List Value)
 |[]=>some []
 |r::l=>match Yd P s r with
  |some x=>match Tc P s l with|some xs=>some (x::xs)|none=>none
  |none=>none
def Vc:List Value->Value
 |[x]=>x
 |l=>.tuple l.toArray
def Ax9 (P:Program)(fn:Func)(st:List KI×S):Option Value :=
 match st.1 with
 |.code .ret::_|[]=>match Tc P st.2 fn.results.toList with|some l=>some (Vc l)|none=>none
 |_=>none
end based
section rules
variable {P:Program} [A6 P] {fn:Func} {Post:Ca} {st:List KI×S} {u m:PH}
section based
variable [Dd]
def G.stp (h:G P fn Post (adv P st) u m):G P fn Post st u m:=⟨Aai A6.mx 3000 st h.out⟩
def Ll:∀ (n:Nat) (st:List KI×S),Sym P fn Post (ctl P n st).1 (ctl P n st).2 u m->Sym P fn Post st.1 st.2 u m
 |0,st,h=>h
 |n+1,st,h=>by
  unfold ctl at h;cases hn:G2 st.1 with
  |true=>simp[hn]at h;exact h
  |false =>
   simp only[hn,cond_false]at h;split at h
   ·rename_i st' he;obtain⟨b,d⟩:=st';exact O7 A6.mx he (Ll n _ h)
   exact h
theorem E8 {V:Tn}(h:Ak P st=V)(g:V≠.other):∃ e b d i l k s o,st=(.reg e b d (i::l)::k,s)/\b[i]?=some o/\gv s b o=some true/\G8 s o=true/\M1 s o.op=true/\M7 o.op=true/\Bc P (Mw s) o.op=V /\
 ∀ v,nx st v=(.reg e b d l::k,s.put o.dst (.v v)):=by
 obtain⟨j,s⟩:=st;unfold Ak at h;simp only at h;split at h
 ·rename_i e b d i l k;split at h
  ·rename_i o ho;split at h
   ·rename_i hb;simp only[A1b]at hb;split at h
    ·rename_i hg;exact⟨e,b,d,i,l,k,s,o,rfl,ho,hg,hb.1,hb.2.1,hb.2.2,h,fun v=>by simp[nx,ho]⟩
    grind
   grind
  grind
 grind
def Ab1 {V:Tn}(h:Bc P env o=V)(b:V≠.other):Fk o=false:=by
 cases o<;>first|rfl|(simp only[Bc]at h;exact absurd h.symm b)
def G.ask {V:Tn}{v:Value}(h:Ak P (adv P st)=V)(j:V≠.other)(t:∀ env (o:Oper),Bc P env o.op=V->∀ w,(Ij o.op=true->F7 u w/\(Pu.b=false->F7 m w))->(execOp env o).run P w=.ok (.value v) w)
 (k:G P fn Post (nx (adv P st) v) u m):G P fn Post st u m:=by
 refine G.stp ?_;obtain⟨D,B,C,i,l,E,s,o,e,r,q,p,A,z,d,g⟩:=E8 h j;have k:=k.out;rw[g]at k;rw[e];exact⟨Ob.ask r q p A z (Ab1 d j) (fun w hp=>t _ o d w fun h=>⟨(hp (.inl h)).1,fun n=>(hp (.inl h)).2 (.inl n)⟩) k⟩
def Awd (st:List KI×S):Bool:=match st.1 with
 |.reg _ _ false _::_=>true
 |_=>false
def G.see {V:Tn}{v:Value}(h:Ak P (adv P st)=V)(n:V≠.other)(p:Awd (adv P st)=true)(z:∀ env (o:Oper),Bc P env o.op=V->∀ w,F7 u w->F7 m w->(execOp env o).run P w=.ok (.value v) w)
 (k:G P fn Post (nx (adv P st) v) u m):G P fn Post st u m:=by
 refine G.stp ?_;obtain⟨D,C,j,i,l,E,s,o,e,t,r,q,B,A,b,g⟩:=E8 h n;have k:=k.out;rw[g]at k;rw[e]at p⊢;have d:j=false:=by cases j<;>simp[Awd]at p⊢
 exact⟨Ob.ask t r q B A (Ab1 b n) (fun w hp=>z _ o b w (hp (.inr d)).1 ((hp (.inr d)).2 (.inr d))) k⟩
theorem G.big {V:Tn}{K:Value->PH->PH->Prop}(h:Ak P (adv P st)=V)(t:V≠.other)(A:∀ env op,Bc P env op=V->E9 op=false)(j:(∀ v g d,K v g d->PH.le m d)\/(∀ env op,Bc P env op=V->Na op=true))
 (D:∀ env (o:Oper),Bc P env o.op=V->∀ w,Ci u m w->Ft P env o w fun v w'=>∃ g d,Ci g d w'/\Cn u m w g d w'/\K v g d)
 (k:∀ v g d,PH.le u g->K v g d->G P fn Post (nx (adv P st) v) g d):G P fn Post st u m:=by
 refine G.stp ?_;obtain⟨L,H,I,i,l,N,s,o,e,C,B,z,F,E,b,p⟩:=E8 h t;rw[e];refine⟨?_⟩;refine Ob.big (K:=K) C B z F E (A _ _ b) (fun v g d J=>?_) (fun w n=>D _ o b w n) (fun v g d q r=>?_)
 ·rcases j with j|j
  ·grind
  exact .inr (.inr (.inl (Ann (j _ _ b))))
 have:=(k v g d q r).out;rw[p]at this;exact this
theorem Apj (h:Bc P env o=.bin op x y):∃ t X Y b,o=.binOp op t X Y b/\env X=x/\env Y=y:=by
 cases o<;>simp only[Bc]at h<;>try cases h
 ·split at h
  ·rename_i hx;simp at h;obtain⟨rfl,rfl,rfl⟩:=h;exact⟨_,_,_,_,rfl,hx,rfl⟩
  ·rename_i hx;simp at h;obtain⟨rfl,rfl,rfl⟩:=h;exact⟨_,_,_,_,rfl,hx,rfl⟩
  cases h
 grind
theorem Lg {d:Option TypeDesc}(h:Bc P env o=.binT op d x y):∃ t X Y b,o=.binOp op t X Y b/\env X=x/\env Y=y/\P.underlying t=d:=by
 cases o<;>simp only[Bc]at h<;>try cases h
 ·split at h
  ·cases h
  ·cases h
  simp at h;obtain⟨rfl,rfl,rfl,rfl⟩:=h;exact⟨_,_,_,_,rfl,rfl,rfl,rfl⟩
 grind
theorem Aa2 (h:Bc P env o=.call f args):∃ c F first cap,o=.call c/\c.callee=.value F/\env F=.func (.func f) first cap/\args=first.toList++c.args.toList.map env++cap.toList:=by
 cases o<;>simp only[Bc]at h<;>try cases h
 ·grind
 split at h
 ·grind
 ·grind
 cases h
def G.bin {op:BinOp}{x y:Value}(v:Value)(h:Ak P (adv P st)=.bin op x y)(n:∀ t X Y w,(eqGuard op t X Y x y).run P w=.ok () w)(p:∀ t w,(binOp op t x y).run P w=.ok v w)
 (k:G P fn Post (nx (adv P st) v) u m):G P fn Post st u m:=by
 refine G.ask h mV (fun env o b w _=>?_) k;obtain⟨t,X,Y,r,e,rfl,rfl⟩:=Apj b;obtain⟨l,q,j,pos,d,g⟩:=o;simp only at e;subst e;simp[execOp,n,p]
def Dq {k:IntKind}{x y:Int}(t:TypeId)(X Y:Operand)(w:World):(eqGuard op t X Y (.int k x) (.int k y)).run P w=.ok () w:=by
 unfold eqGuard;split<;>simp
def Fx {z:Int}(b:-9223372036854775808<=z)(d:z<=9223372036854775807):IntKind.i64.wrap z=z:=by
 simp only[IntKind.wrap,IntKind.signed,IntKind.bits];simp;omega
def G.add (x y z:Int)(h:Ak P (adv P st)=.bin .add (.int .i64 x) (.int .i64 y))(e:x+y=z)(b:-9223372036854775808<=z)(d:z<=9223372036854775807)
 (k:G P fn Post (nx (adv P st) (.int .i64 z)) u m):G P fn Post st u m :=
 G.bin _ h Dq (fun t w=>by simp[binOp,Op.intArith,e,Fx b d]) k
def G.sub (x y z:Int)(h:Ak P (adv P st)=.bin .sub (.int .i64 x) (.int .i64 y))(e:x-y=z)(b:-9223372036854775808<=z)(d:z<=9223372036854775807)
 (k:G P fn Post (nx (adv P st) (.int .i64 z)) u m):G P fn Post st u m :=
 G.bin _ h Dq (fun t w=>by simp[binOp,Op.intArith,e,Fx b d]) k
def G.mul (x y z:Int)(h:Ak P (adv P st)=.bin .mul (.int .i64 x) (.int .i64 y))(e:x*y=z)(b:-9223372036854775808<=z)(d:z<=9223372036854775807)
 (k:G P fn Post (nx (adv P st) (.int .i64 z)) u m):G P fn Post st u m :=
 G.bin _ h Dq (fun t w=>by simp[binOp,Op.intArith,e,Fx b d]) k
def C8:BinOp->Int->Int->Bool
 |.eql,x,y=>decide (x=y)
 |.neq,x,y=>decide (x≠y)
 |.lss,x,y=>decide (x<y)
 |.leq,x,y=>decide (x<=y)
 |.gtr,x,y=>decide (x>y)
 |.geq,x,y=>decide (x≥y)
 |_,_,_=>false
def Av8:BinOp->Bool
 |.eql|.neq|.lss|.leq|.gtr|.geq=>true
 |_=>false
theorem G.cmpG (op:BinOp)(e:IntKind)(x y:Int)(b:Bool)(h:Ak P (adv P st)=.bin op (.int e x) (.int e y))(d:Av8 op=true)(g:C8 op x y=b)
 (k:G P fn Post (nx (adv P st) (.bool b)) u m):G P fn Post st u m:=by
 refine G.bin _ h Dq (fun t w=>?_) k;subst g;cases op<;>simp[Av8]at d<;>simp[binOp,Op.intCmp,C8]
 ·grind
 grind
def G.eqlT (x y:Int)(h:Ak P (adv P st)=.bin .eql (.int .i64 x) (.int .i64 y))(b:x=y)(k:G P fn Post (nx (adv P st) (.bool true)) u m):G P fn Post st u m :=
 G.cmpG .eql .i64 x y true h rfl (by simp only[C8,decide_eq_true_eq];exact b) k
def G.eqlF (x y:Int)(h:Ak P (adv P st)=.bin .eql (.int .i64 x) (.int .i64 y))(b:¬ (x=y))(k:G P fn Post (nx (adv P st) (.bool false)) u m):G P fn Post st u m :=
 G.cmpG .eql .i64 x y false h rfl (by simp only[C8,decide_eq_false_iff_not];exact b) k
def G.neqT (x y:Int)(h:Ak P (adv P st)=.bin .neq (.int .i64 x) (.int .i64 y))(b:x≠y)(k:G P fn Post (nx (adv P st) (.bool true)) u m):G P fn Post st u m :=
 G.cmpG .neq .i64 x y true h rfl (by simp only[C8,decide_eq_true_eq];exact b) k
def G.neqF (x y:Int)(h:Ak P (adv P st)=.bin .neq (.int .i64 x) (.int .i64 y))(b:¬ (x≠y))(k:G P fn Post (nx (adv P st) (.bool false)) u m):G P fn Post st u m :=
 G.cmpG .neq .i64 x y false h rfl (by simp only[C8,decide_eq_false_iff_not];exact b) k
def G.lssT (x y:Int)(h:Ak P (adv P st)=.bin .lss (.int .i64 x) (.int .i64 y))(b:x<y)(k:G P fn Post (nx (adv P st) (.bool true)) u m):G P fn Post st u m :=
 G.cmpG .lss .i64 x y true h rfl (by simp only[C8,decide_eq_true_eq];exact b) k
def G.lssF (x y:Int)(h:Ak P (adv P st)=.bin .lss (.int .i64 x) (.int .i64 y))(b:¬ (x<y))(k:G P fn Post (nx (adv P st) (.bool false)) u m):G P fn Post st u m :=
 G.cmpG .lss .i64 x y false h rfl (by simp only[C8,decide_eq_false_iff_not];exact b) k
def G.leqT (x y:Int)(h:Ak P (adv P st)=.bin .leq (.int .i64 x) (.int .i64 y))(b:x<=y)(k:G P fn Post (nx (adv P st) (.bool true)) u m):G P fn Post st u m :=
 G.cmpG .leq .i64 x y true h rfl (by simp only[C8,decide_eq_true_eq];exact b) k
def G.leqF (x y:Int)(h:Ak P (adv P st)=.bin .leq (.int .i64 x) (.int .i64 y))(b:¬ (x<=y))(k:G P fn Post (nx (adv P st) (.bool false)) u m):G P fn Post st u m :=
 G.cmpG .leq .i64 x y false h rfl (by simp only[C8,decide_eq_false_iff_not];exact b) k
def G.gtrT (x y:Int)(h:Ak P (adv P st)=.bin .gtr (.int .i64 x) (.int .i64 y))(b:x>y)(k:G P fn Post (nx (adv P st) (.bool true)) u m):G P fn Post st u m :=
 G.cmpG .gtr .i64 x y true h rfl (by simp only[C8,decide_eq_true_eq];exact b) k
def G.gtrF (x y:Int)(h:Ak P (adv P st)=.bin .gtr (.int .i64 x) (.int .i64 y))(b:¬ (x>y))(k:G P fn Post (nx (adv P st) (.bool false)) u m):G P fn Post st u m :=
 G.cmpG .gtr .i64 x y false h rfl (by simp only[C8,decide_eq_false_iff_not];exact b) k
def G.geqT (x y:Int)(h:Ak P (adv P st)=.bin .geq (.int .i64 x) (.int .i64 y))(b:x≥y)(k:G P fn Post (nx (adv P st) (.bool true)) u m):G P fn Post st u m :=
 G.cmpG .geq .i64 x y true h rfl (by simp only[C8,decide_eq_true_eq];exact b) k
def G.geqF (x y:Int)(h:Ak P (adv P st)=.bin .geq (.int .i64 x) (.int .i64 y))(b:¬ (x≥y))(k:G P fn Post (nx (adv P st) (.bool false)) u m):G P fn Post st u m :=
 G.cmpG .geq .i64 x y false h rfl (by simp only[C8,decide_eq_false_iff_not];exact b) k
def Fn0 (P:Program)(f:FuncId)(args:List Value)(u:PH)(R:Value->PH->Prop):Prop:=Ah P f args u PH.mt (fun v u' m'=>m'=PH.mt/\R v u')
def F7.mt (w:World):F7 PH.mt w:=fun _ _ h=>by cases h
def Ci.noM (h:Ci u m w):Ci u PH.mt w:=⟨h.pu,F7.mt w,fun _=>.inr rfl,h.cl⟩
theorem Ci.frame {k:PH}{w w':World}(h:Ci u m w)(g:Ci k PH.mt w')(j:Cn u PH.mt w k PH.mt w'):Ci k m w'/\Cn u m w k m w':=by
 refine⟨⟨g.pu,fun b o d=>?_,fun b=>?_,g.cl⟩,⟨j.sz,fun b d _=>j.old b d rfl,j.us,fun b _ d=>d,j.io,j.dr⟩⟩
 ·rw[j.old b (h.pm.lt d) rfl];exact h.pm b o d
 cases d:m b with
 |none=>grind
 |some o =>
  rw[j.us b (h.pm.lt d)];rcases h.ap b with e|e
  ·grind
  grind
theorem Hf {env:Operand->Value}{o:Oper}{f:Nat}{args:List Value}(g:Bc P env o.op=.call f args)(q:∀ args w,(callFunc f args).run P w=.ok (.enter f args) w)(w:World)(K:Value->World->Prop)
 (h:Calls P f args.toArray w fun e w'=>∃ v,e=.returned v/\K v w'):Ft P env o w K:=by
 obtain⟨c,F,first,cap,e,j,p,rfl⟩:=Aa2 g
 obtain⟨l,r,k,pos,b,d⟩:=o;simp only at e;subst e;have:(execOp env ⟨l,.call c,k,pos,b,d⟩).run P w=.ok (.enter f ((first++c.args.map env)++cap)) w:=by
  simp[execOp,resolve,j,p,Deferred.ofValue,invoke,q]
 unfold Ft;rw[this];have n:(first.toList++c.args.toList.map env++cap.toList).toArray=(first++c.args.map env)++cap:=by grind
 rw[<-n];exact h
def Dh (env:Operand->Value)(op:Op)(h:Bc P env op=.call f args):E9 op=false:=by
 obtain⟨c,F,first,cap,rfl,b,_⟩:=Aa2 h
 obtain⟨d,a,t⟩:=c;simp only at b;subst b;rfl
theorem G.call0 (f:Nat)(args:List Value){R:Value->PH->Prop}(h:Ak P (adv P st)=.call f args)(t:∀ args w,(callFunc f args).run P w=.ok (.enter f args) w)(c:Fn0 P f args u R)
 (k:∀ v b,PH.le u b->R v b->G P fn Post (nx (adv P st) v) b m):G P fn Post st u m:=by
 refine G.big (K:=fun v b j=>j=m/\R v b) h mV Dh (.inl fun v b j r=>by rw[r.1];exact PH.le_refl _) (fun env o d w g=>?_) (fun v b j A B=>?_)
 ·refine Hf d t w _ (Calls.mono (c w g.noM) fun e w' z=>?_);obtain⟨v,b,j,l,n,p,rfl,q⟩:=z;obtain⟨g1,g2⟩:=g.frame n p;exact⟨v,l,b,m,g1,g2,rfl,q⟩
 grind
def S.init (n:Nat)(args:List Value):S:={ n:=n,tm:=fun d=>match args[d]? with|some x=>.v x|none=>.junk,hp:=fun _=>none }
def Ahj (fn:Func):Code:=match fn.body with|some c=>c|none=>.skip
def st0 (fn:Func)(args:List Value):List KI×S:=([.code (Ahj fn)],S.init fn.ntmps args)
end based
theorem Ah.of {e:Value->PH->PH->Prop}{f:FuncId}(A:P.funcs[f]?=some fn)(l:fn.body.isSome=true)(z:Nat.ble args.length fn.ntmps=true)(h:G P fn ⟨e,m⟩ (st0 fn args) u m):Ah P f args u m e:=by
 intro w q;have z:=A72 z;have p:fn.body=some (Ahj fn):=by unfold Ahj;cases hc:fn.body with|none=>simp[hc]at l|some c=>rfl
 refine callsIn_wide.1 (callsIn_of_wp_marks (n:=1) A p trivial (wpIn_wide.2 ?_) rfl);have D:Rel ⟨w,u,m⟩ (S.init fn.ntmps args) u m (fun _=>0) { tmps:=args.toArray++Array.replicate (fn.ntmps-args.toArray.size) undef,defers:=[] } w:=by
  refine⟨?_,fun d g=>?_,Ai1.nil _ _ _ _,fun k b l=>?_,fun k j C=>absurd rfl C,⟨fun d k t g=>?_,fun j b k t B=>?_⟩,q,Cn.refl _ _ _⟩
  ·simp[S.init];omega
  ·simp only[S.init]at g⊢;split at g
   ·rename_i x hx;have r:d<args.length:=by grind
    simp only[SV.den];rw[A5n (by simpa using r)];simpa using hx
   grind
  ·cases l
  ·simp only[S.init]at g;split at g<;>cases g
  cases B
 exact h.out _ _ _ _ rfl D
def Fn0.of {R:Value->PH->Prop}{f:FuncId}{args:List Value}(d:P.funcs[f]?=some fn)(b:fn.body.isSome=true)(e:Nat.ble args.length fn.ntmps=true)(h:G P fn ⟨fun v j g=>g=PH.mt/\R v j,PH.mt⟩ (st0 fn args) u PH.mt):Fn0 P f args u R :=
 Ah.of d b e h
section based
variable [Dd]
def Ml (t:Array Value):ResultVar->Sem Value
 |.tmp d=>pure (t.getD d undef)
 |.cell p ty=>do loadVar ty (<-asAddr (t.getD p undef))
def Wz (d:Rel c s u m ρ a w){r:ResultVar}(h:Yd P s r=some x):(Ml a.tmps r).run P w=.ok x w:=by
 cases r with
 |tmp t =>
  simp only[Yd]at h;split at h
  ·rename_i y hy;simp at h;subst h;have:=d.tm t (by rw[hy];simp);rw[hy]at this;simp[Ml,this,SV.den]
  cases h
 |cell p t =>
  simp only[Yd]at h;split at h
  ·rename_i k off hp;split at h
   ·rename_i b hb;split at h
    ·rename_i y hy;simp at h;subst h;have:=d.tm p (by rw[hp];simp);rw[hp]at this;obtain⟨e,_,_⟩:=Ak7 (P:=P) (w:=w) (d.box k b hb).1 hy;simp[Ml,this];exact e
    cases h
   cases h
  cases h
def Uh (d:Rel c s u m ρ a w){l:List Value}(h:Tc P s fn.results.toList=some l):(results fn a.tmps).run P w=.ok (Vc l) w:=by
 have key:∀ (b:List ResultVar) (l:List Value),Tc P s b=some l->(b.mapM (Ml a.tmps)).run P w=.ok l w:=by
  intro b;induction b with
  |nil=>intro l h;simp[Tc]at h;subst h;simp
  |cons r b ih =>
   intro l h;unfold Tc at h;split at h
   ·rename_i x hx;split at h
    ·rename_i xs hxs;simp at h;subst h;rw[A9g];simp only[Sem.run_bind,Wz d hx,Result.andThen_ok,ih xs hxs,Sem.run_pure]
    cases h
   cases h
 have e:results fn a.tmps=(do let vs <-fn.results.mapM (Ml a.tmps);pure (if h:vs.size=1 then vs[0] else .tuple vs)):=by
  unfold results;rfl
 rw[e,<-A6r (xs:=fn.results),A8n];simp only[Sem.run_bind,Sem.run_map,key _ l h]
 match l with
 |[]=>rfl
 |[x]=>rfl
 |x::y::l=>rfl
end based
def G.ret (v:Value)(h:Ax9 P fn (adv P st)=some v)(hp:Post.post v u m):G P fn Post st u m:=by
 refine G.stp ?_;generalize adv P st=st' at h;obtain⟨g,s⟩:=st';unfold Ax9 at h;simp only at h;split at h
 ·split at h
  ·rename_i l hl;simp at h;subst h;refine⟨?_⟩;intro c ρ a w d e;exact wp_ret (K4 (e.ends fun w' b=>⟨Uh (a:=⟨a.tmps,[]⟩) b hl,_,_,_,rfl,b.gd,b.gr,hp⟩).1 _)
  cases h
 ·split at h
  ·rename_i l hl;simp at h;subst h;refine⟨?_⟩;intro c ρ a w d e;exact (e.ends fun w' b=>⟨Uh (a:=⟨a.tmps,[]⟩) b hl,_,_,_,rfl,b.gd,b.gr,hp⟩).2
  cases h
 cases h
end rules
end
end Go.Proofs.YtdgncafgglafjaaGreatDoor
