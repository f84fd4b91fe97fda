/- Parts of one proof, joined by a program. -/
import Derived.Orders
import Derived.KernelRfl
import Derived.Laws.CopyRow
import Derived.Laws.World
import Derived.Laws.Entries
import Derived.RangeFuncRecord
set_option linter.defProp false
set_option linter.unusedVariables false
set_option linter.unusedSimpArgs false
set_option linter.unusedSectionVars false
set_option maxHeartbeats 16000000
namespace Go.Proofs.YtnjlhkppabfebaaGreatDoor
def A08:=@Nat.le_refl
def A04:=@Nat.le_trans
def A2e:=@Nat.lt_or_ge
def A43:=@Array.getElem?_eq_none
def A2s:=@Nat.lt_of_lt_of_le
def A87:=@Bool.not_eq_true
def A1y:=@Nat.eq_of_beq_eq_true
def A7x:=@Array.getElem?_setIfInBounds_self
def A2m:=@Array.getElem?_setIfInBounds_ne
def A95:=@Array.getElem?_push
def A1f:=@Option.some.injEq
def A1k:=@List.mem_of_getElem?
def A6i:=@List.foldl_cons
def A3f:=@List.length_cons
def A1n:=@List.take_add_one
def A96:=@List.take_set_of_le
def A44:=@List.getElem?_set_self
def A67:=@List.drop_set_of_lt
def A6j:=@Array.ext'
def A3s:=@Nat.add_zero
def A3o:=@Array.length_toList
def A99:=@Array.foldl_toList
def A1m:=@Bool.and_eq_true
def A8a:=@Nat.le_of_ble_eq_true
def A9p:=@List.mapM_cons
def A3y:=@List.getElem?_take
def A39:=@List.getElem?_drop
def A1o:=@List.all_eq_true
def A3j:=@List.getElem?_toArray
def A5x:=@Array.toArray_toList
def A81:=@List.mapM_toArray
def A1h:=@List.mem_append
def A27:=@List.mem_of_mem_take
def A3x:=@List.mem_of_mem_drop
def A2k:=@List.append_assoc
def A5y:=@List.getElem?_append
def A1e:=@List.length_take
def A4a:=@Nat.min_eq_left
def A2i:=@Prod.mk.injEq
def A7s:=@List.size_toArray
def A8f:=@Nat.blt_eq
def A3m:=@Classical.byContradiction
def A4b:=@Bool.or_eq_true
def A24:=@List.mem_append_left
def Baa:=@List.mem_filterMap
def A9j:=@Bool.eq_iff_iff
def A9y:=@Array.map_congr_left
def A41:=@List.map_congr_left
def A88:=@List.mem_toArray
def A1b:=@List.mem_map
def A28:=@Option.some.inj
def A12:=@List.mem_singleton
def A72:=@Bool.not_true
def A80:=@Bool.false_or
def A5h:=@List.any_eq_true
def A2f:=@List.mem_cons_of_mem
def A3w:=@Bool.not_eq_true'
def A8b:=@Bool.and_eq_false_iff
def A7a:=@List.mem_filter
def A6q:=@List.mem_range
def A2v:=@Array.getElem?_eq_getElem
def A4c:=@Option.map_some
def A4w:=@Option.getD_some
def Bab:=@Array.all_eq_true'
def A2l:=@List.eq_nil_of_length_eq_zero
def A2t:=@Array.getD_eq_getD_getElem?
def A1g:=@List.mem_cons
def A34:=@List.rel_of_pairwise_cons
def A6k:=@List.append_of_mem
def A35:=@List.pairwise_append
def A4p:=@List.nodup_append
def A4j:=@List.nodup_cons
def A2u:=@List.map_cons
def A3g:=@List.cons.injEq
def A4l:=@List.mem_cons_self
def A5s:=@Array.getElem?_append_left
section
theorem kV.{u} {α:Sort u}{a b:α}(h:a=b:=by kernel_rfl):a=b:=h
theorem oV {p:Prop}(h:p:=by omega):p:=h
theorem mV {p:Prop}(h:p:=by simp):p:=h
theorem dV {p:Prop}(h:p:=by dsimp only;omega):p:=h
theorem gV {p:Prop}(h:p:=by simp;omega):p:=h
theorem jV {p:Prop}(h:p:=by decide +kernel):p:=h
theorem fV {p:Prop}(h:p:=by decide):p:=h
end
section
variable {e g:Nat}{o:Obj}{w:World}
abbrev PH:=Nat->Option Obj
def PH.mt:PH:=fun _=>none
def Fj (x:PH)(w:World):Prop:=∀ g o,x g=some o->w.heap[g]?=some o
def Hp (x y:PH):Prop:=∀ g,x g=none\/y g=none
def PH.le (x y:PH):Prop:=∀ g o,x g=some o->y g=some o
def Adw (u:PH)(w:World):Prop:=∀ (g:Nat) (cs:Array Value) (t:TypeId) (fr:Nat×Nat) (j:Nat) (z:Int),w.heap[g]?=some (.cells cs t fr)->cs[j]?=some (.int .u64 z)->u g=some (.cells cs t fr)
structure Bv (u m:PH)(w:World):Prop where
 pu:Fj u w
 pm:Fj m w
 ap:Hp u m
 cl:Adw u w
class Cl where
 on:Prop
instance (priority:=low) Cl.no:Cl:=⟨False⟩
structure Ok (w w':World):Prop where
 tape:w'.tape=w.tape
 dr:w.drawn<=w'.drawn
def Ok.refl (w:World):Ok w w:=⟨rfl,A08 _⟩
def Ok.trans {a b c:World}(h:Ok a b)(k:Ok b c):Ok a c:=⟨k.tape.trans h.tape,A04 h.dr k.dr⟩
variable [Fl:Cl]
structure B0 (u m:PH)(w:World)(u' m':PH)(w':World):Prop where
 sz:w.heap.size<=w'.heap.size
 old:∀ g,g<w.heap.size->m g=none->w'.heap[g]?=w.heap[g]?
 us:∀ g,g<w.heap.size->u' g=u g
 ms:∀ g,g<w.heap.size->m g=none->m' g=none
 io:w'.os=w.os/\w'.output=w.output
 dr:Fl.on->Ok w w'
def Aw (h:w.heap[g]?=some o):g<w.heap.size:=by
 rcases A2e g w.heap.size with a|a
 ·exact a
 simp[A43 a]at h
def Fj.lt {x:PH}(h:Fj x w)(a:x g=some o):g<w.heap.size:=Aw (h g o a)
def Fj.none {x:PH}{w:World}(h:Fj x w){g:Nat}(a:w.heap.size<=g):x g=none:=by
 cases hx:x g with
 |none=>rfl
 |some o=>have:=h.lt hx;omega
def B0.refl (u m:PH)(w:World):B0 u m w u m w:=⟨A08 _,fun _ _ _=>rfl,fun _ _=>rfl,fun _ _ h=>h,⟨rfl,rfl⟩,fun _=>Ok.refl w⟩
def B0.trans {u m j c l d:PH}{w n p:World}(h:B0 u m w j c n)(k:B0 j c n l d p):B0 u m w l d p :=
 ⟨A04 h.sz k.sz,fun g a b=>(k.old g (A2s a h.sz) (h.ms g a b)).trans (h.old g a b),
  fun g a=>(k.us g (A2s a h.sz)).trans (h.us g a),fun g a b=>k.ms g (A2s a h.sz) (h.ms g a b),⟨k.io.1.trans h.io.1,k.io.2.trans h.io.2⟩,fun f=>(h.dr f).trans (k.dr f)⟩
def B0.le {u m b c:PH}{w w':World}(h:B0 u m w b c w')(hp:Fj u w):PH.le u b :=
 fun g o a=>by rw[h.us g (hp.lt a)];exact a
def PH.le_refl (u:PH):PH.le u u:=fun _ _ h=>h
def PH.le.trans {u v x:PH}(h:PH.le u v)(k:PH.le v x):PH.le u x:=fun g o a=>k g o (h g o a)
inductive SV where
 |junk
 |v (x:Value)
 |p (k off:Nat)
def SV.den (ρ:Nat->Nat):SV->Value
 |.junk=>undef
 |.v x=>x
 |.p k off=>.pointer (some ⟨ρ k,off,none⟩)
structure Blk where
 t:TypeId
 cells:List SV
structure S where
 n:Nat
 tm:Nat->SV
 hp:Nat->Option Blk
def S.put (s:S)(d:Option Nat)(x:SV):S :=
 match d with
 |none=>s
 |some d=>{ s with tm:=fun e=>cond (Nat.beq e d) x (s.tm e) }
def S.setb (s:S)(w:Option (Nat×Blk)):S :=
 match w with
 |none=>s
 |some (k,b)=>{ s with hp:=fun j=>cond (Nat.beq j k) (some b) (s.hp j) }
def S.ev (s:S):Operand->SV
 |.tmp t=>s.tm t
 |.const v=>.v v
 |.global g=>.v (.pointer (some ⟨g,0,none⟩))
 |.func f=>.v (.func (.func f) #[] #[])
def Az (s:S)(d:Nat)(x:SV):(s.put (some d) x).tm d=x:=by simp[S.put]
def Ct (s:S)(d:Nat)(x:SV)(h:e≠d):(s.put (some d) x).tm e=s.tm e:=by
 have:Nat.beq e d=false:=by rw[<-A87];exact fun a=>h (A1y a)
 simp[S.put,this]
def Gi (s:S)(d:Option Nat)(x:SV)(h:d≠some e):(s.put d x).tm e=s.tm e:=by
 cases d with
 |none=>rfl
 |some d=>exact Ct s d x (fun a=>h (by rw[a]))
def Du (s:S)(d:Option Nat)(x:SV):(s.put d x).hp=s.hp:=by cases d<;>rfl
def Ft (s:S)(w:Option (Nat×Blk)):(s.setb w).tm=s.tm:=by rcases w with _|⟨k,b⟩<;>rfl
theorem Bo (s:S)(k:Nat)(b:Blk):(s.setb (some (k,b))).hp k=some b:=by simp[S.setb]
def Be (s:S)(k:Nat)(b:Blk){j:Nat}(h:j≠k):(s.setb (some (k,b))).hp j=s.hp j:=by
 have:Nat.beq j k=false:=by rw[<-A87];exact fun a=>h (A1y a)
 simp[S.setb,this]
def Abh (s:S)(d:Option Nat)(x:SV):(s.put d x).n=s.n:=by cases d<;>rfl
def Ul (s:S)(w:Option (Nat×Blk)):(s.setb w).n=s.n:=by rcases w with _|⟨k,b⟩<;>rfl
def S.ext' {s t:S}(a:s.n=t.n)(h:s.tm=t.tm)(k:s.hp=t.hp):s=t:=by cases s;cases t;simp_all
def Afo (s:S){d e:Option Nat}(x y:SV)(h:∀ k,d=some k->e≠some k):(s.put d x).put e y=(s.put e y).put d x:=by
 refine S.ext' (by simp only[Abh]) (funext fun i=>?_) (by simp only[Du]);by_cases b:d=some i
 ·have a:e≠some i:=h i b;subst b;rw[Gi _ _ _ a,Az,Az]
 rw[Gi _ d x b];by_cases a:e=some i
 ·subst a;rw[Az,Az]
 rw[Gi _ _ _ a,Gi _ _ _ a,Gi _ _ _ b]
def Rt (s:S)(d:Option Nat)(x:SV)(w:Option (Nat×Blk)):(s.setb w).put d x=(s.put d x).setb w:=by
 cases d<;>rcases w with _|⟨k,b⟩<;>rfl
def An6 (s:S)(w w':Option (Nat×Blk))(h:∀ k b a b',w=some (k,b)->w'=some (a,b')->k≠a):(s.setb w).setb w'=(s.setb w').setb w:=by
 rcases w with _|⟨k,b⟩
 ·rfl
 rcases w' with _|⟨a,b'⟩
 ·rfl
 have f:=h k b a b' rfl rfl;refine S.ext' rfl rfl (funext fun i=>?_);by_cases c:i=k
 ·subst c;rw[Be _ _ _ f,Bo,Bo]
 by_cases d:i=a
 ·subst d;rw[Bo,Be _ _ _ c,Bo]
 rw[Be _ _ _ d,Be _ _ _ c,Be _ _ _ c,Be _ _ _ d]
def Apk (ρ:Nat->Nat)(b:Blk)(o:Option Obj):Prop :=
 ∃ cs:Array Value,o=some (.cells cs b.t (0,0))/\cs.size=b.cells.length/\∀ (i:Nat) (x:SV),b.cells[i]?=some x->x≠.junk->cs[i]?=some (x.den ρ)
structure Cx where
 w0:World
 u0:PH
 m0:PH
def Xm (r:Nat):Deferred:={ target:=.collected r,args:=#[] }
class Co where
 dl:List Deferred
instance (priority:=low) Co.no:Co:=⟨[]⟩
class Pu where
 b:Bool
instance (priority:=low) Pu.no:Pu:=⟨false⟩
def U3 (d:Deferred):Bool:=match d.target with|.collected _=>true|_=>false
def Agv [Co](n0:Nat)(u m:PH)(w:World)(dl:List Deferred):Prop:=∃ ds:List Nat,ds.Nodup/\dl.filter U3=ds.map Xm/\dl.filter (fun d=>!U3 d)=Co.dl/\∀ r∈ds,w.heap[r]?=some (.deferred (some []))/\n0<=r/\u r=none/\m r=none
def Agv.nil (b:Nat)(u m:PH)(w:World):Agv b u m w []:=⟨[],.nil,rfl,rfl,fun r a=>by cases a⟩
def Agv.of [Co]{b:Nat}{u m j f:PH}{w w':World}{c:List Deferred}(h:Agv b u m w c)
 (B:∀ r,w.heap[r]?=some (.deferred (some []))->b<=r->u r=none->m r=none->w'.heap[r]?=some (.deferred (some []))/\j r=none/\f r=none):Agv b j f w' c:=by
 obtain⟨k,y,z,a,A⟩:=h;refine⟨k,y,z,a,fun r C=>?_⟩;obtain⟨l,d,n,p⟩:=A r C;obtain⟨q,t,v⟩:=B r l d n p;exact⟨q,d,t,v⟩
def On (s:S):Prop:=(∀ d k off,s.tm d=.p k off->s.hp k≠none)/\(∀ j b k off,s.hp j=some b->SV.p k off∈b.cells->s.hp k≠none)
structure Rel [Co](c:Cx)(s:S)(u m:PH)(ρ:Nat->Nat)(a:Act)(w:World):Prop where
 sz:a.tmps.size=s.n
 tm:∀ d,s.tm d≠.junk->a.tmps[d]?=some ((s.tm d).den ρ)
 df:Agv c.w0.heap.size u m w a.defers
 box:∀ k b,s.hp k=some b->Apk ρ b (w.heap[ρ k]?)/\c.w0.heap.size<=ρ k/\u (ρ k)=none/\m (ρ k)=none
 inj:∀ k j,s.hp k≠none->s.hp j≠none->ρ k=ρ j->k=j
 lv:On s
 gd:Bv u m w
 gr:B0 c.u0 c.m0 c.w0 u m w
def Rel.eval [Co]{c:Cx}{s:S}{u m:PH}{ρ:Nat->Nat}{a:Act}{w:World}(h:Rel c s u m ρ a w)(x:Operand)(b:s.ev x≠.junk):a.eval x=(s.ev x).den ρ:=by
 cases x with
 |tmp t=>have:=h.tm t b;simp[Act.eval,S.ev,this]
 |const v=>rfl
 |global g=>rfl
 |func f=>rfl
end
section
variable {g:Nat}{v:Value}
variable [Cl] [Co]
def Ax:Value->Bool
 |.agg _|.tuple _=>false
 |.int .u64 _=>false
 |_=>true
def Gl (h:Ax v=true):v.oneCell'=true:=by
 unfold Ax at h;split at h<;>simp_all [Value.oneCell']
 all_goals (cases v<;>simp_all)
def Kr (h:Ax v=true)(z:Int):v≠.int .u64 z:=by rintro rfl;simp[Ax]at h
section rel
variable {c:Cx} {s:S} {u m:PH} {ρ:Nat->Nat} {a:Act} {w:World}
def Rel.put (h:Rel c s u m ρ a w){d:Option Nat}{x:SV}{y:Value}(D:x≠.junk->y=x.den ρ)(A:∀ k off,x=.p k off->s.hp k≠none)(t:∀ e,d=some e->e<s.n) :
 Rel c (s.put d x) u m ρ (a.put d y) w:=by
 cases d with
 |none=>exact h
 |some d =>
  have z:=t d rfl;have C:=h.sz;refine⟨by simpa[Act.put,S.put] using h.sz,fun e l=>?_,by simpa[Act.put] using h.df,fun k b q=>?_,fun k j r o=>?_,⟨fun e k off l=>?_,fun j b k off o B=>?_⟩,h.gd,h.gr⟩
  ·by_cases f:e=d
   ·subst f;rw[Az]at l⊢;simp only[Act.put];rw[A7x];simp[show e<a.tmps.size by omega,D l]
   rw[Ct _ _ _ f]at l⊢;simp only[Act.put];rw[A2m (fun h=>f h.symm)];exact h.tm e l
  ·rw[Du]at q;exact h.box k b q
  ·rw[Du]at r o;exact h.inj k j r o
  ·rw[Du];by_cases f:e=d
   ·subst f;rw[Az]at l;exact A k off l
   rw[Ct _ _ _ f]at l;exact h.lv.1 e k off l
  rw[Du]at o⊢;exact h.lv.2 j b k off o B
def Aq (w:World)(o:Obj)(h:g<w.heap.size):(w.alloc o).heap[g]?=w.heap[g]?:=by
 show (w.heap.push o)[g]?=_;rw[A95,if_neg (Nat.ne_of_lt h)]
def Cn (w:World)(o:Obj):(w.alloc o).heap[w.heap.size]?=some o:=by
 show (w.heap.push o)[w.heap.size]?=_;rw[A95,if_pos rfl]
def B6 (w:World)(o:Obj):(w.alloc o).heap.size=w.heap.size+1:=Array.size_push ..
def Bv.alloc (h:Bv u m w){cs:Array Value}{t:TypeId}{fr:Nat×Nat}(n:∀ (j:Nat) (z:Int),cs[j]?≠some (.int .u64 z)):Bv u m (w.alloc (.cells cs t fr)):=by
 refine⟨fun g o b=>?_,fun g o b=>?_,h.ap,fun g d p e j z b l=>?_⟩
 ·rw[Aq _ _ (h.pu.lt b)];exact h.pu g o b
 ·rw[Aq _ _ (h.pm.lt b)];exact h.pm g o b
 have k:=Aw b;rw[B6]at k;by_cases f:g=w.heap.size
 ·subst f;rw[Cn]at b;simp only[A1f,Obj.cells.injEq]at b;obtain⟨rfl,rfl,rfl⟩:=b;exact absurd l (n j z)
 rw[Aq _ _ oV]at b;exact h.cl g d p e j z b l
def B0.alloc {d m0:PH}{e:World}(h:B0 d m0 e u m w)(o:Obj):B0 d m0 e u m (w.alloc o) :=
 ⟨by rw[B6];have:=h.sz;omega,fun g b j=>by rw[Aq _ _ (A2s b h.sz)];exact h.old g b j,h.us,h.ms,h.io,fun f=>⟨(h.dr f).tape,(h.dr f).dr⟩⟩
def Acp {ρ:Nat->Nat}{k g:Nat}{x:SV}(b:∀ off,x≠.p k off):x.den (fun j=>if j=k then g else ρ j)=x.den ρ:=by
 cases x with
 |junk=>rfl
 |v x=>rfl
 |p j off =>
  have:j≠k:=fun e=>b off (by rw[e]);simp[SV.den,this]
def Rel.alloc (h:Rel c s u m ρ a w){k:Nat}(A:s.hp k=none){b:Blk}{cs:Array Value}(B:cs.size=b.cells.length)(H:∀ (i:Nat) (x:SV),b.cells[i]?=some x->x≠.junk->cs[i]?=some (x.den ρ))
 (K:∀ j off,SV.p j off∈b.cells->s.hp j≠none) (Q:∀ (j:Nat) (z:Int),cs[j]?≠some (.int .u64 z)) :
 Rel c (s.setb (some (k,b))) u m (fun j=>if j=k then w.heap.size else ρ j) a (w.alloc (.cells cs b.t)):=by
 have O:∀ j b',s.hp j=some b'->j≠k:=fun j b' n e=>by rw[e,A]at n;cases n
 have D:∀ j,s.hp j≠none->j≠k:=fun j n e=>n (by rw[e,A]);have C:∀ j,s.hp j≠none->ρ j<w.heap.size:=fun j n=>by
  cases o:s.hp j with
  |none=>exact absurd o n
  |some b'=>obtain⟨⟨q,e,_⟩,_⟩:=h.box j b' o;exact Aw e
 refine⟨by rw[Ul];exact h.sz,fun d y=>?_,h.df.of fun r e _ P F=>⟨by rw[Aq _ _ (Aw e)];exact e,P,F⟩,fun j b' o=>?_,fun i j hi n E=>?_,⟨fun d j off y=>?_,fun i b' j off hi F=>?_⟩,h.gd.alloc Q,h.gr.alloc _⟩
 ·rw[Ft]at y⊢;rw[h.tm d y,Acp (fun off e=>h.lv.1 d k off e A)]
 ·by_cases f:j=k
  ·subst f;rw[Bo]at o;simp only[A1f]at o;subst o;simp only[if_true];refine⟨⟨cs,by rw[Cn],B,fun i x hi I=>?_⟩,h.gr.sz,?_,?_⟩
   ·rw[H i x hi I,Acp (fun off e=>?_)];exact K j off (e▸A1k hi) A
   ·exact h.gd.pu.none (A08 _)
   exact h.gd.pm.none (A08 _)
  rw[Be _ _ _ f]at o;simp only[if_neg f];obtain⟨⟨q,J,L,N⟩,r⟩:=h.box j b' o;refine⟨⟨q,by rw[Aq _ _ (Aw J)];exact J,L,fun i x hi I=>?_⟩,r⟩;rw[N i x hi I,Acp (fun off e=>h.lv.2 j b' k off o (e▸A1k hi) A)]
 ·by_cases l:i=k
  ·by_cases f:j=k
   ·rw[l,f]
   rw[Be _ _ _ f]at n;simp only[l,if_true,if_neg f]at E;have:=C j n;omega
  rw[Be _ _ _ l]at hi;by_cases f:j=k
  ·simp only[f,if_true,if_neg l]at E;have:=C i hi;omega
  rw[Be _ _ _ f]at n;simp only[if_neg l,if_neg f]at E;exact h.inj i j hi n E
 ·rw[Ft]at y;have:=h.lv.1 d j off y;rw[Be _ _ _ (D j this)];exact this
 by_cases f:j=k
 ·rw[f,Bo];simp
 rw[Be _ _ _ f];by_cases l:i=k
 ·subst l;rw[Bo]at hi;simp only[A1f]at hi;subst hi;exact K j off F
 rw[Be _ _ _ l]at hi;exact h.lv.2 i b' j off hi F
def Rel.store (h:Rel c s u m ρ a w){k:Nat}{b b':Blk}(O:s.hp k=some b)(Y:b'.t=b.t){cs:Array Value}(F:cs.size=b'.cells.length)(N:∀ (i:Nat) (x:SV),b'.cells[i]?=some x->x≠.junk->cs[i]?=some (x.den ρ))
 (X:∀ j off,SV.p j off∈b'.cells->s.hp j≠none) (hw:∀ (j:Nat) (z:Int),cs[j]?≠some (.int .u64 z)) :
 Rel c (s.setb (some (k,b'))) u m ρ a (w.setRow (ρ k) cs):=by
 obtain⟨⟨K,Q,_,_⟩,r0,T,U⟩:=h.box k b O;have l:∀ g,g≠ρ k->(w.setRow (ρ k) cs).heap[g]?=w.heap[g]?:=fun g q=>setRow_other w (ρ k) g cs q;have A:(w.setRow (ρ k) cs).heap[ρ k]?=some (.cells cs b.t (0,0)):=setRow_heap w (ρ k) K cs _ _ Q;refine⟨by rw[Ul];exact h.sz,fun d D=>by rw[Ft]at D⊢;exact h.tm d D,h.df.of fun r e _ Z C=>⟨by rw[l _ (fun V=>by rw[V,Q]at e;cases e)];exact e,Z,C⟩,fun j I B=>?_,fun i j hi H W=>?_,⟨fun d j off D=>?_,fun i I j off hi C=>?_⟩,⟨?_,?_,h.gd.ap,?_⟩,⟨?_,?_,h.gr.us,h.gr.ms,h.gr.io,fun f=>⟨(h.gr.dr f).tape,(h.gr.dr f).dr⟩⟩⟩
 ·by_cases n:j=k
  ·subst n;rw[Bo]at B;simp only[A1f]at B;subst B;exact⟨⟨cs,by rw[A,Y],F,N⟩,r0,T,U⟩
  rw[Be _ _ _ n]at B;have P:ρ j≠ρ k:=fun e=>n (h.inj j k (by rw[B];simp) (by rw[O];simp) e);rw[l _ P];exact h.box j I B
 ·have R:∀ i,(s.setb (some (k,b'))).hp i≠none->s.hp i≠none:=fun i hi=>by
   by_cases y:i=k
   ·rw[y,O];simp
   rw[Be _ _ _ y]at hi;exact hi
  exact h.inj i j (R i hi) (R j H) W
 ·rw[Ft]at D;by_cases n:j=k
  ·rw[n,Bo];simp
  rw[Be _ _ _ n];exact h.lv.1 d j off D
 ·by_cases n:j=k
  ·rw[n,Bo];simp
  rw[Be _ _ _ n];by_cases y:i=k
  ·subst y;rw[Bo]at hi;simp only[A1f]at hi;subst hi;exact X j off C
  rw[Be _ _ _ y]at hi;exact h.lv.2 i I j off hi C
 ·intro g o q;rw[l g (fun e=>by rw[e,T]at q;cases q)];exact h.gd.pu g o q
 ·intro g o q;rw[l g (fun e=>by rw[e,U]at q;cases q)];exact h.gd.pm g o q
 ·intro g J t' L j z q H;by_cases E:g=ρ k
  ·rw[E,A]at q;simp only[A1f,Obj.cells.injEq]at q;obtain⟨rfl,_,_⟩:=q;exact absurd H (hw j z)
  rw[l g E]at q;exact h.gd.cl g J t' L j z q H
 ·rw[setRow_size];exact h.gr.sz
 intro g q C;rw[l g oV];exact h.gr.old g q C
end rel
end
section
def iV (x:Int):SV:=.v (.int .i64 x)
def sV (a:Option Addr)(n c:Nat):SV:=.v (.slice a n c)
def bV (b:Bool):SV:=.v (.bool b)
end
section fill
def Abd (off:Nat):∀ (l:List Value) (k:Nat) (cells:Array Value),off+k+l.length<=cells.size ->
 (((l.zipIdx k).foldl (fun (cs:Array Value) (p:Value×Nat)=>cs.setIfInBounds (off+p.2) p.1) cells).toList)=cells.toList.take (off+k)++l++cells.toList.drop (off+k+l.length)
 |[],k,cells,h=>mV
 |v::l,k,cells,h=>by
  have d:=Abd off l (k+1) (cells.setIfInBounds (off+k) v) (by simp at h⊢;omega);simp only[List.zipIdx_cons,A6i];rw[d];simp only[Array.toList_setIfInBounds,A3f];have a:off+k<cells.toList.length:=by simp at h⊢;omega
  have b:(cells.toList.set (off+k) v).take (off+(k+1))=cells.toList.take (off+k)++[v]:=by
   rw[show off+(k+1)=off+k+1 by omega,A1n,A96 (A08 _),A44 a];rfl
  have c:(cells.toList.set (off+k) v).drop (off+(k+1)+l.length)=cells.toList.drop (off+k+(l.length+1)):=by
   rw[A67 oV];congr 1;omega
  rw[b,c];simp
def Aau (a:Nat->Option (Nat×Nat))(cells:Array Value)(i off size:Nat)(v:Value)(rest:List (Nat×Value))(hp:a i=some (off,size))(b:v.cells.size=size)(c:off+size<=cells.size) :
 Instr.fill a cells ((i,v)::rest)=Instr.fill a (cells.toList.take off++v.cells.toList++cells.toList.drop (off+size)).toArray rest:=by
 have e:v.cells.zipIdx.foldl (fun (cs:Array Value) (p:Value×Nat)=>cs.setIfInBounds (off+p.2) p.1) cells=(cells.toList.take off++v.cells.toList++cells.toList.drop (off+size)).toArray:=by
  apply A6j;have:=Abd off v.cells.toList 0 cells gV;simp only[A3s,A3o,b]at this;rw[<-this,<-A99,Array.toList_zipIdx]
 rw[Instr.fill.eq_2];simp only[hp];rw[if_neg (by simp[b];omega),<-e]
def Sx (P:Program):List Field->Option (List (Nat×Nat))
 |[]=>some []
 |f::l=>match P.info? f.type with
  |some i=>match Sx P l with|some r=>some ((f.offset,i.size)::r)|none=>none
  |none=>none
def Aeb (pl:List (Nat×Nat)):List Value->List (Nat×Value)->Option (List Value)
 |cells,[]=>some cells
 |cells,(i,v)::r=>match pl[i]? with
  |some (off,size)=>cond (Nat.beq v.cells.size size&&Nat.ble (off+size) cells.length) (Aeb pl (cells.take off++v.cells.toList++cells.drop (off+size)) r) none
  |none=>none
def Wb (b:List (Nat×Nat)):∀ (a:List (Nat×Value)) (cells:List Value) (r:List Value),Aeb b cells a=some r->Instr.fill (fun i=>b[i]?) cells.toArray a=some r.toArray
 |[],cells,r,h=>by simp[Aeb]at h;simp[Instr.fill,h]
 |(i,v)::a,cells,r,h=>by
  unfold Aeb at h;split at h
  ·rename_i off size hp;cases hc:(Nat.beq v.cells.size size&&Nat.ble (off+size) cells.length) with
   |false=>simp[hc]at h
   |true =>
    simp only[hc,cond_true]at h;simp only[A1m]at hc;rw[Aau _ _ i off size v a hp (A1y hc.1) (by simpa using A8a hc.2)];exact Wb b a _ r h
  cases h
def X6 {P:Program}{w:World}:∀ (l:List Field) (r:List (Nat×Nat)),Sx P l=some r->(l.mapM (fun f=>do pure (f.offset,<-sizeOf f.type)):Sem (List (Nat×Nat))).run P w=.ok r w
 |[],r,h=>by simp[Sx]at h;subst h;simp
 |f::l,r,h=>by
  unfold Sx at h;split at h
  ·rename_i i hi;split at h
   ·rename_i r' hr;simp at h;subst h;rw[A9p];have a:=X6 (P:=P) (w:=w) l r' hr;simp only[Sem.run_bind,sizeOf,typeInfo,run_program,Result.andThen_ok,hi,Sem.run_pure]at a⊢;rw[a];rfl
   cases h
  cases h
end fill
section
variable {b:Blk}{g i:Nat}{l:List SV}{o:Oper}{t:TypeId}{x:SV}
variable [Cl] [Co]
def Kp:List SV->Option (List Value)
 |[]=>some []
 |.v x::l=>match Kp l with|some r=>some (x::r)|none=>none
 |_=>none
def Qj (P:Program)(t:TypeId):Option Bool :=
 match P.underlying t with
 |some (.struct _)|some (.array _ _)=>some true
 |some _=>some false
 |none=>none
def szB (P:Program)(t:TypeId):Option Nat:=match P.info? t with|some i=>some i.size|none=>none
def ldv (P:Program)(t:TypeId)(cells:List SV)(off:Nat):Option SV :=
 match Qj P t with
 |some true =>
  match szB P t with
  |some n=>match Kp ((cells.drop off).take n) with
   |some l=>cond (Nat.beq l.length n) (some (.v (.agg l.toArray))) none
   |none=>none
  |none=>none
 |some false=>match cells[off]? with
  |some (.v x)=>some (.v x)
  |some (.p k o)=>some (.p k o)
  |_=>none
 |none=>none
def Ky:SV->Option (List SV)
 |.v x=>cond (x.cells.toList.all Ax) (some (x.cells.toList.map .v)) none
 |.p k off=>some [.p k off]
 |.junk=>none
def Nv (l:List SV)(off:Nat)(r:List SV):List SV:=l.take off++r++l.drop (off+r.length)
def Nw (P:Program)(t:TypeId)(f:Nat):Option Nat :=
 match P.underlying t with
 |some (.struct fs)=>match fs[f]? with
  |some fd=>match szB P fd.type with
   |some (_+1)=>some fd.offset
   |_=>none
  |none=>none
 |_=>none
def C2 (s:S)(x:Operand):Value:=match s.ev x with|.v y=>y|_=>undef
def isV:SV->Bool|.v _=>true|_=>false
def Kl (s:S)(o:Op):Bool:=o.operands.toList.all fun x=>isV (s.ev x)
def pv (P:Program)(env:Operand->Value)(o:Op):Option Value :=
 match o with
 |.extract x i=>match env x with|.tuple vs=>vs[i]?|_=>none
 |.pick c a b=>match env c with|.bool true=>some (env a)|.bool false=>some (env b)|_=>none
 |.makeFunc fn first captured=>some (.func fn (first.map env) (captured.map env))
 |.unOp .not _ x=>match env x with|.bool b=>some (.bool !b)|_=>none
 |.convert src dst x=>match P.underlying src with
  |some .string=>match P.underlying dst with
   |some .string=>match env x with|.string y=>some (.string y)|_=>none
   |_=>none
  |_=>none
 |.call { callee:=.builtin .len,args:=args,argTypes:=ts } =>
  match args[0]?,ts[0]? with
  |some x,some t=>match P.underlying t with
   |some (.slice _)=>match env x with|.slice _ n _=>some (.int .i64 n)|_=>none
   |some .string=>match env x with|.string y=>some (.int .i64 y.size)|_=>none
   |_=>none
  |_,_=>none
 |.nilCheck x=>match env x with|.pointer (some a)=>some (.pointer (some a))|_=>none
 |.build t ps=>match P.info? t with
  |some i=>match i.zero with
   |some z=>match P.underlying t with
    |some (.struct fs)=>match Sx P fs.toList with
     |some pl=>match Aeb pl z.cells.toList (ps.toList.map fun (i,x)=>(i,env x)) with|some l=>some (.agg l.toArray)|none=>none
     |none=>none
    |_=>none
   |none=>none
  |none=>none
 |.field t x f=>match P.underlying t with
  |some (.struct fs)=>match fs[f]? with
   |some fd=>match Qj P fd.type with
    |some false=>match env x with|.agg cs=>cs[fd.offset]?|_=>none
    |some true=>match szB P fd.type with
     |some n=>match env x with|.agg cs=>some (.agg (cs.extract fd.offset (fd.offset+n)))|_=>none
     |none=>none
    |none=>none
   |none=>none
  |_=>none
 |_=>none
def eff (P:Program)(name:Nat)(s:S)(o:Op):Option (SV×Option (Nat×Blk)) :=
 match o with
 |.move x=>some (s.ev x,none)
 |.assign x=>some (s.ev x,none)
 |.alloc t=>match P.info? t with
  |some i=>match i.zero with
   |some z=>match s.hp name with
    |none=>match Ky (.v z) with
     |some l=>some (.p name 0,some (name,⟨t,l⟩))
     |none=>none
    |some _=>none
   |none=>none
  |none=>none
 |.box t x=>match s.hp name with
  |none=>match Ky (s.ev x) with
   |some l=>some (.p name 0,some (name,⟨t,l⟩))
   |none=>none
  |some _=>none
 |.load t x=>match s.ev x with
  |.p k off=>match s.hp k with
   |some b=>match ldv P t b.cells off with|some y=>some (y,none)|none=>none
   |none=>none
  |_=>none
 |.store t x y=>match s.ev x with
  |.p k off=>match s.hp k with
   |some b=>match Ky (s.ev y) with
    |some l=>match szB P t with
     |some n=>cond (Nat.beq l.length n&&Nat.ble (off+n) b.cells.length) (some (.v undef,some (k,⟨b.t,Nv b.cells off l⟩))) none
     |none=>none
    |none=>none
   |none=>none
  |_=>none
 |.fieldAddr t x f=>match s.ev x with
  |.p k off=>match Nw P t f with|some fo=>some (.p k (off+fo),none)|none=>none
  |_=>none
 |o=>match Kl s o with
  |true=>match pv P (C2 s) o with|some y=>some (.v y,none)|none=>none
  |false=>none
section sound
variable {P:Program} {c:Cx} {s:S} {u m:PH} {ρ:Nat->Nat} {a:Act} {w:World}
def Aaw:∀ {l:List SV} {r:List Value},Kp l=some r->l=r.map .v
 |[],r,h=>by simp[Kp]at h;simp[h]
 |.v x::l,r,h=>by
  unfold Kp at h;cases hl:Kp l with
  |none=>simp[hl]at h
  |some r'=>simp[hl]at h;subst h;simp[<-Aaw hl]
 |.junk::l,r,h=>by simp[Kp]at h
 |.p k off::l,r,h=>by simp[Kp]at h
theorem Eo {b:Bool}(h:Qj P t=some b)(w:World):(isAgg t).run P w=.ok b w:=by
 unfold Qj at h;unfold isAgg;cases hd:P.underlying t with
 |none=>grind
 |some d=>simp only[Sem.run_bind,run_underlying hd];cases d<;>simp_all
theorem Bf {n:Nat}(h:szB P t=some n)(w:World):(sizeOf t).run P w=.ok n w:=by
 unfold szB at h;unfold sizeOf typeInfo;cases hi:P.info? t with
 |none=>grind
 |some i=>simp_all
def Ed (g off j:Nat):(⟨g,off,none⟩:Addr).add j=⟨g,off+j,none⟩:=by unfold Addr.add;split<;>simp_all
def Bj3 {o:Option Obj}(h:Apk ρ b o)(f:w.heap[g]?=o)(hi:b.cells[i]?=some x)(j:x≠.junk):w.cell? ⟨g,i,none⟩=some (x.den ρ):=by
 obtain⟨cs,e,_,d⟩:=h;simp[World.cell?,f,e,d i x hi j]
theorem Ali {g off:Nat}{y:SV}(h:Apk ρ b (w.heap[g]?))(d:ldv P t b.cells off=some y) :
 (loadVar t ⟨g,off,none⟩).run P w=.ok (y.den ρ) w/\y≠.junk/\(∀ k o,y=.p k o->SV.p k o∈b.cells):=by
 unfold ldv at d;unfold loadVar;split at d
 ·rename_i ha;split at d
  ·rename_i n hn;split at d
   ·rename_i l hl;cases hlen:Nat.beq l.length n with
    |false=>grind
    |true =>
     simp[hlen]at d;subst d;have r:l.length=n:=A1y hlen;have A:=Aaw hl;have f:∀ j v,l[j]?=some v->w.cell? ((⟨g,off,none⟩:Addr).add j)=some v:=by
      intro j v z;rw[Ed];have q:((b.cells.drop off).take n)[j]?=some (.v v):=by grind
      rw[A3y]at q;split at q
      ·rw[A39]at q;exact Bj3 h rfl q mV
      cases q
     have:=run_loadCells_list (P:=P) w ⟨g,off,none⟩ l f;refine⟨?_,mV,mV⟩;simp only[Sem.run_bind,Eo ha,Result.andThen_ok,if_true,Bf hn];rw[<-r,this];rfl
   cases d
  cases d
 ·rename_i ha;split at d
  ·rename_i x hx;simp at d;subst d;have:=Bj3 h rfl hx mV;exact⟨by simp[Eo ha,this],mV,mV⟩
  ·rename_i k o hx;simp at d;subst d;have:=Bj3 h rfl hx mV;exact⟨by simp[Eo ha,this],mV,fun B o' e=>by simp at e;obtain⟨rfl,rfl⟩:=e;exact A1k hx⟩
  cases d
 grind
theorem Fw (h:Ky x=some l)(ρ:Nat->Nat) :
 l.map (·.den ρ)=(x.den ρ).cells.toList/\(∀ y∈l,y≠.junk)/\(∀ v∈l.map (SV.den ρ),Ax v=true)/\(∀ k o,SV.p k o∈l->x=.p k o)/\x≠.junk:=by
 cases x with
 |junk=>simp[Ky]at h
 |v x =>
  unfold Ky at h;cases hc:x.cells.toList.all Ax with
  |false=>grind
  |true =>
   simp only[hc,cond_true,A1f]at h;subst h;refine⟨by simp[SV.den,Function.comp_def],mV,?_,mV,mV⟩;intro v e;simp[SV.den]at e;rw[A1o]at hc;exact hc v (by simpa using e)
 |p k off =>
  simp[Ky]at h;subst h;refine⟨by simp[SV.den,Value.cells],mV,by simp[SV.den,Ax],?_,mV⟩;intro f o' d;simp at d;rw[d.1,d.2]
theorem An8 {v:List Value}(ρ:Nat->Nat)(h:l.map (·.den ρ)=v)(hi:l[i]?=some x):v.toArray[i]?=some (x.den ρ):=by grind
def Avu {l:List Value}(h:∀ v∈l,Ax v=true)(j:Nat)(z:Int):l.toArray[j]?≠some (.int .u64 z):=by
 intro e;rw[A3j]at e;exact Kr (h _ (A1k e)) z rfl
def Ya (t:TypeId)(v:Value):(newVar t v).run P w=.ok ⟨w.heap.size,0,none⟩ (w.alloc (.cells v.cells t)):=by
 simp[newVar,newRow]
def Rel.box_new (h:Rel c s u m ρ a w){k:Nat}(B:s.hp k=none)(C:Ky x=some l)(E:∀ j off,x=.p j off->s.hp j≠none)(t:TypeId){d:Option Nat}(A:∀ e,d=some e->e<s.n) :
 ∃ F,Rel c ((s.put d (.p k 0)).setb (some (k,⟨t,l⟩))) u m F (a.put d (.pointer (some ⟨w.heap.size,0,none⟩))) (w.alloc (.cells (x.den ρ).cells t)):=by
 obtain⟨f,H,q,r,_⟩:=Fw C ρ;have v:=h.alloc (k:=k) (b:=⟨t,l⟩) (cs:=(x.den ρ).cells) B (by rw[<-A3o,<-f];simp)
  (fun i y hi _=>by have:=An8 ρ f hi;simpa using this) (fun j off D=>E j off (r j off D))
  (fun j z=>by have:=Avu q j z;rw[f]at this;simpa using this)
 refine⟨fun j=>if j=k then w.heap.size else ρ j,?_⟩;rw[<-Rt];refine v.put (fun _=>by simp[SV.den]) (fun j off e=>?_) (by rw[Ul];exact A);simp only[SV.p.injEq]at e;rw[<-e.1,Bo];simp
theorem Hw (h:Rel c s u m ρ a w)(e:∀ cs b,o.op≠.select cs b)(d:Kl s o.op=true):execOp a.eval o=execOp (C2 s) o:=by
 refine execOp_congr o e fun x f=>?_;unfold Kl at d;rw[A1o]at d;have:=d x (by simpa using f);unfold isV at this;split at this
 ·rename_i y hy;rw[h.eval x (by rw[hy];simp),hy];simp[SV.den,C2,hy]
 grind
def Agc {d:Operand->Value}{y:Value}(h:pv P d o.op=some y)(w:World):(execOp d o).run P w=.ok (.value y) w:=by
 obtain⟨dst,op,type,pos,after,guard⟩:=o;unfold pv at h;simp only at h;split at h
 ·rename_i x i;split at h
  ·rename_i vs hvs;simp[execOp,Instr.extract,hvs,h]
  cases h
 ·rename_i c x y';split at h
  ·rename_i hc;simp at h;subst h;simp[execOp,hc,asBool]
  ·rename_i hc;simp at h;subst h;simp[execOp,hc,asBool]
  cases h
 ·simp at h;subst h;simp[execOp,Instr.makeFunc]
 ·rename_i t x;split at h
  ·rename_i b hb;simp at h;subst h;simp[execOp,Op.unary,hb]
  cases h
 ·rename_i src dst' x;split at h
  ·rename_i k;split at h
   ·rename_i q;split at h
    ·rename_i z hz;simp at h;subst h;simp[execOp,convert,run_underlying k,run_underlying q,hz]
    cases h
   cases h
  cases h
 ·rename_i args ts;split at h
  ·rename_i x t hx ht;have j:(args.map d)[0]?=some (d x):=by simp[hx]
   split at h
   ·rename_i e hu;split at h
    ·rename_i hz;simp at h;subst h;simp[execOp,resolve,invoke,builtin,Builtin.len_,j,ht,run_underlying hu,hz,goInt]
    cases h
   ·rename_i hu;split at h
    ·rename_i hz;simp at h;subst h;simp[execOp,resolve,invoke,builtin,Builtin.len_,j,ht,run_underlying hu,hz,goInt]
    cases h
   cases h
  cases h
 ·rename_i x;split at h
  ·rename_i z hz;simp at h;subst h;simp[execOp,hz]
  cases h
 ·rename_i t ps;split at h
  ·rename_i i hi;split at h
   ·rename_i z hz;split at h
    ·rename_i fs hu;split at h
     ·rename_i pl hpl;split at h
      ·rename_i l hl;simp at h;subst h;have k:=Wb pl _ _ _ hl;have q:=X6 (w:=w) fs.toList pl hpl;have e:(ps.map fun (p:Nat×Operand)=>(p.1,d p.2)).toList=ps.toList.map fun (p:Nat×Operand)=>(p.1,d p.2):=mV;simp only[execOp,Instr.build,zeroValue,typeInfo,Sem.run_bind,Sem.run_map,run_program,Result.andThen_ok,hi,hz,Sem.run_pure,run_underlying hu];rw[<-A5x (xs:=fs),A81];simp only[Sem.run_map,q,Result.andThen_ok,A3j];simp only[A5x]at k;rw[e,k];rfl
      cases h
     cases h
    cases h
   cases h
  cases h
 ·rename_i t x f;split at h
  ·rename_i fs hu;split at h
   ·rename_i fd hf;split at h
    ·rename_i ha;split at h
     ·rename_i cs hx;simp[execOp,Instr.field,run_underlying hu,hf,asAgg,hx,part,Eo ha,h]
     cases h
    ·rename_i ha;split at h
     ·rename_i n hn;split at h
      ·rename_i cs hx;simp at h;subst h;simp[execOp,Instr.field,run_underlying hu,hf,asAgg,hx,part,Eo ha,Bf hn]
      cases h
     cases h
    cases h
   cases h
  cases h
 cases h
end sound
end
section
variable {l r:List SV}{off:Nat}{x:SV}
variable [Cl] [Co]
section sound
variable {P:Program} {c:Cx} {s:S} {u m:PH} {ρ:Nat->Nat} {a:Act} {w:World}
def Ay2 (P:Program)(a:Act)(o:Oper)(w:World)(y:Value)(w':World):Prop :=
 (execOp a.eval o).run P w=.ok (.value y) w'\/((execOp a.eval o).run P w=.ok .skip w'/\y=undef)
def Ai4 (l r:List SV)(off:Nat)(h:off+r.length<=l.length):(Nv l off r).length=l.length:=by
 unfold Nv;simp;omega
def Yh (h:x∈Nv l off r):x∈l\/x∈r:=by
 unfold Nv at h;rcases A1h.1 h with h|h
 ·rcases A1h.1 h with h|h
  ·exact .inl (A27 h)
  exact .inr h
 exact .inl (A3x h)
def Aim (h:off+r.length<=l.length)(i:Nat):(Nv l off r)[i]?=if i<off then l[i]? else if i<off+r.length then r[i-off]? else l[i]?:=by
 unfold Nv;rw[A2k,A5y];simp only[A1e,A4a (show off<=l.length by omega)];split
 ·rw[A3y,if_pos (by assumption)]
 rw[A5y];by_cases b:i<off+r.length
 ·rw[if_pos oV,if_pos b]
 rw[if_neg oV,if_neg b,A39];congr 1;omega
def Akb {cs:List Value}{r:List Value}(h:off+r.length<=cs.length)(i:Nat):(cs.take off++r++cs.drop (off+r.length))[i]?=if i<off then cs[i]? else if i<off+r.length then r[i-off]? else cs[i]?:=by
 rw[A2k,A5y];simp only[A1e,A4a (show off<=cs.length by omega)];split
 ·rw[A3y,if_pos (by assumption)]
 rw[A5y];by_cases b:i<off+r.length
 ·rw[if_pos oV,if_pos b]
 rw[if_neg oV,if_neg b,A39];congr 1;omega
def Aav (h:Rel c s u m ρ a w){O:Nat}{o:Oper}{Z:Option (Nat×Blk)}(d:eff P O s o.op=some (x,Z))(E:∀ e,o.dst=some e->e<s.n) :
 ∃ C w' y,Ay2 P a o w y w'/\Rel c ((s.put o.dst x).setb Z) u m C (a.put o.dst y) w':=by
 obtain⟨dst,op,type,pos,after,guard⟩:=o;simp only at d E⊢;have mv:∀ z:Operand,∃ C w' y,(Result.ok (Next.value (a.eval z)) w=Result.ok (Next.value y) w')/\Rel c (s.put dst (s.ev z)) u m C (a.put dst y) w':=by
  intro z;refine⟨ρ,w,a.eval z,rfl,h.put (fun q=>h.eval z q) (fun k off q=>?_) E⟩;cases z with
  |tmp t=>exact h.lv.1 t k off q
  |const v=>cases q
  |global g=>cases q
  |func f=>cases q
 have B:∀ (z:Operand) (k off:Nat),s.ev z=.p k off->s.hp k≠none:=by
  intro z k off q;cases z with
  |tmp t=>exact h.lv.1 t k off q
  |const v=>cases q
  |global g=>cases q
  |func f=>cases q
 unfold eff at d;split at d
 ·rename_i z;simp only[A1f,A2i]at d;obtain⟨rfl,rfl⟩:=d;obtain⟨C,w',y,e,r⟩:=mv z;exact⟨C,w',y,.inl (by simpa[execOp] using e),r⟩
 ·rename_i z;simp only[A1f,A2i]at d;obtain⟨rfl,rfl⟩:=d;obtain⟨C,w',y,e,r⟩:=mv z;exact⟨C,w',y,.inl (by simpa[execOp] using e),r⟩
 ·rename_i t;split at d
  ·rename_i i hi;split at d
   ·rename_i z q;split at d
    ·rename_i hn;split at d
     ·rename_i l hl;simp only[A1f,A2i]at d;obtain⟨rfl,rfl⟩:=d;obtain⟨C,r⟩:=h.box_new hn hl mV t E;refine⟨C,_,_,.inl ?_,r⟩;simp[execOp,Instr.alloc,zeroValue,typeInfo,hi,q,Ya,SV.den]
     cases d
    cases d
   cases d
  cases d
 ·rename_i t z;split at d
  ·rename_i hn;split at d
   ·rename_i l hl;simp only[A1f,A2i]at d;obtain⟨rfl,rfl⟩:=d;obtain⟨C,r⟩:=h.box_new hn hl (fun j off q=>B z j off q) t E;refine⟨C,_,_,.inl ?_,r⟩;have q:=h.eval z (Fw hl ρ).2.2.2.2;simp[execOp,Instr.box,Ya,q]
   cases d
  cases d
 ·rename_i t z;split at d
  ·rename_i k off q;split at d
   ·rename_i b hb;split at d
    ·rename_i y hy;simp only[A1f,A2i]at d;obtain⟨rfl,rfl⟩:=d;obtain⟨h1,h2,h3⟩:=Ali (P:=P) (w:=w) (h.box k b hb).1 hy;have A:=h.eval z (by rw[q];simp);rw[q]at A;refine⟨ρ,w,y.den ρ,.inl ?_,h.put (fun _=>rfl) (fun U o' e=>h.lv.2 k b U o' hb (h3 U o' e)) E⟩;simp[execOp,Instr.loadAt,Instr.sureAddr,A,SV.den,h1]
    cases d
   cases d
  cases d
 ·rename_i t z y;split at d
  ·rename_i k off q;split at d
   ·rename_i b hb;split at d
    ·rename_i l hl;split at d
     ·rename_i n hn;cases hc:(Nat.beq l.length n&&Nat.ble (off+n) b.cells.length) with
      |false=>simp[hc]at d
      |true =>
       simp only[hc,cond_true,A1f,A2i]at d;obtain⟨rfl,rfl⟩:=d;simp only[A1m]at hc;have I:l.length=n:=A1y hc.1;have a0:off+n<=b.cells.length:=A8a hc.2;obtain⟨Q,e2,Y,e4,e5⟩:=Fw hl ρ;have A:=h.eval z (by rw[q];simp);rw[q]at A;have T:=h.eval y e5;obtain⟨⟨cs,W,c2,X⟩,r0,r1,r2⟩:=h.box k b hb;have D:((s.ev y).den ρ).cells.toList.length=n:=by rw[<-Q];simpa using I
       have L:=run_storeCells_at P (ρ k) off b.t ((s.ev y).den ρ).cells.toList 0 cs w W oV (fun v hv=>Gl (Y v (by rw[Q];exact hv)));have F:off+((s.ev y).den ρ).cells.toList.length<=cs.toList.length:=by simp at D⊢;omega
       refine⟨ρ,w.setRow (ρ k) (cs.toList.take off++((s.ev y).den ρ).cells.toList++cs.toList.drop (off+((s.ev y).den ρ).cells.toList.length)).toArray,undef,.inr ⟨?_,rfl⟩,?_⟩
       ·have R:((s.ev y).den ρ).cells.size=n:=by simpa using D
        have N:a.eval z=.pointer (some ⟨ρ k,off,none⟩):=A;simp only[execOp,Instr.storeAt,Instr.sureAddr,N,T,storeVar,Sem.run_bind,Sem.run_pure,Result.andThen_ok,Bf hn,R,ne_eq,not_true_eq_false,if_false];simp only[A3s]at L;simp[L]
       rw[<-Rt];refine Rel.put (x:=.v undef) ?_ (fun _=>rfl) mV (by rw[Ul];exact E);refine h.store (b':=⟨b.t,Nv b.cells off l⟩) hb rfl ?_ (fun i x hi hx=>?_) (fun j o J=>?_) (fun j V=>?_)
       ·simp only[A7s];rw[Ai4 _ _ _ oV];simp at D⊢;omega
       ·rw[A3j,Akb F];rw[Aim oV]at hi;rw[D];rw[I]at hi;split
        ·rename_i hlt;rw[if_pos hlt]at hi;have:=X i x hi hx;simpa using this
        rename_i hlt;rw[if_neg hlt]at hi;split
        ·rename_i hlt2;rw[if_pos hlt2]at hi;rw[<-Q];simp[hi]
        rename_i hlt2;rw[if_neg hlt2]at hi;have:=X i x hi hx;simpa using this
       ·rcases Yh J with J|J
        ·exact h.lv.2 k b j o hb J
        exact B y j o (e4 j o J)
       intro e;rw[A3j,Akb F]at e;have K:∀ (i:Nat),cs.toList[i]?≠some (Value.int .u64 V):=fun i hi=>by
        have:=h.gd.cl (ρ k) cs b.t (0,0) i V W (by simpa using hi);rw[r1]at this;cases this
       split at e
       ·exact K _ e
       split at e
       ·exact Kr (Y _ (by rw[Q];exact A1k e)) V rfl
       exact K _ e
     cases d
    cases d
   cases d
  cases d
 ·rename_i t z f;split at d
  ·rename_i k off q;split at d
   ·rename_i fo hf;simp only[A1f,A2i]at d;obtain⟨rfl,rfl⟩:=d;have A:=h.eval z (by rw[q];simp);rw[q]at A;refine⟨ρ,w,_,.inl ?_,h.put (y:=.pointer (some ⟨ρ k,off+fo,none⟩)) (fun _=>rfl) (fun U o' e=>?_) E⟩
    ·unfold Nw at hf;split at hf
     ·rename_i fs hfs;split at hf
      ·rename_i fd hfd;split at hf
       ·rename_i n hn;simp only[A1f]at hf;subst hf;simp[execOp,Instr.fieldAt,run_underlying hfs,hfd,Instr.sureAddr,A,SV.den,fieldPlace,Bf hn,Ed]
       cases hf
      cases hf
     cases hf
    simp only[SV.p.injEq]at e;rw[<-e.1];exact B z k off q
   cases d
  cases d
 rename_i hn1 hn2 hn3 hn4 hn5 hn6 hn7;split at d
 ·rename_i hall;split at d
  ·rename_i y hy;simp only[A1f,A2i]at d;obtain⟨rfl,rfl⟩:=d;refine⟨ρ,w,y,.inl ?_,h.put (fun _=>rfl) mV E⟩;rw[Hw (o:=⟨dst,op,type,pos,after,guard⟩) h (fun cs b H=>?_) hall]
   ·exact Agc (o:=⟨dst,op,type,pos,after,guard⟩) hy w
   simp only at H;subst H;simp[pv]at hy
  cases d
 cases d
end sound
end
section
variable {a:Act}{d:Option Nat}{hw:Option (Nat×Blk)}{i name y:Nat}{m u:PH}{o:Oper}{s s':S}{w:World}{x:SV}{z:Operand}{ρ:Nat->Nat}
variable [Cl] [Co] [Pu]
def gv (s:S)(ops:Array Oper)(o:Oper):Option Bool :=
 match o.guard with
 |none=>some true
 |some (j,want)=>match ops[j]? with
  |some oj=>match oj.dst with
   |some d=>match s.tm d with
    |.v (.bool b)=>some (b==want)
    |.v (.tuple _)=>some false
    |_=>none
   |none=>none
  |none=>none
def Fb (s:S)(o:Oper):Bool:=match o.dst with|none=>true|some d=>Nat.blt d s.n
def Auk (d:TypeId):Bool:=Nat.beq d 3
def Fa:Op->Bool
 |.convert _ d _=>Auk d
 |.move _|.assign _|.pick ..|.alloc _|.box ..|.build ..|.load ..|.nilCheck _|.binOp ..|.unOp ..|.fieldAddr ..|.field ..|.indexAddr ..|.index ..|.slice ..|.extract ..|.makeFunc ..|.makeInterface ..=>true
 |.lookup ..=>true
 |.call { callee:=.builtin .len,.. }|.call { callee:=.builtin .cap,.. }|.call { callee:=.builtin .max,.. }|.call { callee:=.builtin .min,.. }=>true
 |_=>false
def Hr:Op->Bool
 |.convert _ d _=>!Auk d
 |.load ..|.lookup ..=>true
 |_=>false
def Nk:Op->Bool
 |.store ..=>true
 |.call { callee:=.builtin .append,.. }|.call { callee:=.builtin .copy,.. }=>true
 |_=>false
def bef (ops:Array Oper):Nat->Nat->Nat->Bool
 |0,_,_=>false
 |f+1,i,x=>match ops[i]? with
  |some o=>o.after.toList.any fun e=>Region.binds .any e&&(Nat.beq e.on x||bef ops f e.on x)
  |none=>false
def A0e:Op->Bool
 |.call { callee:=.value _,.. }=>true
 |.mapUpdate ..|.insert ..=>true
 |_=>false
def Azx (ops:Array Oper)(y:Nat):Bool:=(List.range ops.size).all fun x=>Nat.beq x y||bef ops ops.size y x
def L6 (ops:Array Oper)(y:Nat)(o:Op):Bool:=Nk o||(A0e o&&Azx ops y)
def Aol {ops:Array Oper}{o:Op}(h:Nk o=true):L6 ops y o=true:=by unfold L6;rw[h];rfl
theorem Ar5 {ops:Array Oper}{o:Op}(h:L6 ops y o=false):Nk o=false:=by
 unfold L6 at h;cases hm:Nk o with
 |true=>grind
 |false=>rfl
def Qz (ops:Array Oper)(t:Nat):Bool:=ops.toList.all fun o=>match o.dst with|some d=>!Nat.beq d t|none=>true
def isP:SV->Bool
 |.p _ _=>true
 |_=>false
def faB (ops:Array Oper)(s:S)(o:Oper):Bool:=o.guard.isNone&&match o.op with
 |.fieldAddr _ (.tmp b) _=>Qz ops b&&isP (s.tm b)
 |_=>false
def wrB (t:Nat)(o:Oper):Bool:=match o.dst with|some d=>Nat.beq d t|none=>false
def Zh (ops:Array Oper)(s:S)(t:Nat):Bool:=ops.toList.any (wrB t)&&ops.toList.all fun o=>!wrB t o||faB ops s o
def Ad5 (ops:Array Oper)(s:S)(o:Oper):Bool:=match o.op with
 |.load _ (.tmp t)=>(Qz ops t&&isP (s.tm t))||Zh ops s t
 |_=>false
def La (ops:Array Oper)(s:S):Bool:=ops.toList.all fun o=>!Hr o.op||Ad5 ops s o
def Fr:Op->Bool
 |.alloc _|.box ..=>true
 |_=>false
def Ix:Op->Bool
 |.select ..=>false
 |_=>true
def Gv {o:Op}(h:Ix o=true)(cs:Array SelectCase)(b:Bool):o≠.select cs b:=by rintro rfl;simp[Ix]at h
def Eg (P:Program)(env:Operand->Value)(o:Oper)(w:World)(K:Value->World->Prop):Prop :=
 match (execOp env o).run P w with
 |.ok (.value v) w'=>K v w'
 |.ok .skip w'=>K undef w'
 |.ok (.enter f args) w'=>Calls P f args w' fun e w''=>∃ v,e=.returned v/\K v w''
 |_=>False
inductive Ob (P:Program)(id:Nat)(ops:Array Oper)(dr:Bool)(Fin:S->PH->PH->Prop):List Nat->S->PH->PH->Prop
 |nil {s:S} {u m:PH}:Fin s u m->Ob P id ops dr Fin [] s u m
 |auto {i:Nat} {l:List Nat} {s:S} {u m:PH} {o:Oper} {x:SV} {hw:Option (Nat×Blk)}:ops[i]?=some o->gv s ops o=some true->Fb s o=true->eff P (id*1000+i) s o.op=some (x,hw) ->
  Ob P id ops dr Fin l ((s.put o.dst x).setb hw) u m->Ob P id ops dr Fin (i::l) s u m
 |skip {i:Nat} {l:List Nat} {s:S} {u m:PH} {o:Oper}:ops[i]?=some o->gv s ops o=some false->Fb s o=true ->
  Ob P id ops dr Fin l (s.put o.dst (.v undef)) u m->Ob P id ops dr Fin (i::l) s u m
 |ask {i:Nat} {l:List Nat} {s:S} {u m:PH} {o:Oper} {v:Value}:ops[i]?=some o->gv s ops o=some true->Fb s o=true->Kl s o.op=true->Ix o.op=true->Fr o.op=false ->
  (∀ w,(Hr o.op=true\/dr=false->Fj u w/\(Pu.b=false\/dr=false->Fj m w))->(execOp (C2 s) o).run P w=.ok (.value v) w) ->
  Ob P id ops dr Fin l (s.put o.dst (.v v)) u m->Ob P id ops dr Fin (i::l) s u m
 |big {i:Nat} {l:List Nat} {s:S} {u m:PH} {o:Oper} {K:Value->PH->PH->Prop}:ops[i]?=some o->gv s ops o=some true->Fb s o=true->Kl s o.op=true->Ix o.op=true->Fa o.op=false ->
  (∀ v u' m',K v u' m'->PH.le m m'\/dr=false\/L6 ops i o.op=true\/La ops s=true\/Pu.b=true) ->
  (∀ w,Bv u m w->Eg P (C2 s) o w fun v w'=>∃ u' m',Bv u' m' w'/\B0 u m w u' m' w'/\K v u' m') ->
  (∀ v u' m',PH.le u u'->K v u' m'->Ob P id ops dr Fin l (s.put o.dst (.v v)) u' m')->Ob P id ops dr Fin (i::l) s u m
section sound
variable {P:Program} {id:Nat} {ops:Array Oper} {dr:Bool} {Fin:S->PH->PH->Prop} {c:Cx} {Q:Exit->Act->World->Prop}
theorem Ey (h:Rel c s u m ρ a w){b:Bool}(f:gv s ops o=some b):Region.wanted o (yielded ops a.tmps)=b:=by
 unfold gv at f;unfold Region.wanted;split at f
 ·grind
 rename_i j want e;rw[e];split at f
 ·rename_i oj hj;split at f
  ·rename_i d hd;split at f
   ·rename_i b' hb;have:=h.tm d (by rw[hb];simp);rw[hb]at this;simp[yielded,hj,hd,this]at f⊢;exact f
   ·rename_i vs hb;have:=h.tm d (by rw[hb];simp);rw[hb]at this;simp only[A1f]at f;subst f;simp[yielded,hj,hd,this,SV.den]
   cases f
  cases f
 grind
def Lg (h:Fb s o=true):∀ e,o.dst=some e->e<s.n:=by
 intro e b;unfold Fb at h;rw[b]at h;exact A8f▸h
def Aar {w w':World}{y:Value}{K:Act->World->Prop}(h:Ay2 P a o w y w')(b:K (a.put o.dst y) w'):o.wp P a w K Q:=by
 unfold Oper.wp;rcases h with h|⟨h,rfl⟩<;>rw[h]<;>exact b
theorem Zy {ops:Array Oper}(h:∀ t,Qz ops t=true->s'.tm t=s.tm t)(o:Oper):faB ops s' o=faB ops s o:=by
 unfold faB;split
 ·grind
 rfl
def Mp {ops:Array Oper}(h:∀ t,Qz ops t=true->s'.tm t=s.tm t)(t:Nat):Zh ops s' t=Zh ops s t:=by
 unfold Zh;simp only[Zy h]
def Ah8 {ops:Array Oper}(h:∀ t,Qz ops t=true->s'.tm t=s.tm t)(o:Oper):Ad5 ops s' o=Ad5 ops s o:=by
 unfold Ad5;split
 ·rename_i t' t hop;rw[Mp h];cases hn:Qz ops t with
  |false=>rfl
  |true=>rw[h t hn]
 rfl
def Ab9 {ops:Array Oper}(h:∀ t,Qz ops t=true->s'.tm t=s.tm t):La ops s'=La ops s:=by
 unfold La;simp only[Ah8 h]
def ixB (o:Oper):Bool:=match o.op with
 |.indexAddr ..=>true
 |_=>false
def alB (ops:Array Oper)(t:Nat):Bool:=ops.toList.all fun o=>!wrB t o||(Fr o.op&&o.guard.isNone)
def Anv (ops:Array Oper)(s:S)(t:Nat):Bool:=ops.toList.all fun o=>!wrB t o||ixB o||faB ops s o
def Ahg {ops:Array Oper}(h:∀ t,Qz ops t=true->s'.tm t=s.tm t)(t:Nat):Anv ops s' t=Anv ops s t:=by
 unfold Anv;simp only[Zy h]
structure Gb (ops:Array Oper)(s s':S):Prop where
 eq:∀ t,Qz ops t=true->s'.tm t=s.tm t
 pt:∀ t,Zh ops s t=true->isV (s.tm t)=false->isV (s'.tm t)=false
 nw:∀ t,alB ops t=true->isV (s.tm t)=false->isV (s'.tm t)=false
 ol:∀ t k off,Anv ops s t=true->s'.tm t=.p k off->s.tm t=.p k off\/∃ b off',Qz ops b=true/\s.tm b=.p k off'
 fr:∀ t k off,alB ops t=true->s'.tm t=.p k off->s.tm t=.p k off\/s.hp k=none
 hm:∀ k,s.hp k≠none->s'.hp k≠none
def Gb.refl (ops:Array Oper)(s:S):Gb ops s s:=⟨fun _ _=>rfl,fun _ _ h=>h,fun _ _ h=>h,fun _ _ _ _ h=>.inl h,fun _ _ _ _ h=>.inl h,fun _ h=>h⟩
def Gb.trans {ops:Array Oper}{s s' j:S}(h:Gb ops s s')(g:Gb ops s' j):Gb ops s j :=
 ⟨fun t f=>(g.eq t f).trans (h.eq t f),fun t f l=>g.pt t (by rw[Mp h.eq];exact f) (h.pt t f l),fun t f l=>g.nw t f (h.nw t f l),
  fun t k off f hp=>by
   rcases g.ol t k off (by rw[Ahg h.eq];exact f) hp with e|⟨b,o2,e1,e2⟩
   ·exact h.ol t k off f e
   exact .inr ⟨b,o2,e1,by rw[<-h.eq b e1];exact e2⟩,
  fun t k off f hp=>by
   rcases g.fr t k off f hp with e|e
   ·exact h.fr t k off f e
   refine .inr (A3m fun p=>h.hm k p e),fun k n=>g.hm k (h.hm k n)⟩
structure Fit (ops:Array Oper)(s:S)(o:Oper)(x:SV):Prop where
 fa:faB ops s o=true->isV x=false
 al:Fr o.op=true->o.guard.isNone=true->isV x=false
 ol:ixB o=true\/faB ops s o=true->∀ k off,x=.p k off->∃ b off',Qz ops b=true/\s.tm b=.p k off'
 fr:Fr o.op=true->∀ k off,x=.p k off->s.hp k=none
theorem Acj {ops:Array Oper}(b:ops[i]?=some o):o∈ops.toList:=by grind
def Gx (A:ops[i]?=some o)(x:SV)(hw:Option (Nat×Blk))(h:Fit ops s o x):Gb ops s ((s.put o.dst x).setb hw):=by
 have l:∀ {t:Nat} {q:Oper->Bool},(ops.toList.all fun o=>!wrB t o||q o)=true->o.dst=some t->q o=true:=fun {t q} g f=>by
  rw[A1o]at g;have:=g o (Acj A);have r:wrB t o=true:=by unfold wrB;rw[f];simp
  rw[r]at this;simpa using this
 refine⟨fun t g=>?_,fun t g p=>?_,fun t g p=>?_,fun t k off g hp=>?_,fun t k off g hp=>?_,fun k v=>?_⟩
 ·rw[Ft,Gi];intro f;unfold Qz at g;rw[A1o]at g;have:=g o (Acj A);rw[f]at this;simp at this
 ·rw[Ft];by_cases f:o.dst=some t
  ·rw[f,Az];unfold Zh at g;rw[A1m]at g;exact h.fa (l g.2 f)
  rw[Gi s _ _ f];exact p
 ·rw[Ft];by_cases f:o.dst=some t
  ·rw[f,Az];have:=l g f;rw[A1m]at this;exact h.al this.1 this.2
  rw[Gi s _ _ f];exact p
 ·rw[Ft]at hp;by_cases f:o.dst=some t
  ·rw[f,Az]at hp;have n:(ops.toList.all fun o=>!wrB t o||(ixB o||faB ops s o))=true:=by unfold Anv at g;simpa only[Bool.or_assoc] using g
   have:=l n f;rw[A4b]at this;exact .inr (h.ol this k off hp)
  rw[Gi s _ _ f]at hp;exact .inl hp
 ·rw[Ft]at hp;by_cases f:o.dst=some t
  ·rw[f,Az]at hp;have:=l g f;rw[A1m]at this;exact .inr (h.fr this.1 k off hp)
  rw[Gi s _ _ f]at hp;exact .inl hp
 rcases hw with _|⟨j,b⟩
 ·show (s.put o.dst x).hp k≠none;rw[Du];exact v
 by_cases e:k=j
 ·subst e;rw[Bo];simp
 rw[Be _ _ _ e,Du];exact v
theorem Acz (h:faB ops s o=true):o.guard=none/\∃ T b f,o.op=.fieldAddr T (.tmp b) f/\isP (s.tm b)=true:=by
 unfold faB at h;rw[A1m]at h;obtain⟨g,e⟩:=h;refine⟨by simpa using g,?_⟩;split at e
 ·grind
 cases e
theorem Aui (e:eff P name s o.op=some (x,hw))(h:faB ops s o=true):isV x=false:=by
 obtain⟨_,T,b,f,g,hp⟩:=Acz h;rw[g]at e;unfold eff at e;simp only[show s.ev (.tmp b)=s.tm b from rfl]at e;cases hb:s.tm b with
 |junk=>grind
 |v y=>grind
 |p k off =>
  rw[hb]at e;simp only at e;split at e
  ·simp only[A1f,A2i]at e;rw[<-e.1];rfl
  cases e
def Atk (b:gv s ops o=some false)(h:faB ops s o=true):False:=by
 obtain⟨e,_⟩:=Acz h;unfold gv at b;rw[e]at b;simp at b
def Avt (g:Kl s o.op=true)(h:faB ops s o=true):False:=by
 obtain⟨_,T,b,f,e,hp⟩:=Acz h;unfold Kl at g;rw[A1o]at g;have:=g (.tmp b) (by rw[e];simp[Op.operands]);rw[show s.ev (.tmp b)=s.tm b from rfl]at this;cases hb:s.tm b with
 |junk=>rw[hb]at hp;cases hp
 |v y=>rw[hb]at hp;cases hp
 |p k off=>rw[hb]at this;cases this
theorem Asf {o:Op}(b:eff P name s o=some (x,hw))(e:Fr o=true):x=.p name 0/\s.hp name=none:=by
 unfold Fr at e;split at e
 ·unfold eff at b;simp only at b;split at b
  ·grind
  cases b
 ·unfold eff at b;simp only at b;split at b
  ·grind
  cases b
 cases e
theorem Fit.auto (e:eff P name s o.op=some (x,hw)):Fit ops s o x:=by
 refine⟨Aui e,fun g _=>by rw[(Asf e g).1];rfl,fun h k off j=>?_,fun g k off j=>?_⟩
 ·rcases h with h|h
  ·unfold ixB at h;split at h
   ·rename_i t a b hop;rw[hop]at e;unfold eff at e;simp only at e;split at e
    ·grind
    cases e
   cases h
  unfold faB at h;rw[A1m]at h;obtain⟨_,h⟩:=h;split at h
  ·rename_i T b f hop;rw[hop]at e;unfold eff at e;simp only[show s.ev (.tmp b)=s.tm b from rfl]at e;cases hb:s.tm b with
   |junk=>grind
   |v y=>grind
   |p k' off'=>grind
  cases h
 obtain⟨l,n⟩:=Asf e g;rw[l]at j;cases j;exact n
def Fit.skip (b:gv s ops o=some false):Fit ops s o (.v undef) :=
 ⟨fun h=>(Atk b h).elim,fun _ h=>by
  unfold gv at b;rw[show o.guard=none by simpa using h]at b;simp at b,fun _ k off e=>(by cases e),fun _ k off e=>(by cases e)⟩
def Fit.val (f:Kl s o.op=true)(b:Fr o.op=false)(y:Value):Fit ops s o (.v y) :=
 ⟨fun h=>(Avt f h).elim,fun h=>(by rw[b]at h;cases h),fun _ k off e=>(by cases e),fun _ k off e=>(by cases e)⟩
def Aki {o:Op}(h:Fa o=false):Fr o=false:=by
 cases o<;>first|rfl|(simp[Fa]at h)
theorem Ob.step {l:List Nat}(h:Ob P id ops dr Fin (i::l) s u m)(g:Rel c s u m ρ a w) :
 wpOp P ops Q i (fun F w'=>∃ s' n j A,Rel c s' n j A F w'/\Gb ops s s'/\Ob P id ops dr Fin l s' n j) a w:=by
 cases h with
 |auto ho hg hd t hl =>
  simp only[wpOp,ho,Ey g hg];obtain⟨A,w',y,p,B⟩:=Aav (P:=P) g t (Lg hd);exact .inl (Aar p ⟨_,_,_,_,B,Gx ho _ _ (Fit.auto t),hl⟩)
 |skip ho hg hd hl =>
  simp only[wpOp,ho,Ey g hg];exact⟨_,_,_,_,g.put (x:=.v undef) (fun _=>rfl) mV (Lg hd),Gx ho _ none (Fit.skip hg),hl⟩
 |ask ho hg hd hv hs hal hw hl =>
  simp only[wpOp,ho,Ey g hg];refine .inl (Aar (.inl ?_) ⟨_,_,_,_,g.put (fun _=>rfl) mV (Lg hd),Gx ho _ none (Fit.val hv hal _),hl⟩);rw[Hw g (Gv hs) hv];exact hw w (fun _=>⟨g.gd.pu,fun _=>g.gd.pm⟩)
 |big ho hg hd hv hs hf hk hw hl =>
  rename_i o K;simp only[wpOp,ho,Ey g hg];refine .inl ?_;have p:=hw w g.gd;have fin:∀ v w',(∃ n j,Bv n j w'/\B0 u m w n j w'/\K v n j)->∃ s' n j A,Rel c s' n j A (a.put o.dst v) w'/\Gb ops s s'/\Ob P id ops dr Fin l s' n j:=by
   rintro v w' ⟨n,j,g1,g2,J⟩;refine⟨_,n,j,ρ,?_,Gx ho _ none (Fit.val hv (Aki hf) _),hl v n j (g2.le g.gd.pu) J⟩;refine Rel.put (x:=.v v) ?_ (fun _=>rfl) mV (Lg hd);refine⟨g.sz,g.tm,g.df.of fun r e _ N E=>⟨by rw[g2.old _ (Aw e) E];exact e,by rw[g2.us _ (Aw e)];exact N,g2.ms _ (Aw e) E⟩,fun k b L=>?_,g.inj,g.lv,g1,g.gr.trans g2⟩;obtain⟨C,H,I,D⟩:=g.box k b L;have q:ρ k<w.heap.size:=by obtain⟨cs,e,_⟩:=C;exact Aw e
   refine⟨?_,H,?_,?_⟩
   ·rw[g2.old _ q D];exact C
   ·rw[g2.us _ q];exact I
   exact g2.ms _ q D
  unfold Eg at p;unfold Oper.wp;rw[Hw g (Gv hs) hv];split at p
  ·rename_i v w' e;rw[e];exact fin _ _ p
  ·rename_i w' e;rw[e];exact fin _ _ p
  ·rename_i f args w' e;rw[e];refine Calls.mono p fun R O t=>?_;obtain⟨v,rfl,B⟩:=t;exact fin _ _ B
  grind
def Ob.wpOps (b:∀ s u m ρ a w,Fin s u m->Rel c s u m ρ a w->Q .normal a w):∀ {l:List Nat} {s:S} {u m:PH} {ρ:Nat->Nat} {a:Act} {w:World},Ob P id ops dr Fin l s u m->Rel c s u m ρ a w->Go.wpOps P ops Q l a w
 |[],s,u,m,ρ,a,w,h,hr=>by
  cases h with
  |nil h=>exact b _ _ _ _ _ _ h hr
 |i::l,s,u,m,ρ,a,w,h,hr=>by
  rw[wpOps_cons];refine wpOp_mono (fun g w' ⟨s',k,j,n,e,_,f⟩=>?_) (h.step (Q:=Q) hr);exact Ob.wpOps b f e
def Ayi (h:∀ e,d=some e->z≠.tmp e):(s.put d x).ev z=s.ev z:=by
 cases z with
 |tmp t=>exact Gi s d x (fun e=>h t e rfl)
 |_=>rfl
def Awj {w:Option (Nat×Blk)}:(s.setb w).ev z=s.ev z:=by
 cases z with
 |tmp t=>show (s.setb w).tm t=s.tm t;rw[Ft]
 |_=>rfl
def Xb {w:Option (Nat×Blk)}(h:∀ e,d=some e->e∉o.looksAt ops)(g:z∈o.op.operands):((s.put d x).setb w).ev z=s.ev z:=by
 rw[Awj];refine Ayi fun e f b=>h e f ?_;subst b;exact A24 _ (Baa.2 ⟨.tmp e,by simpa using g,rfl⟩)
def Yj {w:Option (Nat×Blk)}(h:∀ e,d=some e->e∉o.looksAt ops):gv ((s.put d x).setb w) ops o=gv s ops o:=by
 unfold gv;cases hg:o.guard with
 |none=>rfl
 |some p =>
  obtain⟨j,b⟩:=p;simp only;cases hj:ops[j]? with
  |none=>rfl
  |some oj =>
   simp only;cases hd:oj.dst with
   |none=>rfl
   |some e =>
    simp only;rw[Ft,Gi s d x (fun f=>h e f (by simp[Oper.looksAt,hg,hj,hd]))]
def K0 {o:Op}(h:∀ z∈o.operands,s'.ev z=s.ev z):∀ z∈o.operands,C2 s' z=C2 s z:=fun z b=>by unfold C2;rw[h z b]
theorem Hy {o:Op}(h:∀ z∈o.operands,s'.ev z=s.ev z):Kl s' o=Kl s o:=by
 unfold Kl;rw[A9j,A1o,A1o];constructor
 ·grind
 grind
theorem Aqo {e g:Operand->Value}{o:Op}(h:∀ z∈o.operands,g z=e z):pv P g o=pv P e o:=by
 unfold pv;split
 ·rename_i x i;rw[h x (by simp[Op.operands])]
 ·rename_i c x y;rw[h c (by simp[Op.operands]),h x (by simp[Op.operands]),h y (by simp[Op.operands])]
 ·rename_i fn first captured
  rw[A9y (xs:=first) fun x b=>h x (by simp[Op.operands,b]),A9y (xs:=captured) fun x b=>h x (by simp[Op.operands,b])]
 ·rename_i t x;rw[h x (by simp[Op.operands])]
 ·rename_i src dst x;rw[h x (by simp[Op.operands])]
 ·rename_i args ts;cases b:args[0]? with
  |none=>rfl
  |some x =>
   have:x∈args:=by grind
   cases ht:ts[0]? with
   |none=>rfl
   |some t=>simp only;rw[h x (by simp[Op.operands,Call.operands,this])]
 ·rename_i x;rw[h x (by simp[Op.operands])]
 ·rename_i t ps;have:(ps.toList.map fun (p:Nat×Operand)=>(p.1,g p.2))=ps.toList.map fun (p:Nat×Operand)=>(p.1,e p.2):=A41 fun p hp=>by
   rw[h p.2 (by simp only[Op.operands,A88,A1b];exact⟨p,hp,rfl⟩)]
  rw[this]
 ·rename_i t x f;rw[h x (by simp[Op.operands])]
 rfl
def Abb {s s':S}{name:Nat}{o:Op}(h:∀ z∈o.operands,s'.ev z=s.ev z)(b:Fr o=true->s'.hp name=s.hp name)
 (hp:(Hr o=true\/Nk o=true)->∀ z∈o.operands,∀ k off,s.ev z=.p k off->s'.hp k=s.hp k):eff P name s' o=eff P name s o:=by
 unfold eff;split
 ·rename_i x;rw[h x (by simp[Op.operands])]
 ·rename_i x;rw[h x (by simp[Op.operands])]
 ·rw[b rfl]
 ·rename_i t x;rw[b rfl,h x (by simp[Op.operands])]
 ·rename_i t x;rw[h x (by simp[Op.operands])];split
  ·rename_i k off hk;rw[hp (.inl rfl) x (by simp[Op.operands]) k off hk]
  rfl
 ·rename_i t x y;rw[h x (by simp[Op.operands]),h y (by simp[Op.operands])];split
  ·rename_i k off hk;rw[hp (.inr rfl) x (by simp[Op.operands]) k off hk]
  rfl
 ·rename_i t x f;rw[h x (by simp[Op.operands])]
 rw[Hy h,Aqo (K0 h)]
end sound
end
section
variable {hw:Option (Nat×Blk)}{name:Nat}{o:Op}{s:S}{x:SV}
variable [Cl] [Co] [Pu]
section swap
variable {P:Program} {id:Nat} {ops:Array Oper} {dr:Bool} {Fin:S->PH->PH->Prop}
theorem Sr {k:Nat}{b:Blk}(h:eff P name s o=some (x,some (k,b))) :
 (k=name/\s.hp name=none/\Nk o=false/\Hr o=false)\/(Nk o=true/\s.hp k≠none/\∃ z∈o.operands,∃ off,s.ev z=.p k off):=by
 unfold eff at h;split at h
 ·grind
 ·grind
 ·split at h
  ·split at h
   ·split at h
    ·split at h
     ·simp at h;exact .inl ⟨h.2.1.symm,by assumption,rfl,rfl⟩
     cases h
    cases h
   cases h
  cases h
 ·split at h
  ·split at h
   ·simp at h;exact .inl ⟨h.2.1.symm,by assumption,rfl,rfl⟩
   cases h
  cases h
 ·grind
 ·rename_i t z y;split at h
  ·rename_i k' off hz;split at h
   ·rename_i b' hb;split at h
    ·split at h
     ·rename_i l _ _ n _;cases hc:(Nat.beq l.length n&&Nat.ble (off+n) b'.cells.length) with
      |false=>grind
      |true =>
       simp[hc]at h;obtain⟨_,rfl,_⟩:=h;exact .inr ⟨rfl,by rw[hb];simp,z,by simp[Op.operands],off,hz⟩
     cases h
    cases h
   cases h
  cases h
 ·grind
 grind
theorem An7 (h:eff P name s o=some (x,hw))(a:Fr o=true):hw≠none:=by
 unfold eff at h;unfold Fr at a;split at a
 ·grind
 ·grind
 cases a
def Q8 (h:Fa o=true):Nk o=false:=by
 unfold Nk;split
 ·simp[Fa]at h
 ·simp[Fa]at h
 ·simp[Fa]at h
 rfl
theorem Ob.redo {x:Nat}{l:List Nat}{u m:PH}{f:Oper}(h:Ob P id ops true Fin (x::l) s u m)(y:ops[x]?=some f)(O:Fa f.op=true) :
 ∃ Q r,Ob P id ops true Fin l ((s.put f.dst Q).setb r) u m/\(∀ k b,r=some (k,b)->k=id*1000+x/\s.hp k=none/\Hr f.op=false) /\
  ∀ (a:S) (B A:PH) (L:List Nat),(∀ z∈f.op.operands,a.ev z=s.ev z)->gv a ops f=gv s ops f->a.n=s.n->(r≠none->a.hp (id*1000+x)=s.hp (id*1000+x)) ->
   (Hr f.op=true->∀ z∈f.op.operands,∀ k off,s.ev z=.p k off->a.hp k=s.hp k)->PH.le u B->(Hr f.op=true->PH.le m A\/Pu.b=true\/∃ t tx,f.op=.load t (.tmp tx)/\isV (s.tm tx)=false) ->
   Ob P id ops true Fin L ((a.put f.dst Q).setb r) B A->Ob P id ops true Fin (x::L) a B A:=by
 have J:∀ (a:S),a.n=s.n->Fb s f=true->Fb a f=true:=fun a X q=>by unfold Fb at q⊢;rw[X];exact q
 cases h with
 |auto ho j q he hl =>
  rw[y]at ho;obtain rfl:=A28 ho;refine⟨_,_,hl,fun k b W=>?_,fun a B A L C D E K N _ _ H=>?_⟩
  ·subst W;rcases Sr he with ⟨rfl,e,_,Y⟩|⟨e,_⟩
   ·grind
   rw[Q8 O]at e;cases e
  refine .auto y (D.trans j) (J a E q) ?_ H;rw[Abb C (fun V=>K (An7 he V)) (fun I=>?_),he];rcases I with I|I
  ·grind
  rw[Q8 O]at I;cases I
 |skip ho j q hl =>
  rw[y]at ho;obtain rfl:=A28 ho;refine⟨.v undef,none,hl,mV,fun a B A L C D E K N _ _ H=>.skip y (D.trans j) (J a E q) H⟩
 |ask ho j q hv hs hal hw hl =>
  rw[y]at ho;obtain rfl:=A28 ho;rename_i v;refine⟨.v v,none,hl,mV,fun a B A L C D E K N U F H=>.ask y (D.trans j) (J a E q) (by rw[Hy C];exact hv) hs hal (fun w hp=>?_) H⟩;rw[execOp_congr _ (Gv hs) (K0 C)];refine hw w fun c=>⟨fun g o j=>(hp c).1 g o (U g o j),fun d g o j=>?_⟩;rcases F (c.resolve_right fV) with F|F|⟨t,tx,R,T⟩
  ·exact (hp c).2 d g o (F g o j)
  ·rcases d with d|d
   ·rw[F]at d;cases d
   cases d
  unfold Kl at hv;rw[A1o]at hv;have:=hv (.tmp tx) (by rw[R];simp[Op.operands]);rw[show s.ev (.tmp tx)=s.tm tx from rfl,T]at this;cases this
 |big ho j q hv hs hf' hk hw hl=>grind
def Two (s:S)(ox oy:Oper):Prop:=∃ t tx t' ty v kx ox' ky oy',ox.op=.load t (.tmp tx)/\oy.op=.store t' (.tmp ty) v/\s.tm tx=.p kx ox'/\s.tm ty=.p ky oy'/\kx≠ky
def New (s:S)(ox oy:Oper):Prop:=∃ t tx t' ty v,ox.op=.load t (.tmp tx)/\oy.op=.store t' (.tmp ty) v/\isV (s.tm ty)=false/\∀ k off k' off',s.tm tx=.p k off->s.tm ty=.p k' off'->k≠k'
def Aku:Op->Bool
 |.call { callee:=.builtin .append,.. }|.call { callee:=.builtin .copy,.. }=>true
 |_=>false
def Own (s:S)(ox oy:Oper):Prop:=Aku oy.op=true/\∃ t tx,ox.op=.load t (.tmp tx)/\isV (s.tm tx)=false
theorem Avw (a:eff P name s o=some (x,hw))(h:Aku o=true):hw=none:=by
 unfold Aku at h;split at h
 ·unfold eff at a;simp only at a;split at a
  ·grind
  cases a
 ·unfold eff at a;simp only at a;split at a
  ·grind
  cases a
 cases h
theorem Ob.swap {x y:Nat}{l:List Nat}{s:S}{u m:PH}{B A:Oper}(hL:On s)(h:Ob P id ops true Fin (x::y::l) s u m)(hx:ops[x]?=some B)(R:ops[y]?=some A)(a4:x≠y)
 (hf:Fa B.op=true) (a8:Oper.apart ops B A=true) (a0:Hr B.op=true->L6 ops y A.op=false\/Own s B A\/Two s B A\/New s B A) (a9:∀ t tx,B.op=.load t (.tmp tx)->Zh ops s tx=true->isV (s.tm tx)=false):Ob P id ops true Fin (y::x::l) s u m:=by
 obtain⟨L,c,h1,hn,redo⟩:=h.redo hx hf;obtain⟨a1,a2,O⟩:=Oper.apart_spec a8;have U:id*1000+x≠id*1000+y:=oV;have D:∀ z∈A.op.operands,((s.put B.dst L).setb c).ev z=s.ev z:=fun z r=>Xb a1 r;have I:gv ((s.put B.dst L).setb c) ops A=gv s ops A:=Yj a1;have a7:∀ z:Operand,∀ k off,s.ev z=.p k off->s.hp k≠none:=by
  intro z k off r;cases z with
  |tmp t=>exact hL.1 t k off r
  |const v=>cases r
  |global g=>cases r
  |func f=>cases r
 have a5:∀ k,(∀ b,c≠some (k,b))->((s.put B.dst L).setb c).hp k=s.hp k:=by
  intro k q;rcases c with _|⟨j,b⟩
  ·show (s.put B.dst L).hp k=s.hp k;rw[Du]
  rw[Be _ _ _ (fun e=>q b (by rw[e])),Du]
 have ac:∀ k,s.hp k≠none->∀ b,c≠some (k,b):=fun k q b e=>q (hn k b e).2.1;have H:Fb ((s.put B.dst L).setb c) A=Fb s A:=by unfold Fb;rw[Ul,Abh]
 have E:∀ (N:SV) (d:Option (Nat×Blk)),(∀ k b,d=some (k,b)->∀ b',c≠some (k,b')) ->
  ((((s.put B.dst L).setb c).put A.dst N).setb d)=(((s.put A.dst N).setb d).put B.dst L).setb c:=by
  intro N d q;rw[Rt,Rt,Afo s L N a2,An6];rintro k b k' b' e1 e2 rfl;exact q k b' e2 b e1
 cases h1 with
 |auto ho hg hd he hl =>
  rw[R]at ho;obtain rfl:=A28 ho;rename_i N d;have a:eff P (id*1000+y) s A.op=some (N,d):=by
   rw[<-he];refine (Abb D (fun _=>a5 _ (fun b e=>U.symm ((hn _ b e).1))) (fun _ z r k off q=>a5 k (ac k (a7 z k off q)))).symm
  have T:∀ k b,d=some (k,b)->∀ b',c≠some (k,b'):=by
   intro k b e b' e';subst e;rcases Sr a with ⟨rfl,_⟩|⟨_,q,_⟩
   ·exact U.symm (hn _ b' e').1
   exact q (hn k b' e').2.1
  refine .auto R (by rw[<-I];exact hg) (by rw[<-H];exact hd) a ?_;have a6:∀ k,(∀ b,d≠some (k,b))->((s.put A.dst N).setb d).hp k=s.hp k:=by
   intro k q;rcases d with _|⟨j,b⟩
   ·show (s.put A.dst N).hp k=s.hp k;rw[Du]
   rw[Be _ _ _ (fun e=>q b (by rw[e])),Du]
  refine redo _ u m l (fun z r=>Xb O r) (Yj O) (by rw[Ul,Abh]) ?_ ?_ (PH.le_refl _) (fun _=>.inl (PH.le_refl _)) ?_
  ·intro V;by_cases q:∃ b,d=some (id*1000+x,b)
   ·obtain⟨b,hb⟩:=q;subst hb;rcases Sr a with ⟨e,_⟩|⟨em,q,z,r,off,ae⟩
    ·exact absurd e U
    rcases c with _|⟨j,b'⟩
    ·exact absurd rfl V
    obtain⟨rfl,e,_⟩:=hn j b' rfl;exact absurd e q
   exact a6 _ (fun b e=>q ⟨b,e⟩)
  ·intro J z r k off q;refine a6 k (fun b e=>?_);subst e;rcases Sr a with ⟨rfl,e,_⟩|⟨em,_⟩
   ·exact a7 z _ off q e
   rcases a0 J with h|⟨q0,_⟩|⟨t,tx,t',C,v,kx,o1,ky,o2,q1,W,X,Y,q5⟩|⟨t,tx,t',C,v,q1,W,X,Y⟩
   ·rw[Ar5 h]at em;cases em
   ·cases Avw a q0
   case inr.inr.inr =>
    rw[q1]at r;simp only[Op.operands,A88,A12]at r;subst r;rw[W]at a;cases hty:s.tm C with
    |junk=>simp only[eff,show s.ev (.tmp C)=s.tm C from rfl,hty]at a;cases a
    |v y=>simp only[eff,show s.ev (.tmp C)=s.tm C from rfl,hty]at a;cases a
    |p ky o2 =>
     have a4:=Y k off ky o2 q hty;simp only[eff,show s.ev (.tmp C)=s.tm C from rfl,hty]at a;split at a
     ·split at a
      ·split at a
       ·rename_i n _
        revert a
        cases (Nat.beq _ _&&Nat.ble _ _) with
        |false=>simp
        |true=>simp;intro _ e _;exact absurd e.symm a4
       cases a
      cases a
     cases a
   rw[q1]at r;simp only[Op.operands,A88,A12]at r;subst r;have:SV.p k off=.p kx o1:=q.symm.trans X;simp only[SV.p.injEq]at this;rw[W]at a;have ad:s.ev (.tmp C)=.p ky o2:=Y;simp only[eff,ad]at a;split at a
   ·split at a
    ·split at a
     ·rename_i n _
      revert a
      cases (Nat.beq _ _&&Nat.ble _ _) with
      |false=>simp
      |true=>simp;intro _ e _;exact absurd (this.1.symm.trans e.symm) q5
     cases a
    cases a
   cases a
  rw[<-E N d T];exact hl
 |skip ho hg hd hl =>
  rw[R]at ho;obtain rfl:=A28 ho;refine .skip R (by rw[<-I];exact hg) (by rw[<-H];exact hd) ?_;refine redo _ u m l (fun z r=>Xb (w:=none) O r) (Yj (w:=none) O) (by rw[Abh]) (fun _=>by rw[Du]) (fun _ _ _ _ _ _=>by rw[Du]) (PH.le_refl _) (fun _=>.inl (PH.le_refl _)) ?_;have:=E (.v undef) none mV;rw[show (s.put A.dst (.v undef))=(s.put A.dst (.v undef)).setb none from rfl,<-this];exact hl
 |ask ho hg hd hv hs hal hw hl =>
  rw[R]at ho;obtain rfl:=A28 ho;rename_i v;refine .ask (v:=v) R (by rw[<-I];exact hg) (by rw[<-H];exact hd) (by rw[<-Hy D];exact hv) hs hal (fun w hp=>?_) ?_
  ·rw[<-execOp_congr _ (Gv hs) (K0 D)];exact hw w hp
  refine redo _ u m l (fun z r=>Xb (w:=none) O r) (Yj (w:=none) O) (by rw[Abh]) (fun _=>by rw[Du]) (fun _ _ _ _ _ _=>by rw[Du]) (PH.le_refl _) (fun _=>.inl (PH.le_refl _)) ?_;have:=E (.v v) none mV;rw[show (s.put A.dst (.v v))=(s.put A.dst (.v v)).setb none from rfl,<-this];exact hl
 |big ho hg hd hv hs hf' q hw hl =>
  rw[R]at ho;obtain rfl:=A28 ho;rename_i K;have Q:La ops ((s.put B.dst L).setb c)=La ops s:=Ab9 fun t ht=>by
   rw[Ft,Gi];intro aa;unfold Qz at ht;rw[A1o]at ht;have:=ht B (Acj hx);rw[aa]at this;simp at this
  refine .big (K:=K) R (by rw[<-I];exact hg) (by rw[<-H];exact hd) (by rw[<-Hy D];exact hv) hs hf' (by rw[<-Q];exact q) (fun w ab=>?_) (fun v u' m' Z hK=>?_)
  ·have:=hw w ab;unfold Eg at this⊢;rw[<-execOp_congr _ (Gv hs) (K0 D)];exact this
  refine redo _ u' m' l (fun z r=>Xb (w:=none) O r) (Yj (w:=none) O) (by rw[Abh]) (fun _=>by rw[Du]) (fun _ _ _ _ _ _=>by rw[Du]) Z (fun J=>?_) ?_
  ·rcases q v u' m' hK with h|h|h|h|h
   ·exact .inl h
   ·cases h
   ·rcases a0 J with h'|⟨_,q0⟩|⟨t,tx,t',C,v,kx,o1,ky,o2,q1,W,X,Y,q5⟩|⟨t,tx,t',C,v,q1,W,X,Y⟩
    ·rw[h']at h;cases h
    ·exact .inr (.inr q0)
    case inr.inr.inr =>
     exfalso;rw[Hy D]at hv;unfold Kl at hv;rw[A1o]at hv;have:=hv (.tmp C) (by rw[W];simp[Op.operands]);rw[show s.ev (.tmp C)=s.tm C from rfl]at this;cases hty:s.tm C with
     |junk=>rw[hty]at this;cases this
     |v y=>rw[hty]at X;cases X
     |p k off=>rw[hty]at this;cases this
    exfalso;rw[Hy D]at hv;unfold Kl at hv;rw[A1o]at hv;have:=hv (.tmp C) (by rw[W];simp[Op.operands]);rw[show s.ev (.tmp C)=.p ky o2 from Y]at this;cases this
   rotate_left
   ·exact .inr (.inl h)
   right;right;rw[Q]at h;unfold La at h;rw[A1o]at h;have F:=h B (Acj hx);rw[J]at F;simp only[A72,A80]at F;unfold Ad5 at F;split at F
   ·rename_i t tx hop;refine⟨t,tx,hop,?_⟩;rw[A4b,A1m]at F;rcases F with ⟨_,F⟩|F
    ·cases hb:s.tm tx with
     |junk=>rfl
     |v y=>rw[hb]at F;cases F
     |p k off=>rfl
    grind
   cases F
  have:=E (.v v) none mV;rw[show (s.put A.dst (.v v))=(s.put A.dst (.v v)).setb none from rfl,<-this];exact hl v u' m' Z hK
end swap
end
section
variable {ox oy:Oper}{s s':S}{x:Nat}
variable [Cl] [Co] [Pu]
section live
variable {P:Program}
theorem Ar7 {F:Nat}{o:Op}{x:SV}{q:Option (Nat×Blk)}(h:eff P F s o=some (x,q))(A:On s)(d:Option Nat):On ((s.put d x).setb q):=by
 have m:∀ (z:Operand) (k off:Nat),s.ev z=.p k off->s.hp k≠none:=by
  intro z k off B;cases z with
  |tmp t=>exact A.1 t k off B
  |const v=>cases B
  |global g=>cases B
  |func f=>cases B
 have key:∀ (x:SV) (q:Option (Nat×Blk)),(∀ k off,x=.p k off->s.hp k≠none\/∃ b,q=some (k,b))->(∀ j b,q=some (j,b)->∀ k off,SV.p k off∈b.cells->s.hp k≠none)->On ((s.put d x).setb q):=by
  intro x q J K;have hp:∀ k,s.hp k≠none->((s.put d x).setb q).hp k≠none:=by
   intro k I;rcases q with _|⟨j,b⟩
   ·show (s.put d x).hp k≠none;rw[Du];exact I
   by_cases e:k=j
   ·rw[e,Bo];simp
   rw[Be _ _ _ e,Du];exact I
  refine⟨fun e k off D=>?_,fun j b k off r a=>?_⟩
  ·rw[Ft]at D;by_cases C:d=some e
   ·subst C;rw[Az]at D;rcases J k off D with h|⟨b,rfl⟩
    ·exact hp k h
    rw[Bo];simp
   rw[Gi _ _ _ C]at D;exact hp k (A.1 e k off D)
  rcases q with _|⟨i,b'⟩
  ·change (s.put d x).hp j=some b at r;rw[Du]at r;exact hp k (A.2 j b k off r a)
  by_cases e:j=i
  ·subst e;rw[Bo]at r;obtain rfl:=A28 r;exact hp k (K j b' rfl k off a)
  rw[Be _ _ _ e,Du]at r;exact hp k (A.2 j b k off r a)
 unfold eff at h;split at h
 ·rename_i z;simp at h;obtain⟨rfl,rfl⟩:=h;exact key _ _ (fun k off e=>.inl (m z k off e)) mV
 ·rename_i z;simp at h;obtain⟨rfl,rfl⟩:=h;exact key _ _ (fun k off e=>.inl (m z k off e)) mV
 ·split at h
  ·split at h
   ·split at h
    ·split at h
     ·rename_i l hl;simp at h;obtain⟨rfl,rfl⟩:=h;obtain⟨_,_,_,H,_⟩:=Fw hl (fun _=>0);exact key _ _ (fun k off e=>.inr (by simp at e;exact⟨_,by rw[e.1]⟩)) (fun j b e k off a=>by simp at e;obtain⟨_,rfl⟩:=e;cases H k off a)
     cases h
    cases h
   cases h
  cases h
 ·rename_i t z;split at h
  ·split at h
   ·rename_i l hl;simp at h;obtain⟨rfl,rfl⟩:=h;obtain⟨_,_,_,H,_⟩:=Fw hl (fun _=>0);exact key _ _ (fun k off e=>.inr (by simp at e;exact⟨_,by rw[e.1]⟩)) (fun j b e k off a=>by simp at e;obtain⟨_,rfl⟩:=e;exact m z k off (H k off a))
   cases h
  cases h
 ·split at h
  ·split at h
   ·rename_i k off B b hb;split at h
    ·rename_i y hy;simp at h;obtain⟨rfl,rfl⟩:=h;have E:∀ u o',y=.p u o'->SV.p u o'∈b.cells:=by
      unfold ldv at hy;split at hy
      ·grind
      ·grind
      cases hy
     exact key _ _ (fun u o' e=>.inl (A.2 _ b u o' hb (E u o' e))) mV
    cases h
   cases h
  cases h
 ·split at h
  ·rename_i u off B;split at h
   ·rename_i b' hb;split at h
    ·rename_i l hl;split at h
     ·rename_i n _;cases hc:(Nat.beq l.length n&&Nat.ble (off+n) b'.cells.length) with
      |false=>grind
      |true =>
       simp[hc]at h;obtain⟨rfl,rfl⟩:=h;obtain⟨_,_,_,H,_⟩:=Fw hl (fun _=>0);refine key _ _ mV (fun j b e k off a=>?_);obtain⟨rfl,rfl⟩:=e;rcases Yh a with a|a
       ·exact A.2 u b' k off hb a
       grind
     cases h
    cases h
   cases h
  cases h
 ·grind
 grind
def Wx (g:On s)(d:Option Nat)(v:Value):On (s.put d (.v v)):=by
 refine⟨fun e k off f=>?_,fun j b k off h l=>?_⟩
 ·rw[Du];by_cases a:d=some e
  ·subst a;rw[Az]at f;cases f
  rw[Gi _ _ _ a]at f;exact g.1 e k off f
 rw[Du]at h⊢;exact g.2 j b k off h l
end live
section drawn
variable {P:Program} {id:Nat} {ops:Array Oper} {Fin:S->PH->PH->Prop} {c:Cx} {Q:Exit->Act->World->Prop}
def Ob.mapTail {a:Bool}{L d:List Nat}{u m:PH}(b:On s)(h:Ob P id ops a Fin (x::L) s u m)(f:∀ s' u m,On s'->Gb ops s s'->Ob P id ops a Fin L s' u m->Ob P id ops a Fin d s' u m):Ob P id ops a Fin (x::d) s u m:=by
 cases h with
 |auto ho hg hd he hl=>exact .auto ho hg hd he (f _ _ _ (Ar7 he b _) (Gx ho _ _ (Fit.auto he)) hl)
 |skip ho hg hd hl=>exact .skip ho hg hd (f _ _ _ (Wx b _ _) (Gx ho _ none (Fit.skip hg)) hl)
 |ask ho hg hd hv hs hal hw hl=>exact .ask ho hg hd hv hs hal hw (f _ _ _ (Wx b _ _) (Gx ho _ none (Fit.val hv hal _)) hl)
 |big ho hg hd hv hs hf hk hw hl=>exact .big ho hg hd hv hs hf hk hw (fun v k j e g=>f _ _ _ (Wx b _ _) (Gx ho _ none (Fit.val hv (Aki hf) _)) (hl v k j e g))
def Ax9 (ops:Array Oper)(s:S)(ox oy:Oper):Bool :=
 match ox.op with
 |.load _ (.tmp tx)=>match oy.op with
  |.store _ (.tmp ty) _=>Qz ops tx&&Qz ops ty&&(match s.tm tx with
   |.p kx _=>match s.tm ty with|.p ky _=>!Nat.beq kx ky|_=>false
   |_=>false)
  |_=>false
 |_=>false
def Aw7 {ops:Array Oper}(h:Ax9 ops s ox oy=true)(b:Gb ops s s'):Two s' ox oy:=by
 unfold Ax9 at h;split at h
 ·rename_i t tx e1;split at h
  ·rename_i t' ty v e2;simp only[A1m]at h;obtain⟨⟨d,f⟩,a⟩:=h;split at a
   ·rename_i kx o1 e3;split at a
    ·rename_i ky o2 e4;refine⟨t,tx,t',ty,v,kx,o1,ky,o2,e1,e2,by rw[b.eq tx d];exact e3,by rw[b.eq ty f];exact e4,fun e=>?_⟩;rw[e]at a;simp at a
    cases a
   cases a
  cases h
 cases h
def Aw8 (ops:Array Oper)(s:S)(ox oy:Oper):Bool :=
 match ox.op with
 |.load _ (.tmp tx)=>match oy.op with
  |.store _ (.tmp ty) _=>Anv ops s tx&&alB ops ty&&(match s.tm ty with|.junk=>true|_=>false)
  |_=>false
 |_=>false
theorem Ayg {ops:Array Oper}(h:Aw8 ops s ox oy=true)(d:Gb ops s s')(g:On s):New s' ox oy:=by
 unfold Aw8 at h;split at h
 ·rename_i t tx e1;split at h
  ·rename_i t' ty v e2;simp only[A1m]at h;obtain⟨⟨j,f⟩,o⟩:=h;have l:s.tm ty=.junk:=by grind
   refine⟨t,tx,t',ty,v,e1,e2,d.nw ty f (by rw[l];rfl),fun k off p a m n e=>?_⟩;subst e;have r:s.hp k≠none:=by
    rcases d.ol tx k off j m with q|⟨b,u,_,q⟩
    ·exact g.1 _ _ _ q
    exact g.1 _ _ _ q
   rcases d.fr ty k a f n with q|q
   ·grind
   grind
  cases h
 cases h
def Ay4 {ops:Array Oper}(h:Ad5 ops s ox=true)(b:Gb ops s s')(e:∀ t tx,ox.op=.load t (.tmp tx)->Zh ops s' tx=true->isV (s'.tm tx)=false):∃ t tx,ox.op=.load t (.tmp tx)/\isV (s'.tm tx)=false:=by
 unfold Ad5 at h;split at h
 ·rename_i t tx hop;refine⟨t,tx,hop,?_⟩;rw[A4b,A1m]at h;rcases h with ⟨d,a⟩|h
  ·rw[b.eq tx d];cases hb:s.tm tx with
   |junk=>rfl
   |v y=>rw[hb]at a;cases a
   |p k off=>rfl
  exact e t tx hop (by rw[Mp b.eq];exact h)
 cases h
def Awz (ops:Array Oper)(s:S)(o:Oper):Bool:=match o.op with
 |.load _ (.tmp t)=>!(isV (s.tm t)&&Zh ops s t)
 |_=>true
def Aga (ops:Array Oper)(s:S)(x y:Nat):Bool :=
 match ops[x]? with
 |some ox=>match ops[y]? with
  |some oy=>Fa ox.op&&Oper.apart ops ox oy&&(!(Hr ox.op&&L6 ops y oy.op)||Ax9 ops s ox oy||Aw8 ops s ox oy||(Ad5 ops s ox&&Aku oy.op)) && !Nat.beq x y&&Awz ops s ox
  |none=>false
 |none=>false
def dir (ops:Array Oper)(i x:Nat):Bool:=match ops[i]? with
 |some o=>o.after.toList.any fun e=>Region.binds .any e&&Nat.beq e.on x
 |none=>false
def Ge (ops:Array Oper)(s:S)(x y:Nat):Bool:=!(dir ops x y) && !(Nat.beq x y)&&(dir ops y x||Aga ops s x y||bef ops ops.size y x)
def Qp (ops:Array Oper)(s:S):List Nat->Bool
 |[]=>true
 |x::l=>l.all (Ge ops s x)&&Qp ops s l
def Kd (ops:Array Oper)(i:Nat):Bool:=match ops[i]? with
 |some o=>o.after.toList.all fun e=>!Region.binds .any e||(Nat.blt e.on ops.size && !Nat.beq e.on i)
 |none=>false
def Ark (ops:Array Oper)(s:S)(T:List Nat):Bool :=
 Nat.beq T.length ops.size&&(List.range ops.size).all (fun i=>T.contains i)&&T.all (fun i=>Nat.blt i ops.size)&&Qp ops s T&&(List.range ops.size).all (Kd ops)
def G0 {ops:Array Oper}{s:S}:∀ {T:List Nat},Qp ops s T=true->T.Pairwise (fun x y=>Ge ops s x y=true)
 |[],_=>List.Pairwise.nil
 |x::l,h=>by
  simp only[Qp,A1m,A1o]at h;exact List.Pairwise.cons h.1 (G0 h.2)
def Ag7 (ops:Array Oper)(listed:Array Bool):Prop:=∀ i,listed.getD i false=true->∀ o,ops[i]?=some o->∀ e∈o.after,Region.binds .any e=true->listed.getD e.on false=true
def Ib {a:Array Bool}(b:Ag7 ops a){x:Nat}:∀ (f i:Nat),(∀ o,ops[i]?=some o->∀ e∈o.after,Region.binds .any e=true->a.getD e.on false=true)->bef ops f i x=true->a.getD x false=true
 |0,i,_,h=>by simp[bef]at h
 |f+1,i,hi,h=>by
  unfold bef at h;cases ho:ops[i]? with
  |none=>simp[ho]at h
  |some o =>
   simp only[ho,A5h,A1m,A4b]at h;obtain⟨e,j,g,h⟩:=h;have d:=hi o ho e (by simpa using j) g;rcases h with h|h
   ·rw[<-A1y h];exact d
   exact Ib b f e.on (b e.on d) h
theorem Xi {a:Array Bool}{i x:Nat}(hi:∀ o,ops[i]?=some o->∀ e∈o.after,Region.binds .any e=true->a.getD e.on false=true)(h:dir ops i x=true):a.getD x false=true:=by
 unfold dir at h;cases ho:ops[i]? with
 |none=>grind
 |some o =>
  simp only[ho,A5h,A1m]at h;obtain⟨e,d,b,h⟩:=h;rw[<-A1y h];exact hi o ho e (by simpa using d) b
def Ob.bubble {s0:S}(d:On s0){i:Nat}{B:List Nat}:∀ (A:List Nat),(∀ x∈A,Aga ops s0 x i=true)->∀ {s:S} {u m:PH},On s->Gb ops s0 s->Ob P id ops true Fin (A++i::B) s u m->Ob P id ops true Fin (i::(A++B)) s u m
 |[],_,s,u,m,_,_,h=>h
 |x::A,hx,s,u,m,hL,hag,h=>by
  have q:Ob P id ops true Fin (x::i::(A++B)) s u m:=h.mapTail hL fun s' u m k r v=>Ob.bubble d A (fun y z=>hx y (A2f _ z)) k (hag.trans r) v;have g:=hx x mV;unfold Aga at g;cases hox:ops[x]? with
  |none=>simp[hox]at g
  |some ox =>
   cases hoy:ops[i]? with
   |none=>simp[hox,hoy]at g
   |some oy =>
    simp only[hox,hoy,A1m,A4b,A3w,A8b]at g;obtain⟨⟨⟨⟨o,p⟩,a⟩,n⟩,j⟩:=g;have f:∀ t tx,ox.op=.load t (.tmp tx)->Zh ops s tx=true->isV (s.tm tx)=false:=fun t tx l b=>by
     rw[Mp hag.eq]at b;unfold Awz at j;rw[l]at j;simp only[b,Bool.and_true,A3w]at j;exact hag.pt tx b j
    refine q.swap hL hox hoy (fun e=>?_) o p (fun k=>?_) f
    ·rw[e]at n;simp at n
    rcases a with (((a|a)|a)|a)|a
    ·rw[k]at a;cases a
    ·exact .inl a
    ·exact .inr (.inr (.inl (Aw7 a hag)))
    ·exact .inr (.inr (.inr (Ayg a hag d)))
    exact .inr (.inl ⟨a.2,Ay4 a.1 hag f⟩)
theorem Ob.wpAny {s0:S}(a1:On s0)(hE:(List.range ops.size).all (Kd ops)=true)(hF:∀ s u m ρ a w,Fin s u m->Rel c s u m ρ a w->Q .normal a w) :
 ∀ (n:Nat) (T:List Nat) (b:Array Bool) {s:S} {u m:PH} {ρ:Nat->Nat} {a:Act} {w:World},T.length=n->b.size=ops.size->(∀ i,i<ops.size->(b.getD i true=false↔i∈T))->(∀ i∈T,i<ops.size)->T.Nodup->Ag7 ops b ->
  T.Pairwise (fun x y=>Ge ops s0 x y=true)->Gb ops s0 s->Ob P id ops true Fin T s u m->Rel c s u m ρ a w->Go.wpAny P .any ops Q n b a w:=by
 have d:∀ (b:Array Bool) (i:Nat),i∈Region.ready .any ops b↔i<ops.size/\b.getD i true=false/\∃ o,ops[i]?=some o/\∀ e∈o.after,Region.binds .any e=true->b.getD e.on false=true:=by
  intro b i;simp only[Region.ready,A7a,A6q,A1m,A3w];refine and_congr_right fun hi=>and_congr_right fun _=>?_;have ho:ops[i]?=some ops[i]:=A2v hi;rw[ho];simp only[A4c,A4w,Bab,A1f,exists_eq_left',A4b,A3w];constructor
  ·intro h e z v;rcases h e z with h|h
   ·rw[v]at h;cases h
   exact h
  intro h e z;cases v:Region.binds .any e with
  |false=>exact .inl rfl
  |true=>exact .inr (h e z v)
 intro n;induction n with
 |zero =>
  intro T b s u m ρ a w f W D l q F hP E hO Z;have:T = []:=A2l f;subst this;refine⟨?_,?_⟩
  ·rw[List.eq_nil_iff_forall_not_mem];intro i hi;obtain⟨N,h2,_⟩:=(d b i).1 hi;exact absurd ((D i N).1 h2) mV
  cases hO with
  |nil h=>exact hF _ _ _ _ _ _ h Z
 |succ n ih =>
  intro T b s u m ρ a w f W D l q F hP E hO Z;refine⟨fun O=>?_,fun i hi=>?_⟩
  ·cases T with
   |nil=>simp at f
   |cons t T' =>
    exfalso;have L:=l t mV;have:t∈Region.ready .any ops b:=by
     refine (d b t).2 ⟨L,(D t L).2 mV,ops[t],A2v L,fun e z v=>?_⟩;rw[A1o]at hE;have p:=hE t (by simpa using L);unfold Kd at p;rw[A2v L]at p;simp only[A1o]at p;have:=p e (by simpa using z);simp only[v,A72,A80,A1m,A3w]at this;have J:e.on<ops.size:=A8f▸this.1;have a5:e.on≠t:=fun h=>by rw[h]at this;simp at this
     cases I:b.getD e.on true with
     |true =>
      have N:e.on<b.size:=oV;simp only[A2t,A2v N,A4w]at I⊢;exact I
     |false =>
      have K:=(D e.on J).1 I;rcases A1g.1 K with K|K
      ·exact absurd K a5
      have:=A34 hP K;unfold Ge at this;simp only[A1m,A3w]at this;have a3:dir ops t e.on=true:=by
       unfold dir;rw[A2v L];simp only[A5h,A1m];exact⟨e,by simpa using z,v,mV⟩
      rw[a3]at this;exact absurd this.1.1 mV
    rw[O]at this;cases this
  obtain⟨N,h2,o,ho,V⟩:=(d b i).1 hi;have K:=(D i N).1 h2;obtain⟨A,B,rfl⟩:=A6k K;have a0:(A++B).length=n:=by simp at f⊢;omega
  have J:i<b.size:=oV;have a6:∀ x∈A,Aga ops s0 x i=true:=by
   intro x X;have hp:=(A35.1 hP).2.2 x X i mV;unfold Ge at hp;simp only[A1m,A4b]at hp;have U:∀ o',ops[i]?=some o'->∀ e∈o'.after,Region.binds .any e=true->b.getD e.on false=true:=fun o' r=>by rw[ho]at r;obtain rfl:=A28 r;exact V
   have R:b.getD x false=true->False:=by
    intro I;have a7:=l x (by simp[X]);have:=(D x a7).2 (by simp[X]);have h3:x<b.size:=oV;simp only[A2t,A2v h3,A4w]at I this;rw[this]at I;cases I
   rcases hp.2 with (h|h)|h
   ·exact (R (Xi U h)).elim
   ·exact h
   exact (R (Ib F ops.size i U h)).elim
  have a2:=Ob.bubble a1 A a6 Z.lv E hO;refine wpOp_mono (fun a' w' ⟨s',u',m',ρ',r1,ra,r2⟩=>?_) (a2.step (Q:=Q) Z);have C:(A++B).Nodup/\i∉A++B:=by
   rw[A4p]at q⊢;simp only[A4j,A1g,A1h]at q⊢;obtain⟨n1,⟨n2,n3⟩,n4⟩:=q;exact⟨⟨n1,n3,fun x X y hy=>n4 x X y (.inr hy)⟩,fun h=>h.elim (fun h=>n4 i h i (.inl rfl) rfl) n2⟩
  refine ih (A++B) _ a0 (by simpa using W) (fun j H=>?_) (fun j H=>l j ?_) C.1 ?_ ?_ (E.trans ra) r2 r1
  ·by_cases g:j=i
   ·subst g;simp only[A2t,Array.getElem?_setIfInBounds_self_of_lt J,A4w];exact⟨fun h=>absurd h mV,fun h=>absurd h C.2⟩
   have:=D j H;simp only[A2t,A2m (fun h=>g h.symm)]at this⊢;rw[this];simp[g]
  ·simp only[A1h,A1g]at H⊢;rcases H with h|h
   ·exact .inl h
   grind
  ·intro j H o' r e z v;have Y:∀ k,b.getD k false=true->(b.setIfInBounds i true).getD k false=true:=by
    intro k hk;by_cases a4:k=i
    ·grind
    simp only[A2t,A2m (fun h=>a4 h.symm)]at hk⊢;exact hk
   by_cases g:j=i
   ·grind
   refine Y _ (F j ?_ o' r e z v);simp only[A2t,A2m (fun h=>g h.symm)]at H⊢;exact H
  grind
end drawn
end
section
variable {T:List Nat}{c:Cx}{d:Deferred}{dl:List Deferred}{id:Nat}{m u:PH}{ops:Array Oper}{s:S}{t:Array Value}{w:World}{ρ:Nat->Nat}
variable [Cl] [Pu]
section based
variable [Co]
inductive KI where
 |code (c:Code)
 |blk (id:Nat)
 |reg (id:Nat) (ops:Array Oper) (dr:Bool) (l:List Nat)
 |lp (J:S->PH->PH->Prop)
def Ady (c:Cx)(Post:Value->PH->PH->Prop):Ending->World->Prop:=fun e w'=>∃ v u' m',e=.returned v/\Bv u' m' w'/\B0 c.u0 c.m0 c.w0 u' m' w'/\Post v u' m'
def Ag (P:Program)(f:FuncId)(args:List Value)(u m:PH)(Post:Value->PH->PH->Prop):Prop:=∀ w,Bv u m w->Calls P f args.toArray w (Ady ⟨w,u,m⟩ Post)
structure Ce where
 post:Value->PH->PH->Prop
 m0:PH
abbrev Am4 (P:Program)(fn:Func)(R:Ending->World->Prop):Exit->Act->World->Prop:=bodyPostM Fence.wide 1 P fn R
def It (P:Program)(fn:Func)(Post:Ce)(c:Cx):List KI->Exit->Act->World->Prop
 |[]=>Am4 P fn (Ady c Post.post)
 |.code x::k=>Exit.then (x.wp P (It P fn Post c k)) (It P fn Post c k)
 |.blk id::k=>Exit.inBlock id (It P fn Post c k)
 |.reg _ _ _ _::k=>It P fn Post c k
 |.lp J::k=>Exit.then (fun a w=>∃ s u m ρ,Rel c s u m ρ a w/\J s u m) (It P fn Post c k)
def Hm (P:Program)(fn:Func)(Post:Ce)(ks:List KI)(s:S)(u m:PH):Prop:=∀ c ρ a w,c.m0=Post.m0->Rel c s u m ρ a w->It P fn Post c ks .normal a w
def Sym (P:Program)(fn:Func)(Post:Ce)(ks:List KI)(s:S)(u m:PH):Prop :=
 match ks with
 |.reg id ops dr l::k=>Ob P id ops dr (Hm P fn Post k) l s u m
 |ks=>Hm P fn Post ks s u m
def Rm (id:Nat):List KI->Option (List KI)
 |.blk j::k=>cond (Nat.beq j id) (some k) (Rm id k)
 |_::k=>Rm id k
 |[]=>none
def Ao8 (ops:Array Oper)(done:List Nat)(i:Nat):Bool:=match ops[i]? with
 |some o=>!(done.contains i)&&o.after.toList.all fun e=>!Region.binds .any e||done.contains e.on
 |none=>false
def Wt (ops:Array Oper):Nat->List Nat->List Nat
 |0,done=>done.reverse
 |f+1,done=>match (List.range ops.size).find? (fun i=>Ao8 ops done i&&(match ops[i]? with|some o=>Fa o.op|none=>false)) with
  |some i=>Wt ops f (i::done)
  |none=>match (List.range ops.size).find? (Ao8 ops done) with
   |some i=>Wt ops f (i::done)
   |none=>done.reverse
def Aw4 (ops:Array Oper):List Nat:=Wt ops ops.size []
def Bgr:List KI->Bool
 |.reg ..::_=>false
 |_=>true
def one (P:Program)(ks:List KI)(s:S):Option (List KI×S) :=
 match ks with
 |.code .skip::k=>cond (Bgr k) (some (k,s)) none
 |.code (.seq x y)::k=>some (.code x::.code y::k,s)
 |.code (.block id x)::k=>some (.code x::.blk id::k,s)
 |.code (.exit id)::k=>match Rm id k with|some k'=>cond (Bgr k') (some (k',s)) none|none=>none
 |.code (.cond x y z)::k=>match s.ev x with
  |.v (.bool true)=>some (.code y::k,s)
  |.v (.bool false)=>some (.code z::k,s)
  |_=>none
 |.code (.region id ops false)::k=>some (.reg id ops false (List.range ops.size)::k,s)
 |.code (.region id ops true)::k=>cond (Ark ops s (Aw4 ops)) (some (.reg id ops true (Aw4 ops)::k,s)) none
 |.blk _::k=>cond (Bgr k) (some (k,s)) none
 |.reg _ _ _ []::k=>cond (Bgr k) (some (k,s)) none
 |.reg id ops dr (i::l)::k=>match ops[i]? with
  |some o=>match Fb s o with
   |true=>match gv s ops o with
    |some true=>match eff P (id*1000+i) s o.op with
     |some (x,hw)=>some (.reg id ops dr l::k,(s.put o.dst x).setb hw)
     |none=>none
    |some false=>some (.reg id ops dr l::k,s.put o.dst (.v undef))
    |none=>none
   |false=>none
  |none=>none
 |_=>none
def run (P:Program):Nat->List KI×S->List KI×S
 |0,st=>st
 |n+1,st=>match one P st.1 st.2 with
  |some st'=>run P n st'
  |none=>st
end based
section sound
variable {P:Program} {fn:Func} {Post:Ce}
section based
variable [Co]
def Mc {c:Cx}{id:Nat}:∀ {k b:List KI},Rm id k=some b->∀ {a:Act} {w:World},It P fn Post c b .normal a w->It P fn Post c k (.exit id) a w
 |.blk j::k,b,h,a,w,hc=>by
  unfold Rm at h;cases hb:Nat.beq j id with
  |true =>
   simp[hb]at h;subst h;have:=A1y hb;subst this;simp[It,Exit.inBlock];exact hc
  |false =>
   simp[hb]at h;have f:id≠j:=fun e=>by subst e;simp at hb
   simp only[It,Exit.inBlock,if_neg f];exact Mc h hc
 |.code x::k,b,h,a,w,hc=>by simp only[Rm]at h;simp only[It,Exit.then];exact Mc h hc
 |.reg _ _ _ _::k,b,h,a,w,hc=>by simp only[Rm]at h;simp only[It];exact Mc h hc
 |.lp J::k,b,h,a,w,hc=>by simp only[Rm]at h;simp only[It,Exit.then];exact Mc h hc
 |[],b,h,a,w,hc=>by simp[Rm]at h
def Bg7 {c:Cx}{a:Act}{w:World}(h:Am4 P fn (Ady c Post.post) .ret a w):∀ k:List KI,It P fn Post c k .ret a w
 |[]=>h
 |.blk j::k=>by simp only[It,Exit.inBlock];exact Bg7 h k
 |.code x::k=>by simp only[It,Exit.then];exact Bg7 h k
 |.reg _ _ _ _::k=>by simp only[It];exact Bg7 h k
 |.lp J::k=>by simp only[It,Exit.then];exact Bg7 h k
def Rel.drew {a:Act}(h:Rel c s u m ρ a w):Rel c s u m ρ a { w with drawn:=w.drawn+1 } :=
 ⟨h.sz,h.tm,h.df,h.box,h.inj,h.lv,⟨h.gd.pu,h.gd.pm,h.gd.ap,h.gd.cl⟩,⟨h.gr.sz,h.gr.old,h.gr.us,h.gr.ms,h.gr.io,fun f=>⟨(h.gr.dr f).tape,Nat.le_succ_of_le (h.gr.dr f).dr⟩⟩⟩
theorem Rel.shut (h:Rel c s u m ρ { tmps:=t,defers:=d::dl } w)(L:U3 d=true) :
 ∃ r w',d.target=.collected r/\(Instr.takeDeferred r).run P w=.ok [] w'/\Rel c s u m ρ { tmps:=t,defers:=dl } w':=by
 obtain⟨q,I,l,B,J⟩:=h.df;rw[List.filter_cons,if_pos L]at l;cases q with
 |nil=>cases l
 |cons r q =>
  rw[A2u,A3g]at l;obtain⟨rfl,l⟩:=l;obtain⟨v,V,C,D⟩:=J r A4l;have n:∀ g,g≠r->(w.putObj r (.deferred none)).heap[g]?=w.heap[g]?:=fun g a=>World.putObj_heap_other a;have R:(w.putObj r (.deferred none)).heap[r]?=some (.deferred none):=World.putObj_heap_same (Aw v);refine⟨r,w.putObj r (.deferred none),rfl,run_takeDeferred v,h.sz,h.tm,⟨q,(A4j.1 I).2,l,B,fun W Q=>?_⟩,fun k b K=>?_,h.inj,h.lv,⟨fun g o a=>?_,fun g o a=>?_,h.gd.ap,fun g p U A j z a N=>?_⟩,⟨?_,fun g a O=>?_,h.gr.us,h.gr.ms,h.gr.io,fun f=>⟨(h.gr.dr f).tape,(h.gr.dr f).dr⟩⟩⟩
  ·grind
  ·obtain⟨⟨cs,y,E,F⟩,H⟩:=h.box k b K;refine⟨⟨cs,?_,E,F⟩,H⟩;rw[n _ (fun e=>by rw[e,v]at y;cases y)];exact y
  ·rw[n g (fun e=>by rw[e,C]at a;cases a)];exact h.gd.pu g o a
  ·rw[n g (fun e=>by rw[e,D]at a;cases a)];exact h.gd.pm g o a
  ·rw[n g (fun e=>by rw[e,R]at a;cases a)]at a;exact h.gd.cl g p U A j z a N
  ·grind
  rw[n g oV];exact h.gr.old g a O
end based
def Rel.marks (a:Rel c s u m ρ { tmps:=t,defers:=d::dl } w):U3 d=true:=by
 obtain⟨_,_,_,h,_⟩:=a.df;cases e:U3 d with
 |true=>rfl
 |false=>simp_all
def Rel.leaves {c:Cx}{R:Ending->World->Prop}{s:S}{u m:PH}{ρ:Nat->Nat}{t:Array Value}{v:Value}:∀ {dl:List Deferred} {w:World},Rel c s u m ρ { tmps:=t,defers:=dl } w ->
 (∀ w',Rel c s u m ρ { tmps:=t,defers:=[] } w'->(results fn t).run P w'=.ok v w'/\R (.returned v) w')->LeavesInM Fence.wide 1 P fn t R dl .returning w
 |[],w,hr,hv=>⟨v,(hv w hr).1,(hv w hr).2⟩
 |d::dl,w,hr,hv=>by
  obtain⟨r,w',a,b,e⟩:=hr.shut (P:=P) hr.marks;exact⟨mV,.inl ⟨r,w',a,b,e.leaves hv⟩⟩
def Rel.ends {c:Cx}{R:Ending->World->Prop}{s:S}{u m:PH}{ρ:Nat->Nat}{a:Act}{w:World}(b:Rel c s u m ρ a w){v:Value}
 (e:∀ w',Rel c s u m ρ { tmps:=a.tmps,defers:=[] } w'->(results fn a.tmps).run P w'=.ok v w'/\R (.returned v) w'):Am4 P fn R .ret a w/\Am4 P fn R .normal a w:=by
 have:=b.leaves (P:=P) (fn:=fn) (R:=R) e;exact⟨this,this⟩
section based
variable [Co]
def Sym.reg_seq {k:List KI}(h:Ob P id ops false (Hm P fn Post k) (List.range ops.size) s u m):Hm P fn Post (.code (.region id ops false)::k) s u m:=fun c ρ a w b e=>wp_region (h.wpOps (fun s u m ρ a w f e=>f c ρ a w b e) e)
def Aob (h:Ark ops s T=true):T.length=ops.size/\(∀ i,i<ops.size->i∈T)/\(∀ i∈T,i<ops.size)/\T.Nodup/\T.Pairwise (fun x y=>Ge ops s x y=true)/\(List.range ops.size).all (Kd ops)=true:=by
 unfold Ark at h;simp only[A1m]at h;obtain⟨⟨⟨⟨g,a⟩,b⟩,f⟩,j⟩:=h;rw[A1o]at a b;refine⟨A1y g,fun i hi=>by simpa using a i (by simpa using hi),fun i hi=>A8f▸b i hi,?_,G0 f,j⟩;refine (G0 f).imp fun {x y} hxy e=>?_;unfold Ge at hxy;subst e;simp at hxy
theorem Sym.reg_draw (q:P.follows .mixedOrders=true)(o:Ark ops s T=true){k:List KI}(h:Ob P id ops true (Hm P fn Post k) T s u m):Hm P fn Post (.code (.region id ops true)::k) s u m:=by
 intro c ρ a w f e;obtain⟨j,r,b,g,l,n⟩:=Aob o;refine wp_region_any q ?_;rw[show ops.size=T.length from j.symm];refine Ob.wpAny (c:=c) e.lv n (fun s u m ρ a w p e=>p c ρ a w f e) T.length T _ rfl (by simp[j]) (fun i hi=>?_) b g (fun i hi=>?_) l (Gb.refl _ _) h e.drew
 ·simp_all
 exfalso;simp only[A2t]at hi;by_cases b:i<T.length
 ·grind
 grind
def Sym.ofNo {a:List KI}(b:Bgr a=true):Sym P fn Post a s u m=Hm P fn Post a s u m:=by
 cases a with
 |nil=>rfl
 |cons x k=>cases x<;>first|rfl|simp[Bgr]at b
theorem Pa (n:P.follows .mixedOrders=true){j g:List KI}{s l:S}(h:one P j s=some (g,l))(e:Sym P fn Post g l u m):Sym P fn Post j s u m:=by
 unfold one at h;split at h
 ·rename_i k;cases hn:Bgr k with
  |false=>grind
  |true =>
   simp[hn]at h;obtain⟨rfl,rfl⟩:=h;rw[Sym.ofNo hn]at e;exact fun c ρ a w b f=>wp_skip (e c ρ a w b f)
 ·simp at h;obtain⟨rfl,rfl⟩:=h;exact fun c ρ a w b f=>wp_seq (e c ρ a w b f)
 ·simp at h;obtain⟨rfl,rfl⟩:=h;exact fun c ρ a w b f=>wp_block (e c ρ a w b f)
 ·split at h
  ·rename_i k' hk';cases hn:Bgr k' with
   |false=>grind
   |true =>
    simp[hn]at h;obtain⟨rfl,rfl⟩:=h;rw[Sym.ofNo hn]at e;exact fun c ρ a w b f=>wp_exit (Mc hk' (e c ρ a w b f))
  cases h
 ·rename_i x y z k;split at h
  ·rename_i hx;simp at h;obtain⟨rfl,rfl⟩:=h;exact fun c ρ a w b f=>wp_cond_true (by rw[f.eval x (by rw[hx];simp),hx];rfl) (e c ρ a w b f)
  ·rename_i hx;simp at h;obtain⟨rfl,rfl⟩:=h;exact fun c ρ a w b f=>wp_cond_false (by rw[f.eval x (by rw[hx];simp),hx];rfl) (e c ρ a w b f)
  cases h
 ·simp at h;obtain⟨rfl,rfl⟩:=h;exact Sym.reg_seq e
 ·rename_i id ops k;cases hB:Ark ops s (Aw4 ops) with
  |false=>grind
  |true =>
   simp[hB]at h;obtain⟨rfl,rfl⟩:=h;exact Sym.reg_draw n hB e
 ·rename_i id k;cases hn:Bgr k with
  |false=>grind
  |true =>
   simp[hn]at h;obtain⟨rfl,rfl⟩:=h;rw[Sym.ofNo hn]at e;exact fun c ρ a w b f=>e c ρ a w b f
 ·rename_i k;cases hn:Bgr k with
  |false=>grind
  |true =>
   simp[hn]at h;obtain⟨rfl,rfl⟩:=h;rw[Sym.ofNo hn]at e;exact .nil e
 ·split at h
  ·rename_i o ho;split at h
   ·rename_i hd;split at h
    ·rename_i hg;split at h
     ·rename_i x hw he;simp at h;obtain⟨rfl,rfl⟩:=h;exact .auto ho hg hd he e
     cases h
    ·rename_i hg;simp at h;obtain⟨rfl,rfl⟩:=h;exact .skip ho hg hd e
    cases h
   cases h
  cases h
 cases h
def Tp (b:P.follows .mixedOrders=true){u m:PH}:∀ (n:Nat) (a:List KI×S),Sym P fn Post (run P n a).1 (run P n a).2 u m->Sym P fn Post a.1 a.2 u m
 |0,a,h=>h
 |n+1,a,h=>by
  unfold run at h;split at h
  ·rename_i st' he;obtain⟨e,f⟩:=st';exact Pa b he (Tp b n _ h)
  exact h
end based
end sound
end
section
variable {a:Act}{args:List Value}{c:Cx}{env:Operand->Value}{f:Nat}{o:Op}{op:BinOp}{s:S}{w:World}{x y:Value}{ρ:Nat->Nat}
variable [Cl] [Pu]
section based
variable [Co]
class A6 (P:Program):Prop where
 mx:P.follows .mixedOrders=true
 ti:P.underlying 3=some (.int .i64)
def Acg {P:Program}[h:A6 P]{d:TypeId}{x:TypeDesc}(b:P.underlying d=some x)(g:x≠.int .i64):Auk d=false:=by
 unfold Auk;cases e:Nat.beq d 3 with
 |false=>rfl
 |true=>have:=A1y e;subst this;rw[h.ti]at b;cases b;exact absurd rfl g
structure G (P:Program)(fn:Func)(Post:Ce)(st:List KI×S)(u m:PH):Prop where
 out:Sym P fn Post st.1 st.2 u m
def adv (P:Program)(st:List KI×S):List KI×S:=run P 3000 st
def ctl (P:Program):Nat->List KI×S->List KI×S
 |0,st=>st
 |n+1,st=>cond (Bgr st.1) st (match one P st.1 st.2 with|some st'=>ctl P n st'|none=>st)
def nx (st:List KI×S)(v:Value):List KI×S :=
 match st.1 with
 |.reg id ops dr (i::l)::k=>match ops[i]? with
  |some o=>(.reg id ops dr l::k,st.2.put o.dst (.v v))
  |none=>st
 |_=>st
def Ot (P:Program)(t:TypeId):Option Nat:=match P.underlying t with|some (.slice e)=>szB P e|_=>none
def M0 (P:Program)(t:TypeId):Option (TypeId×Nat×Nat×Value) :=
 match P.underlying t with
 |some (.slice e)=>match P.info? e with
  |some i=>match i.zero with|some z=>some (e,i.size,i.bytes,z)|none=>none
  |none=>none
 |_=>none
def Zd (P:Program)(t:TypeId):Option (Option Nat) :=
 match Qj P t with
 |some true=>match szB P t with|some n=>some (some n)|none=>none
 |some false=>some none
 |none=>none
inductive Vm where
 |other
 |bin (op:BinOp) (x y:Value)
 |binT (op:BinOp) (t:Option TypeDesc) (x y:Value)
 |un (op:UnOp) (x:Value)
 |conv (src dst:Option TypeDesc) (x:Value)
 |index (t:Option TypeDesc) (x i:Value)
 |addr (sz:Option Nat) (x i:Value)
 |slice (sz:Option Nat) (x:Value) (lo hi mx:Option Value)
 |load (k:Option (Option Nat)) (a:Value)
 |store (sz:Option Nat) (a v:Value)
 |make (e:Option (TypeId×Nat×Nat×Value)) (l c:Value)
 |call (f:Nat) (args:List Value)
 |app (e:Option (TypeId×Nat×Nat×Value)) (same:Bool) (args:List Value)
 |blt (b:Builtin) (ts:List TypeId) (args:List Value)
 |build (t:TypeId) (parts:List (Nat×Value))
 |buildS (e:Option (TypeId×Nat×Nat×Value)) (n:Nat) (parts:List (Nat×Value))
 |field (t:TypeId) (x:Value) (f:Nat)
 |fieldA (t:TypeId) (x:Value) (f:Nat)
def Bc (P:Program)(env:Operand->Value):Op->Vm
 |.binOp op t x y _=>match env x with
  |.int k a=>.bin op (.int k a) (env y)
  |.string a=>.bin op (.string a) (env y)
  |z=>.binT op (P.underlying t) z (env y)
 |.unOp op _ x=>.un op (env x)
 |.convert s d x=>.conv (P.underlying s) (P.underlying d) (env x)
 |.index t x i=>.index (P.underlying t) (env x) (env i)
 |.indexAddr t x i=>.addr (Ot P t) (env x) (env i)
 |.slice t x lo hi mx=>.slice (Ot P t) (env x) (lo.map env) (hi.map env) (mx.map env)
 |.load t a=>.load (Zd P t) (env a)
 |.store t a v=>.store (szB P t) (env a) (env v)
 |.makeSlice t l c=>.make (M0 P t) (env l) (env c)
 |.build t ps=>.build t (ps.toList.map fun (i,x)=>(i,env x))
 |.buildSlice t n ps=>.buildS (M0 P t) n (ps.toList.map fun (i,x)=>(i,env x))
 |.field t x f=>.field t (env x) f
 |.fieldAddr t x f=>.fieldA t (env x) f
 |.call c=>match c.callee with
  |.value f=>match env f with
   |.func (.func n) first cap=>.call n (first.toList++c.args.toList.map env++cap.toList)
   |_=>.other
  |.builtin b=>match b with
   |.append=>match c.argTypes.toList with
    |[t,t']=>.app (M0 P t) (Nat.beq t t') (c.args.toList.map env)
    |_=>.other
   |b=>.blt b c.argTypes.toList (c.args.toList.map env)
  |_=>.other
 |_=>.other
def Aj (P:Program)(st:List KI×S):Vm :=
 match st.1 with
 |.reg _ ops _ (i::_)::_=>match ops[i]? with
  |some o=>match Fb st.2 o&&(Kl st.2 o.op&&Ix o.op) with
   |true=>match gv st.2 ops o with
    |some true=>Bc P (C2 st.2) o.op
    |_=>.other
   |false=>.other
  |none=>.other
 |_=>.other
def Yx (P:Program)(s:S):ResultVar->Option Value
 |.tmp t=>match s.tm t with|.v x=>some x|_=>none
 |.cell a t=>match s.tm a with
  |.p k off=>match s.hp k with
   |some b=>match ldv P t b.cells off with|some (.v y)=>some y|_=>none
   |none=>none
  |_=>none
def T3 (P:Program)(s:S):List ResultVar->Option (List Value)
 |[]=>some []
 |r::l=>match Yx P s r with
  |some x=>match T3 P s l with|some xs=>some (x::xs)|none=>none
  |none=>none
def Pc:List Value->Value
 |[x]=>x
 |l=>.tuple l.toArray
def Ay3 (P:Program)(fn:Func)(st:List KI×S):Option Value :=
 match st.1 with
 |.code .ret::_|[]=>match T3 P st.2 fn.results.toList with|some l=>some (Pc l)|none=>none
 |_=>none
end based
section rules
variable {P:Program} [A6 P] {fn:Func} {Post:Ce} {st:List KI×S} {u m:PH}
section based
variable [Co]
def G.stp (h:G P fn Post (adv P st) u m):G P fn Post st u m:=⟨Tp A6.mx 3000 st h.out⟩
def L3:∀ (n:Nat) (st:List KI×S),Sym P fn Post (ctl P n st).1 (ctl P n st).2 u m->Sym P fn Post st.1 st.2 u m
 |0,st,h=>h
 |n+1,st,h=>by
  unfold ctl at h;cases hn:Bgr st.1 with
  |true=>simp[hn]at h;exact h
  |false =>
   simp only[hn,cond_false]at h;split at h
   ·rename_i st' he;obtain⟨b,d⟩:=st';exact Pa A6.mx he (L3 n _ h)
   exact h
theorem Eq {V:Vm}(h:Aj P st=V)(g:V≠.other):∃ e b d i l k s o,st=(.reg e b d (i::l)::k,s)/\b[i]?=some o/\gv s b o=some true/\Fb s o=true/\Kl s o.op=true/\Ix o.op=true/\Bc P (C2 s) o.op=V /\
 ∀ v,nx st v=(.reg e b d l::k,s.put o.dst (.v v)):=by
 obtain⟨j,s⟩:=st;unfold Aj at h;simp only at h;split at h
 ·rename_i e b d i l k;split at h
  ·rename_i o ho;split at h
   ·rename_i hb;simp only[A1m]at hb;split at h
    ·rename_i hg;exact⟨e,b,d,i,l,k,s,o,rfl,ho,hg,hb.1,hb.2.1,hb.2.2,h,fun v=>by simp[nx,ho]⟩
    grind
   grind
  grind
 grind
def Aby {V:Vm}(h:Bc P env o=V)(b:V≠.other):Fr o=false:=by
 cases o<;>first|rfl|(simp only[Bc]at h;exact absurd h.symm b)
def G.ask {V:Vm}{v:Value}(h:Aj P (adv P st)=V)(j:V≠.other)(t:∀ env (o:Oper),Bc P env o.op=V->∀ w,(Hr o.op=true->Fj u w/\(Pu.b=false->Fj m w))->(execOp env o).run P w=.ok (.value v) w)
 (k:G P fn Post (nx (adv P st) v) u m):G P fn Post st u m:=by
 refine G.stp ?_;obtain⟨D,B,C,i,l,E,s,o,e,r,q,p,A,z,d,g⟩:=Eq h j;have k:=k.out;rw[g]at k;rw[e];exact⟨Ob.ask r q p A z (Aby d j) (fun w hp=>t _ o d w fun h=>⟨(hp (.inl h)).1,fun n=>(hp (.inl h)).2 (.inl n)⟩) k⟩
theorem G.big {V:Vm}{K:Value->PH->PH->Prop}(h:Aj P (adv P st)=V)(t:V≠.other)(A:∀ env op,Bc P env op=V->Fa op=false)(j:(∀ v g d,K v g d->PH.le m d)\/(∀ env op,Bc P env op=V->Nk op=true))
 (D:∀ env (o:Oper),Bc P env o.op=V->∀ w,Bv u m w->Eg P env o w fun v w'=>∃ g d,Bv g d w'/\B0 u m w g d w'/\K v g d)
 (k:∀ v g d,PH.le u g->K v g d->G P fn Post (nx (adv P st) v) g d):G P fn Post st u m:=by
 refine G.stp ?_;obtain⟨L,H,I,i,l,N,s,o,e,C,B,z,F,E,b,p⟩:=Eq h t;rw[e];refine⟨?_⟩;refine Ob.big (K:=K) C B z F E (A _ _ b) (fun v g d J=>?_) (fun w n=>D _ o b w n) (fun v g d q r=>?_)
 ·rcases j with j|j
  ·grind
  exact .inr (.inr (.inl (Aol (j _ _ b))))
 have:=(k v g d q r).out;rw[p]at this;exact this
theorem Asc (h:Bc P env o=.bin op x y):∃ t X Y b,o=.binOp op t X Y b/\env X=x/\env Y=y:=by
 cases o<;>simp only[Bc]at h<;>try cases h
 ·split at h
  ·rename_i hx;simp at h;obtain⟨rfl,rfl,rfl⟩:=h;exact⟨_,_,_,_,rfl,hx,rfl⟩
  ·rename_i hx;simp at h;obtain⟨rfl,rfl,rfl⟩:=h;exact⟨_,_,_,_,rfl,hx,rfl⟩
  cases h
 grind
theorem Mb {d:Option TypeDesc}(h:Bc P env o=.binT op d x y):∃ t X Y b,o=.binOp op t X Y b/\env X=x/\env Y=y/\P.underlying t=d:=by
 cases o<;>simp only[Bc]at h<;>try cases h
 ·split at h
  ·cases h
  ·cases h
  simp at h;obtain⟨rfl,rfl,rfl,rfl⟩:=h;exact⟨_,_,_,_,rfl,rfl,rfl,rfl⟩
 grind
theorem Z6 (h:Bc P env o=.call f args):∃ c F first cap,o=.call c/\c.callee=.value F/\env F=.func (.func f) first cap/\args=first.toList++c.args.toList.map env++cap.toList:=by
 cases o<;>simp only[Bc]at h<;>try cases h
 ·grind
 split at h
 ·grind
 ·grind
 cases h
def G.bin {op:BinOp}{x y:Value}(v:Value)(h:Aj P (adv P st)=.bin op x y)(d:∀ t X Y w,(eqGuard op t X Y x y).run P w=.ok () w)(g:∀ t w,(binOp op t x y).run P w=.ok v w)
 (k:G P fn Post (nx (adv P st) v) u m):G P fn Post st u m:=by
 refine G.ask h mV (fun env o b w _=>?_) k;obtain⟨t,X,Y,l,e,rfl,rfl⟩:=Asc b;obtain⟨dst,j,type,pos,after,guard⟩:=o;simp only at e;subst e;simp[execOp,d,g]
def C0 {k:IntKind}{x y:Int}(t:TypeId)(X Y:Operand)(w:World):(eqGuard op t X Y (.int k x) (.int k y)).run P w=.ok () w:=by
 unfold eqGuard;split<;>simp
def Fk {z:Int}(b:-9223372036854775808<=z)(d:z<=9223372036854775807):IntKind.i64.wrap z=z:=by
 simp only[IntKind.wrap,IntKind.signed,IntKind.bits];simp;omega
def G.add (x y z:Int)(h:Aj P (adv P st)=.bin .add (.int .i64 x) (.int .i64 y))(e:x+y=z)(b:-9223372036854775808<=z)(d:z<=9223372036854775807)
 (k:G P fn Post (nx (adv P st) (.int .i64 z)) u m):G P fn Post st u m :=
 G.bin _ h C0 (fun t w=>by simp[binOp,Op.intArith,e,Fk b d]) k
def G.sub (x y z:Int)(h:Aj P (adv P st)=.bin .sub (.int .i64 x) (.int .i64 y))(e:x-y=z)(b:-9223372036854775808<=z)(d:z<=9223372036854775807)
 (k:G P fn Post (nx (adv P st) (.int .i64 z)) u m):G P fn Post st u m :=
 G.bin _ h C0 (fun t w=>by simp[binOp,Op.intArith,e,Fk b d]) k
def G.mul (x y z:Int)(h:Aj P (adv P st)=.bin .mul (.int .i64 x) (.int .i64 y))(e:x*y=z)(b:-9223372036854775808<=z)(d:z<=9223372036854775807)
 (k:G P fn Post (nx (adv P st) (.int .i64 z)) u m):G P fn Post st u m :=
 G.bin _ h C0 (fun t w=>by simp[binOp,Op.intArith,e,Fk b d]) k
def Db:BinOp->Int->Int->Bool
 |.eql,x,y=>decide (x=y)
 |.neq,x,y=>decide (x≠y)
 |.lss,x,y=>decide (x<y)
 |.leq,x,y=>decide (x<=y)
 |.gtr,x,y=>decide (x>y)
 |.geq,x,y=>decide (x≥y)
 |_,_,_=>false
def Awt:BinOp->Bool
 |.eql|.neq|.lss|.leq|.gtr|.geq=>true
 |_=>false
theorem G.cmpG (op:BinOp)(e:IntKind)(x y:Int)(b:Bool)(h:Aj P (adv P st)=.bin op (.int e x) (.int e y))(d:Awt op=true)(g:Db op x y=b)
 (k:G P fn Post (nx (adv P st) (.bool b)) u m):G P fn Post st u m:=by
 refine G.bin _ h C0 (fun t w=>?_) k;subst g;cases op<;>simp[Awt]at d<;>simp[binOp,Op.intCmp,Db]
 ·grind
 grind
def G.eqlT (x y:Int)(h:Aj P (adv P st)=.bin .eql (.int .i64 x) (.int .i64 y))(b:x=y)(k:G P fn Post (nx (adv P st) (.bool true)) u m):G P fn Post st u m :=
 G.cmpG .eql .i64 x y true h rfl (by simp only[Db,decide_eq_true_eq];exact b) k
def G.eqlF (x y:Int)(h:Aj P (adv P st)=.bin .eql (.int .i64 x) (.int .i64 y))(b:¬ (x=y))(k:G P fn Post (nx (adv P st) (.bool false)) u m):G P fn Post st u m :=
 G.cmpG .eql .i64 x y false h rfl (by simp only[Db,decide_eq_false_iff_not];exact b) k
def G.neqT (x y:Int)(h:Aj P (adv P st)=.bin .neq (.int .i64 x) (.int .i64 y))(b:x≠y)(k:G P fn Post (nx (adv P st) (.bool true)) u m):G P fn Post st u m :=
 G.cmpG .neq .i64 x y true h rfl (by simp only[Db,decide_eq_true_eq];exact b) k
def G.neqF (x y:Int)(h:Aj P (adv P st)=.bin .neq (.int .i64 x) (.int .i64 y))(b:¬ (x≠y))(k:G P fn Post (nx (adv P st) (.bool false)) u m):G P fn Post st u m :=
 G.cmpG .neq .i64 x y false h rfl (by simp only[Db,decide_eq_false_iff_not];exact b) k
def G.lssT (x y:Int)(h:Aj P (adv P st)=.bin .lss (.int .i64 x) (.int .i64 y))(b:x<y)(k:G P fn Post (nx (adv P st) (.bool true)) u m):G P fn Post st u m :=
 G.cmpG .lss .i64 x y true h rfl (by simp only[Db,decide_eq_true_eq];exact b) k
def G.lssF (x y:Int)(h:Aj P (adv P st)=.bin .lss (.int .i64 x) (.int .i64 y))(b:¬ (x<y))(k:G P fn Post (nx (adv P st) (.bool false)) u m):G P fn Post st u m :=
 G.cmpG .lss .i64 x y false h rfl (by simp only[Db,decide_eq_false_iff_not];exact b) k
def G.leqT (x y:Int)(h:Aj P (adv P st)=.bin .leq (.int .i64 x) (.int .i64 y))(b:x<=y)(k:G P fn Post (nx (adv P st) (.bool true)) u m):G P fn Post st u m :=
 G.cmpG .leq .i64 x y true h rfl (by simp only[Db,decide_eq_true_eq];exact b) k
def G.leqF (x y:Int)(h:Aj P (adv P st)=.bin .leq (.int .i64 x) (.int .i64 y))(b:¬ (x<=y))(k:G P fn Post (nx (adv P st) (.bool false)) u m):G P fn Post st u m :=
 G.cmpG .leq .i64 x y false h rfl (by simp only[Db,decide_eq_false_iff_not];exact b) k
def G.gtrT (x y:Int)(h:Aj P (adv P st)=.bin .gtr (.int .i64 x) (.int .i64 y))(b:x>y)(k:G P fn Post (nx (adv P st) (.bool true)) u m):G P fn Post st u m :=
 G.cmpG .gtr .i64 x y true h rfl (by simp only[Db,decide_eq_true_eq];exact b) k
def G.gtrF (x y:Int)(h:Aj P (adv P st)=.bin .gtr (.int .i64 x) (.int .i64 y))(b:¬ (x>y))(k:G P fn Post (nx (adv P st) (.bool false)) u m):G P fn Post st u m :=
 G.cmpG .gtr .i64 x y false h rfl (by simp only[Db,decide_eq_false_iff_not];exact b) k
def G.geqT (x y:Int)(h:Aj P (adv P st)=.bin .geq (.int .i64 x) (.int .i64 y))(b:x≥y)(k:G P fn Post (nx (adv P st) (.bool true)) u m):G P fn Post st u m :=
 G.cmpG .geq .i64 x y true h rfl (by simp only[Db,decide_eq_true_eq];exact b) k
def G.geqF (x y:Int)(h:Aj P (adv P st)=.bin .geq (.int .i64 x) (.int .i64 y))(b:¬ (x≥y))(k:G P fn Post (nx (adv P st) (.bool false)) u m):G P fn Post st u m :=
 G.cmpG .geq .i64 x y false h rfl (by simp only[Db,decide_eq_false_iff_not];exact b) k
def Fn0 (P:Program)(f:FuncId)(args:List Value)(u:PH)(R:Value->PH->Prop):Prop:=Ag P f args u PH.mt (fun v u' m'=>m'=PH.mt/\R v u')
def Fj.mt (w:World):Fj PH.mt w:=fun _ _ h=>by cases h
def Bv.noM (h:Bv u m w):Bv u PH.mt w:=⟨h.pu,Fj.mt w,fun _=>.inr rfl,h.cl⟩
theorem Bv.frame {k:PH}{w w':World}(h:Bv u m w)(g:Bv k PH.mt w')(j:B0 u PH.mt w k PH.mt w'):Bv k m w'/\B0 u m w k m w':=by
 refine⟨⟨g.pu,fun b o d=>?_,fun b=>?_,g.cl⟩,⟨j.sz,fun b d _=>j.old b d rfl,j.us,fun b _ d=>d,j.io,j.dr⟩⟩
 ·rw[j.old b (h.pm.lt d) rfl];exact h.pm b o d
 cases d:m b with
 |none=>grind
 |some o =>
  rw[j.us b (h.pm.lt d)];rcases h.ap b with e|e
  ·grind
  grind
theorem Hq {env:Operand->Value}{o:Oper}{f:Nat}{args:List Value}(b:Bc P env o.op=.call f args)(k:∀ args w,(callFunc f args).run P w=.ok (.enter f args) w)(w:World)(K:Value->World->Prop)
 (h:Calls P f args.toArray w fun e w'=>∃ v,e=.returned v/\K v w'):Eg P env o w K:=by
 obtain⟨c,F,first,cap,e,d,j,rfl⟩:=Z6 b
 obtain⟨dst,l,type,pos,after,guard⟩:=o;simp only at e;subst e;have:(execOp env ⟨dst,.call c,type,pos,after,guard⟩).run P w=.ok (.enter f ((first++c.args.map env)++cap)) w:=by
  simp[execOp,resolve,d,j,Deferred.ofValue,invoke,k]
 unfold Eg;rw[this];have g:(first.toList++c.args.toList.map env++cap.toList).toArray=(first++c.args.map env)++cap:=by grind
 rw[<-g];exact h
def Dv (env:Operand->Value)(op:Op)(h:Bc P env op=.call f args):Fa op=false:=by
 obtain⟨c,F,first,cap,rfl,b,_⟩:=Z6 h
 obtain⟨d,a,t⟩:=c;simp only at b;subst b;rfl
theorem G.call0 (f:Nat)(args:List Value){R:Value->PH->Prop}(h:Aj P (adv P st)=.call f args)(t:∀ args w,(callFunc f args).run P w=.ok (.enter f args) w)(c:Fn0 P f args u R)
 (k:∀ v b,PH.le u b->R v b->G P fn Post (nx (adv P st) v) b m):G P fn Post st u m:=by
 refine G.big (K:=fun v b j=>j=m/\R v b) h mV Dv (.inl fun v b j r=>by rw[r.1];exact PH.le_refl _) (fun env o d w g=>?_) (fun v b j A B=>?_)
 ·refine Hq d t w _ (Calls.mono (c w g.noM) fun e w' z=>?_);obtain⟨v,b,j,l,n,p,rfl,q⟩:=z;obtain⟨g1,g2⟩:=g.frame n p;exact⟨v,l,b,m,g1,g2,rfl,q⟩
 grind
def S.init (n:Nat)(args:List Value):S:={ n:=n,tm:=fun d=>match args[d]? with|some x=>.v x|none=>.junk,hp:=fun _=>none }
def Qd (fn:Func):Code:=match fn.body with|some c=>c|none=>.skip
def st0 (fn:Func)(args:List Value):List KI×S:=([.code (Qd fn)],S.init fn.ntmps args)
end based
theorem Ag.of {e:Value->PH->PH->Prop}{f:FuncId}(v:P.funcs[f]?=some fn)(l:fn.body.isSome=true)(t:Nat.ble args.length fn.ntmps=true)(h:G P fn ⟨e,m⟩ (st0 fn args) u m):Ag P f args u m e:=by
 intro w q;have t:=A8a t;have p:fn.body=some (Qd fn):=by unfold Qd;cases hc:fn.body with|none=>simp[hc]at l|some c=>rfl
 refine callsIn_wide.1 (callsIn_of_wp_marks (n:=1) v p trivial (wpIn_wide.2 ?_) rfl);have B:Rel ⟨w,u,m⟩ (S.init fn.ntmps args) u m (fun _=>0) { tmps:=args.toArray++Array.replicate (fn.ntmps-args.toArray.size) undef,defers:=[] } w:=by
  refine⟨?_,fun d g=>?_,Agv.nil _ _ _ _,fun k b l=>?_,fun k j A=>absurd rfl A,⟨fun d k off g=>?_,fun j b k off z=>?_⟩,q,B0.refl _ _ _⟩
  ·simp[S.init];omega
  ·simp only[S.init]at g⊢;split at g
   ·rename_i x hx;have r:d<args.length:=by grind
    simp only[SV.den];rw[A5s (by simpa using r)];simpa using hx
   grind
  ·cases l
  ·simp only[S.init]at g;split at g<;>cases g
  cases z
 exact h.out _ _ _ _ rfl B
def Fn0.of {R:Value->PH->Prop}{f:FuncId}{args:List Value}(d:P.funcs[f]?=some fn)(b:fn.body.isSome=true)(e:Nat.ble args.length fn.ntmps=true)(h:G P fn ⟨fun v j g=>g=PH.mt/\R v j,PH.mt⟩ (st0 fn args) u PH.mt):Fn0 P f args u R :=
 Ag.of d b e h
section based
variable [Co]
def Ms (t:Array Value):ResultVar->Sem Value
 |.tmp d=>pure (t.getD d undef)
 |.cell p ty=>do loadVar ty (<-asAddr (t.getD p undef))
def Ys (d:Rel c s u m ρ a w){r:ResultVar}(h:Yx P s r=some x):(Ms a.tmps r).run P w=.ok x w:=by
 cases r with
 |tmp t =>
  simp only[Yx]at h;split at h
  ·rename_i y hy;simp at h;subst h;have:=d.tm t (by rw[hy];simp);rw[hy]at this;simp[Ms,this,SV.den]
  cases h
 |cell p t =>
  simp only[Yx]at h;split at h
  ·rename_i k off hp;split at h
   ·rename_i b hb;split at h
    ·rename_i y hy;simp at h;subst h;have:=d.tm p (by rw[hp];simp);rw[hp]at this;obtain⟨e,_,_⟩:=Ali (P:=P) (w:=w) (d.box k b hb).1 hy;simp[Ms,this];exact e
    cases h
   cases h
  cases h
def Ve (d:Rel c s u m ρ a w){l:List Value}(h:T3 P s fn.results.toList=some l):(results fn a.tmps).run P w=.ok (Pc l) w:=by
 have key:∀ (b:List ResultVar) (l:List Value),T3 P s b=some l->(b.mapM (Ms a.tmps)).run P w=.ok l w:=by
  intro b;induction b with
  |nil=>intro l h;simp[T3]at h;subst h;simp
  |cons r b ih =>
   intro l h;unfold T3 at h;split at h
   ·rename_i x hx;split at h
    ·rename_i xs hxs;simp at h;subst h;rw[A9p];simp only[Sem.run_bind,Ys d hx,Result.andThen_ok,ih xs hxs,Sem.run_pure]
    cases h
   cases h
 have e:results fn a.tmps=(do let vs <-fn.results.mapM (Ms a.tmps);pure (if h:vs.size=1 then vs[0] else .tuple vs)):=by
  unfold results;rfl
 rw[e,<-A5x (xs:=fn.results),A81];simp only[Sem.run_bind,Sem.run_map,key _ l h]
 match l with
 |[]=>rfl
 |[x]=>rfl
 |x::y::l=>rfl
end based
def G.ret (v:Value)(h:Ay3 P fn (adv P st)=some v)(hp:Post.post v u m):G P fn Post st u m:=by
 refine G.stp ?_;generalize adv P st=st' at h;obtain⟨g,s⟩:=st';unfold Ay3 at h;simp only at h;split at h
 ·split at h
  ·rename_i l hl;simp at h;subst h;refine⟨?_⟩;intro c ρ a w d e;exact wp_ret (Bg7 (e.ends fun w' b=>⟨Ve (a:=⟨a.tmps,[]⟩) b hl,_,_,_,rfl,b.gd,b.gr,hp⟩).1 _)
  cases h
 ·split at h
  ·rename_i l hl;simp at h;subst h;refine⟨?_⟩;intro c ρ a w d e;exact (e.ends fun w' b=>⟨Ve (a:=⟨a.tmps,[]⟩) b hl,_,_,_,rfl,b.gd,b.gr,hp⟩).2
  cases h
 cases h
end rules
end
end Go.Proofs.YtnjlhkppabfebaaGreatDoor
