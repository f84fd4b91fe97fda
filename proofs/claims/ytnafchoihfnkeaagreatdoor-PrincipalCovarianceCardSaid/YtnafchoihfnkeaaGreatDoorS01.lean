/- Parts of one proof, joined by a program. -/
import Derived.Orders
import Derived.KernelRfl
import Derived.Laws.CopyRow
import Derived.Laws.World
import Derived.Laws.Entries
import Derived.RangeFuncRecord
set_option linter.defProp false
set_option linter.unusedVariables false
set_option linter.unusedSimpArgs false
set_option linter.unusedSectionVars false
set_option maxHeartbeats 16000000
namespace Go.Proofs.YtnafchoihfnkeaaGreatDoor
def Atb:=@Nat.le_refl
def As9:=@Nat.le_trans
def At8:=@Nat.lt_or_ge
def Awu:=@Array.getElem?_eq_none
def Auf:=@Nat.lt_of_lt_of_le
def A0x:=@Bool.not_eq_true
def Aug:=@Nat.eq_of_beq_eq_true
def Azq:=@Array.getElem?_setIfInBounds_self
def Avk:=@Array.getElem?_setIfInBounds_ne
def A1z:=@Array.getElem?_push
def Atd:=@Option.some.injEq
def Ato:=@List.mem_of_getElem?
def Aye:=@List.foldl_cons
def Auh:=@List.length_cons
def At0:=@List.take_add_one
def A10:=@List.take_set_of_le
def Awv:=@List.getElem?_set_self
def Ay5:=@List.drop_set_of_lt
def Ayr:=@Array.ext'
def Avb:=@Nat.add_zero
def Awc:=@Array.length_toList
def Atj:=@Bool.and_eq_true
def Azz:=@Nat.le_of_ble_eq_true
def A1l:=@List.mapM_cons
def Avu:=@List.getElem?_take
def Axm:=@List.getElem?_drop
def Atx:=@List.all_eq_true
def Avh:=@List.getElem?_toArray
def Ays:=@Array.toArray_toList
def A0t:=@List.mapM_toArray
def Ati:=@List.mem_append
def Avd:=@List.mem_of_mem_take
def Avz:=@List.mem_of_mem_drop
def Au1:=@List.append_assoc
def Axx:=@List.getElem?_append
def Atm:=@List.length_take
def Av6:=@Nat.min_eq_left
def Aun:=@Prod.mk.injEq
def Azi:=@List.size_toArray
def A0v:=@Nat.blt_eq
def Au2:=@Classical.byContradiction
def Av7:=@Bool.or_eq_true
def Avn:=@List.mem_append_left
def A1t:=@Array.map_congr_left
def Ay6:=@List.map_congr_left
def A0y:=@List.mem_toArray
def Ate:=@List.mem_map
def Auq:=@Option.some.inj
def Aub:=@List.mem_singleton
def Ayc:=@Bool.not_true
def Azw:=@Bool.false_or
def Ax1:=@List.any_eq_true
def Auv:=@List.mem_cons_of_mem
def Avs:=@Bool.not_eq_true'
def Az0:=@Bool.and_eq_false_iff
def Axo:=@List.mem_filter
def Axf:=@List.mem_range
def Aup:=@Array.getElem?_eq_getElem
def Awh:=@Option.map_some
def Awo:=@Option.getD_some
def A15:=@Array.all_eq_true'
def Auo:=@List.eq_nil_of_length_eq_zero
def Aus:=@Array.getD_eq_getD_getElem?
def At6:=@List.mem_cons
def Awl:=@List.rel_of_pairwise_cons
def Ay9:=@List.append_of_mem
def Av8:=@List.pairwise_append
def Awq:=@List.nodup_append
def Awr:=@List.nodup_cons
def Auk:=@List.map_cons
def Ave:=@List.cons.injEq
def Aw3:=@List.mem_cons_self
def Axr:=@Array.getElem?_append_left
section
theorem kV.{u} {α:Sort u}{a b:α}(h:a=b:=by kernel_rfl):a=b:=h
theorem oV {p:Prop}(h:p:=by omega):p:=h
theorem mV {p:Prop}(h:p:=by simp):p:=h
theorem dV {p:Prop}(h:p:=by dsimp only;omega):p:=h
theorem gV {p:Prop}(h:p:=by simp;omega):p:=h
theorem jV {p:Prop}(h:p:=by decide +kernel):p:=h
theorem fV {p:Prop}(h:p:=by decide):p:=h
end
section
variable {e g:Nat}{o:Obj}{w:World}
abbrev PH:=Nat->Option Obj
def PH.mt:PH:=fun _=>none
def Em (x:PH)(w:World):Prop:=∀ g o,x g=some o->w.heap[g]?=some o
def Jt (x y:PH):Prop:=∀ g,x g=none\/y g=none
def PH.le (x y:PH):Prop:=∀ g o,x g=some o->y g=some o
def Abu (u:PH)(w:World):Prop:=∀ (g:Nat) (cs:Array Value) (t:TypeId) (fr:Nat×Nat) (j:Nat) (z:Int),w.heap[g]?=some (.cells cs t fr)->cs[j]?=some (.int .u64 z)->u g=some (.cells cs t fr)
structure B1 (u m:PH)(w:World):Prop where
 pu:Em u w
 pm:Em m w
 ap:Jt u m
 cl:Abu u w
class Ca where
 on:Prop
instance (priority:=low) Ca.no:Ca:=⟨False⟩
structure Lv (w w':World):Prop where
 tape:w'.tape=w.tape
 dr:w.drawn<=w'.drawn
def Lv.refl (w:World):Lv w w:=⟨rfl,Atb _⟩
def Lv.trans {a b c:World}(h:Lv a b)(k:Lv b c):Lv a c:=⟨k.tape.trans h.tape,As9 h.dr k.dr⟩
variable [Fl:Ca]
structure B8 (u m:PH)(w:World)(u' m':PH)(w':World):Prop where
 sz:w.heap.size<=w'.heap.size
 old:∀ g,g<w.heap.size->m g=none->w'.heap[g]?=w.heap[g]?
 us:∀ g,g<w.heap.size->u' g=u g
 ms:∀ g,g<w.heap.size->m g=none->m' g=none
 io:w'.os=w.os/\w'.output=w.output
 dr:Fl.on->Lv w w'
def B0 (h:w.heap[g]?=some o):g<w.heap.size:=by
 rcases At8 g w.heap.size with a|a
 ·exact a
 simp[Awu a]at h
def Em.lt {x:PH}(h:Em x w)(a:x g=some o):g<w.heap.size:=B0 (h g o a)
def Em.none {x:PH}{w:World}(h:Em x w){g:Nat}(a:w.heap.size<=g):x g=none:=by
 cases hx:x g with
 |none=>rfl
 |some o=>have:=h.lt hx;omega
def B8.refl (u m:PH)(w:World):B8 u m w u m w:=⟨Atb _,fun _ _ _=>rfl,fun _ _=>rfl,fun _ _ h=>h,⟨rfl,rfl⟩,fun _=>Lv.refl w⟩
def B8.trans {u m j c l d:PH}{w n p:World}(h:B8 u m w j c n)(k:B8 j c n l d p):B8 u m w l d p :=
 ⟨As9 h.sz k.sz,fun g a b=>(k.old g (Auf a h.sz) (h.ms g a b)).trans (h.old g a b),
  fun g a=>(k.us g (Auf a h.sz)).trans (h.us g a),fun g a b=>k.ms g (Auf a h.sz) (h.ms g a b),⟨k.io.1.trans h.io.1,k.io.2.trans h.io.2⟩,fun f=>(h.dr f).trans (k.dr f)⟩
def B8.le {u m b c:PH}{w w':World}(h:B8 u m w b c w')(hp:Em u w):PH.le u b :=
 fun g o a=>by rw[h.us g (hp.lt a)];exact a
def PH.le_refl (u:PH):PH.le u u:=fun _ _ h=>h
def PH.le.trans {u v x:PH}(h:PH.le u v)(k:PH.le v x):PH.le u x:=fun g o a=>k g o (h g o a)
inductive SV where
 |junk
 |v (x:Value)
 |p (k off:Nat)
def SV.den (ρ:Nat->Nat):SV->Value
 |.junk=>undef
 |.v x=>x
 |.p k off=>.pointer (some ⟨ρ k,off,none⟩)
structure Blk where
 t:TypeId
 cells:List SV
structure S where
 n:Nat
 tm:Nat->SV
 hp:Nat->Option Blk
def S.put (s:S)(d:Option Nat)(x:SV):S :=
 match d with
 |none=>s
 |some d=>{ s with tm:=fun e=>cond (Nat.beq e d) x (s.tm e) }
def S.setb (s:S)(w:Option (Nat×Blk)):S :=
 match w with
 |none=>s
 |some (k,b)=>{ s with hp:=fun j=>cond (Nat.beq j k) (some b) (s.hp j) }
def S.ev (s:S):Operand->SV
 |.tmp t=>s.tm t
 |.const v=>.v v
 |.global g=>.v (.pointer (some ⟨g,0,none⟩))
 |.func f=>.v (.func (.func f) #[] #[])
def B9 (s:S)(d:Nat)(x:SV):(s.put (some d) x).tm d=x:=by simp[S.put]
def P9 (s:S)(d:Nat)(x:SV)(h:e≠d):(s.put (some d) x).tm e=s.tm e:=by
 have:Nat.beq e d=false:=by rw[<-A0x];exact fun a=>h (Aug a)
 simp[S.put,this]
def Fd (s:S)(d:Option Nat)(x:SV)(h:d≠some e):(s.put d x).tm e=s.tm e:=by
 cases d with
 |none=>rfl
 |some d=>exact P9 s d x (fun a=>h (by rw[a]))
def C6 (s:S)(d:Option Nat)(x:SV):(s.put d x).hp=s.hp:=by cases d<;>rfl
def Ep (s:S)(w:Option (Nat×Blk)):(s.setb w).tm=s.tm:=by rcases w with _|⟨k,b⟩<;>rfl
def Bf (s:S)(k:Nat)(b:Blk):(s.setb (some (k,b))).hp k=some b:=by simp[S.setb]
def A6 (s:S)(k:Nat)(b:Blk){j:Nat}(h:j≠k):(s.setb (some (k,b))).hp j=s.hp j:=by
 have:Nat.beq j k=false:=by rw[<-A0x];exact fun a=>h (Aug a)
 simp[S.setb,this]
def Wz (s:S)(d:Option Nat)(x:SV):(s.put d x).n=s.n:=by cases d<;>rfl
def Qd (s:S)(w:Option (Nat×Blk)):(s.setb w).n=s.n:=by rcases w with _|⟨k,b⟩<;>rfl
def S.ext' {s t:S}(a:s.n=t.n)(h:s.tm=t.tm)(k:s.hp=t.hp):s=t:=by cases s;cases t;simp_all
def Akx (s:S){d e:Option Nat}(x y:SV)(h:∀ k,d=some k->e≠some k):(s.put d x).put e y=(s.put e y).put d x:=by
 refine S.ext' (by simp only[Wz]) (funext fun i=>?_) (by simp only[C6]);by_cases b:d=some i
 ·have a:e≠some i:=h i b;subst b;rw[Fd _ _ _ a,B9,B9]
 rw[Fd _ d x b];by_cases a:e=some i
 ·subst a;rw[B9,B9]
 rw[Fd _ _ _ a,Fd _ _ _ a,Fd _ _ _ b]
def Pk (s:S)(d:Option Nat)(x:SV)(w:Option (Nat×Blk)):(s.setb w).put d x=(s.put d x).setb w:=by
 cases d<;>rcases w with _|⟨k,b⟩<;>rfl
def Aho (s:S)(w w':Option (Nat×Blk))(h:∀ k b a b',w=some (k,b)->w'=some (a,b')->k≠a):(s.setb w).setb w'=(s.setb w').setb w:=by
 rcases w with _|⟨k,b⟩
 ·rfl
 rcases w' with _|⟨a,b'⟩
 ·rfl
 have f:=h k b a b' rfl rfl;refine S.ext' rfl rfl (funext fun i=>?_);by_cases c:i=k
 ·subst c;rw[A6 _ _ _ f,Bf,Bf]
 by_cases d:i=a
 ·subst d;rw[Bf,A6 _ _ _ c,Bf]
 rw[A6 _ _ _ d,A6 _ _ _ c,A6 _ _ _ c,A6 _ _ _ d]
def Alx (ρ:Nat->Nat)(b:Blk)(o:Option Obj):Prop :=
 ∃ cs:Array Value,o=some (.cells cs b.t (0,0))/\cs.size=b.cells.length/\∀ (i:Nat) (x:SV),b.cells[i]?=some x->x≠.junk->cs[i]?=some (x.den ρ)
structure Cx where
 w0:World
 u0:PH
 m0:PH
def Ark (r:Nat):Deferred:={ target:=.collected r,args:=#[] }
class Df where
 dl:List Deferred
instance (priority:=low) Df.no:Df:=⟨[]⟩
class Pu where
 b:Bool
instance (priority:=low) Pu.no:Pu:=⟨false⟩
def Aap (d:Deferred):Bool:=match d.target with|.collected _=>true|_=>false
def Ac5 [Df](n0:Nat)(u m:PH)(w:World)(dl:List Deferred):Prop:=∃ ds:List Nat,ds.Nodup/\dl.filter Aap=ds.map Ark/\dl.filter (fun d=>!Aap d)=Df.dl/\∀ r∈ds,w.heap[r]?=some (.deferred (some []))/\n0<=r/\u r=none/\m r=none
def Ac5.nil (b:Nat)(u m:PH)(w:World):Ac5 b u m w []:=⟨[],.nil,rfl,rfl,fun r a=>by cases a⟩
def Ac5.of [Df]{b:Nat}{u m j f:PH}{w w':World}{c:List Deferred}(h:Ac5 b u m w c)
 (z:∀ r,w.heap[r]?=some (.deferred (some []))->b<=r->u r=none->m r=none->w'.heap[r]?=some (.deferred (some []))/\j r=none/\f r=none):Ac5 b j f w' c:=by
 obtain⟨k,v,x,a,y⟩:=h;refine⟨k,v,x,a,fun r A=>?_⟩;obtain⟨l,d,n,p⟩:=y r A;obtain⟨q,s,t⟩:=z r l d n p;exact⟨q,d,s,t⟩
def M3 (s:S):Prop:=(∀ d k off,s.tm d=.p k off->s.hp k≠none)/\(∀ j b k off,s.hp j=some b->SV.p k off∈b.cells->s.hp k≠none)
structure Rel [Df](c:Cx)(s:S)(u m:PH)(ρ:Nat->Nat)(a:Act)(w:World):Prop where
 sz:a.tmps.size=s.n
 tm:∀ d,s.tm d≠.junk->a.tmps[d]?=some ((s.tm d).den ρ)
 df:Ac5 c.w0.heap.size u m w a.defers
 box:∀ k b,s.hp k=some b->Alx ρ b (w.heap[ρ k]?)/\c.w0.heap.size<=ρ k/\u (ρ k)=none/\m (ρ k)=none
 inj:∀ k j,s.hp k≠none->s.hp j≠none->ρ k=ρ j->k=j
 lv:M3 s
 gd:B1 u m w
 gr:B8 c.u0 c.m0 c.w0 u m w
def Rel.eval [Df]{c:Cx}{s:S}{u m:PH}{ρ:Nat->Nat}{a:Act}{w:World}(h:Rel c s u m ρ a w)(x:Operand)(b:s.ev x≠.junk):a.eval x=(s.ev x).den ρ:=by
 cases x with
 |tmp t=>have:=h.tm t b;simp[Act.eval,S.ev,this]
 |const v=>rfl
 |global g=>rfl
 |func f=>rfl
end
section
variable {g:Nat}{v:Value}
variable [Ca] [Df]
def Bh:Value->Bool
 |.agg _|.tuple _=>false
 |.int .u64 _=>false
 |_=>true
def Ic (h:Bh v=true):v.oneCell'=true:=by
 unfold Bh at h;split at h<;>simp_all [Value.oneCell']
 all_goals (cases v<;>simp_all)
def Iu (h:Bh v=true)(z:Int):v≠.int .u64 z:=by rintro rfl;simp[Bh]at h
section rel
variable {c:Cx} {s:S} {u m:PH} {ρ:Nat->Nat} {a:Act} {w:World}
def Rel.put (h:Rel c s u m ρ a w){d:Option Nat}{x:SV}{y:Value}(D:x≠.junk->y=x.den ρ)(A:∀ k off,x=.p k off->s.hp k≠none)(t:∀ e,d=some e->e<s.n) :
 Rel c (s.put d x) u m ρ (a.put d y) w:=by
 cases d with
 |none=>exact h
 |some d =>
  have z:=t d rfl;have C:=h.sz;refine⟨by simpa[Act.put,S.put] using h.sz,fun e l=>?_,by simpa[Act.put] using h.df,fun k b q=>?_,fun k j r o=>?_,⟨fun e k off l=>?_,fun j b k off o B=>?_⟩,h.gd,h.gr⟩
  ·by_cases f:e=d
   ·subst f;rw[B9]at l⊢;simp only[Act.put];rw[Azq];simp[show e<a.tmps.size by omega,D l]
   rw[P9 _ _ _ f]at l⊢;simp only[Act.put];rw[Avk (fun h=>f h.symm)];exact h.tm e l
  ·rw[C6]at q;exact h.box k b q
  ·rw[C6]at r o;exact h.inj k j r o
  ·rw[C6];by_cases f:e=d
   ·subst f;rw[B9]at l;exact A k off l
   rw[P9 _ _ _ f]at l;exact h.lv.1 e k off l
  rw[C6]at o⊢;exact h.lv.2 j b k off o B
def A9 (w:World)(o:Obj)(h:g<w.heap.size):(w.alloc o).heap[g]?=w.heap[g]?:=by
 show (w.heap.push o)[g]?=_;rw[A1z,if_neg (Nat.ne_of_lt h)]
def Cf (w:World)(o:Obj):(w.alloc o).heap[w.heap.size]?=some o:=by
 show (w.heap.push o)[w.heap.size]?=_;rw[A1z,if_pos rfl]
def Bu (w:World)(o:Obj):(w.alloc o).heap.size=w.heap.size+1:=Array.size_push ..
def B1.alloc (h:B1 u m w){cs:Array Value}{t:TypeId}{fr:Nat×Nat}(n:∀ (j:Nat) (z:Int),cs[j]?≠some (.int .u64 z)):B1 u m (w.alloc (.cells cs t fr)):=by
 refine⟨fun g o b=>?_,fun g o b=>?_,h.ap,fun g d p e j z b l=>?_⟩
 ·rw[A9 _ _ (h.pu.lt b)];exact h.pu g o b
 ·rw[A9 _ _ (h.pm.lt b)];exact h.pm g o b
 have k:=B0 b;rw[Bu]at k;by_cases f:g=w.heap.size
 ·subst f;rw[Cf]at b;simp only[Atd,Obj.cells.injEq]at b;obtain⟨rfl,rfl,rfl⟩:=b;exact absurd l (n j z)
 rw[A9 _ _ oV]at b;exact h.cl g d p e j z b l
def B8.alloc {d m0:PH}{e:World}(h:B8 d m0 e u m w)(o:Obj):B8 d m0 e u m (w.alloc o) :=
 ⟨by rw[Bu];have:=h.sz;omega,fun g b j=>by rw[A9 _ _ (Auf b h.sz)];exact h.old g b j,h.us,h.ms,h.io,fun f=>⟨(h.dr f).tape,(h.dr f).dr⟩⟩
def Yv {ρ:Nat->Nat}{k g:Nat}{x:SV}(b:∀ off,x≠.p k off):x.den (fun j=>if j=k then g else ρ j)=x.den ρ:=by
 cases x with
 |junk=>rfl
 |v x=>rfl
 |p j off =>
  have:j≠k:=fun e=>b off (by rw[e]);simp[SV.den,this]
def Rel.alloc (h:Rel c s u m ρ a w){k:Nat}(A:s.hp k=none){b:Blk}{cs:Array Value}(B:cs.size=b.cells.length)(H:∀ (i:Nat) (x:SV),b.cells[i]?=some x->x≠.junk->cs[i]?=some (x.den ρ))
 (K:∀ j off,SV.p j off∈b.cells->s.hp j≠none) (Q:∀ (j:Nat) (z:Int),cs[j]?≠some (.int .u64 z)) :
 Rel c (s.setb (some (k,b))) u m (fun j=>if j=k then w.heap.size else ρ j) a (w.alloc (.cells cs b.t)):=by
 have O:∀ j b',s.hp j=some b'->j≠k:=fun j b' n e=>by rw[e,A]at n;cases n
 have D:∀ j,s.hp j≠none->j≠k:=fun j n e=>n (by rw[e,A]);have C:∀ j,s.hp j≠none->ρ j<w.heap.size:=fun j n=>by
  cases o:s.hp j with
  |none=>exact absurd o n
  |some b'=>obtain⟨⟨q,e,_⟩,_⟩:=h.box j b' o;exact B0 e
 refine⟨by rw[Qd];exact h.sz,fun d y=>?_,h.df.of fun r e _ P F=>⟨by rw[A9 _ _ (B0 e)];exact e,P,F⟩,fun j b' o=>?_,fun i j hi n E=>?_,⟨fun d j off y=>?_,fun i b' j off hi F=>?_⟩,h.gd.alloc Q,h.gr.alloc _⟩
 ·rw[Ep]at y⊢;rw[h.tm d y,Yv (fun off e=>h.lv.1 d k off e A)]
 ·by_cases f:j=k
  ·subst f;rw[Bf]at o;simp only[Atd]at o;subst o;simp only[if_true];refine⟨⟨cs,by rw[Cf],B,fun i x hi I=>?_⟩,h.gr.sz,?_,?_⟩
   ·rw[H i x hi I,Yv (fun off e=>?_)];exact K j off (e▸Ato hi) A
   ·exact h.gd.pu.none (Atb _)
   exact h.gd.pm.none (Atb _)
  rw[A6 _ _ _ f]at o;simp only[if_neg f];obtain⟨⟨q,J,L,N⟩,r⟩:=h.box j b' o;refine⟨⟨q,by rw[A9 _ _ (B0 J)];exact J,L,fun i x hi I=>?_⟩,r⟩;rw[N i x hi I,Yv (fun off e=>h.lv.2 j b' k off o (e▸Ato hi) A)]
 ·by_cases l:i=k
  ·by_cases f:j=k
   ·rw[l,f]
   rw[A6 _ _ _ f]at n;simp only[l,if_true,if_neg f]at E;have:=C j n;omega
  rw[A6 _ _ _ l]at hi;by_cases f:j=k
  ·simp only[f,if_true,if_neg l]at E;have:=C i hi;omega
  rw[A6 _ _ _ f]at n;simp only[if_neg l,if_neg f]at E;exact h.inj i j hi n E
 ·rw[Ep]at y;have:=h.lv.1 d j off y;rw[A6 _ _ _ (D j this)];exact this
 by_cases f:j=k
 ·rw[f,Bf];simp
 rw[A6 _ _ _ f];by_cases l:i=k
 ·subst l;rw[Bf]at hi;simp only[Atd]at hi;subst hi;exact K j off F
 rw[A6 _ _ _ l]at hi;exact h.lv.2 i b' j off hi F
def Rel.store (h:Rel c s u m ρ a w){k:Nat}{b b':Blk}(O:s.hp k=some b)(Y:b'.t=b.t){cs:Array Value}(F:cs.size=b'.cells.length)(N:∀ (i:Nat) (x:SV),b'.cells[i]?=some x->x≠.junk->cs[i]?=some (x.den ρ))
 (X:∀ j off,SV.p j off∈b'.cells->s.hp j≠none) (hw:∀ (j:Nat) (z:Int),cs[j]?≠some (.int .u64 z)) :
 Rel c (s.setb (some (k,b'))) u m ρ a (w.setRow (ρ k) cs):=by
 obtain⟨⟨K,Q,_,_⟩,r0,T,U⟩:=h.box k b O;have l:∀ g,g≠ρ k->(w.setRow (ρ k) cs).heap[g]?=w.heap[g]?:=fun g q=>setRow_other w (ρ k) g cs q;have A:(w.setRow (ρ k) cs).heap[ρ k]?=some (.cells cs b.t (0,0)):=setRow_heap w (ρ k) K cs _ _ Q;refine⟨by rw[Qd];exact h.sz,fun d D=>by rw[Ep]at D⊢;exact h.tm d D,h.df.of fun r e _ Z C=>⟨by rw[l _ (fun V=>by rw[V,Q]at e;cases e)];exact e,Z,C⟩,fun j I B=>?_,fun i j hi H W=>?_,⟨fun d j off D=>?_,fun i I j off hi C=>?_⟩,⟨?_,?_,h.gd.ap,?_⟩,⟨?_,?_,h.gr.us,h.gr.ms,h.gr.io,fun f=>⟨(h.gr.dr f).tape,(h.gr.dr f).dr⟩⟩⟩
 ·by_cases n:j=k
  ·subst n;rw[Bf]at B;simp only[Atd]at B;subst B;exact⟨⟨cs,by rw[A,Y],F,N⟩,r0,T,U⟩
  rw[A6 _ _ _ n]at B;have P:ρ j≠ρ k:=fun e=>n (h.inj j k (by rw[B];simp) (by rw[O];simp) e);rw[l _ P];exact h.box j I B
 ·have R:∀ i,(s.setb (some (k,b'))).hp i≠none->s.hp i≠none:=fun i hi=>by
   by_cases y:i=k
   ·rw[y,O];simp
   rw[A6 _ _ _ y]at hi;exact hi
  exact h.inj i j (R i hi) (R j H) W
 ·rw[Ep]at D;by_cases n:j=k
  ·rw[n,Bf];simp
  rw[A6 _ _ _ n];exact h.lv.1 d j off D
 ·by_cases n:j=k
  ·rw[n,Bf];simp
  rw[A6 _ _ _ n];by_cases y:i=k
  ·subst y;rw[Bf]at hi;simp only[Atd]at hi;subst hi;exact X j off C
  rw[A6 _ _ _ y]at hi;exact h.lv.2 i I j off hi C
 ·intro g o q;rw[l g (fun e=>by rw[e,T]at q;cases q)];exact h.gd.pu g o q
 ·intro g o q;rw[l g (fun e=>by rw[e,U]at q;cases q)];exact h.gd.pm g o q
 ·intro g J t' L j z q H;by_cases E:g=ρ k
  ·rw[E,A]at q;simp only[Atd,Obj.cells.injEq]at q;obtain⟨rfl,_,_⟩:=q;exact absurd H (hw j z)
  rw[l g E]at q;exact h.gd.cl g J t' L j z q H
 ·rw[setRow_size];exact h.gr.sz
 intro g q C;rw[l g oV];exact h.gr.old g q C
end rel
end
section
def iV (x:Int):SV:=.v (.int .i64 x)
def sV (a:Option Addr)(n c:Nat):SV:=.v (.slice a n c)
def bV (b:Bool):SV:=.v (.bool b)
end
section fill
def Wj (off:Nat):∀ (l:List Value) (k:Nat) (cells:Array Value),off+k+l.length<=cells.size ->
 (((l.zipIdx k).foldl (fun (cs:Array Value) (p:Value×Nat)=>cs.setIfInBounds (off+p.2) p.1) cells).toList)=cells.toList.take (off+k)++l++cells.toList.drop (off+k+l.length)
 |[],k,cells,h=>mV
 |v::l,k,cells,h=>by
  have d:=Wj off l (k+1) (cells.setIfInBounds (off+k) v) (by simp at h⊢;omega);simp only[List.zipIdx_cons,Aye];rw[d];simp only[Array.toList_setIfInBounds,Auh];have a:off+k<cells.toList.length:=by simp at h⊢;omega
  have b:(cells.toList.set (off+k) v).take (off+(k+1))=cells.toList.take (off+k)++[v]:=by
   rw[show off+(k+1)=off+k+1 by omega,At0,A10 (Atb _),Awv a];rfl
  have c:(cells.toList.set (off+k) v).drop (off+(k+1)+l.length)=cells.toList.drop (off+k+(l.length+1)):=by
   rw[Ay5 oV];congr 1;omega
  rw[b,c];simp
def Wb (a:Nat->Option (Nat×Nat))(cells:Array Value)(i off size:Nat)(v:Value)(rest:List (Nat×Value))(hp:a i=some (off,size))(b:v.cells.size=size)(c:off+size<=cells.size) :
 Instr.fill a cells ((i,v)::rest)=Instr.fill a (cells.toList.take off++v.cells.toList++cells.toList.drop (off+size)).toArray rest:=by
 have e:v.cells.zipIdx.foldl (fun (cs:Array Value) (p:Value×Nat)=>cs.setIfInBounds (off+p.2) p.1) cells=(cells.toList.take off++v.cells.toList++cells.toList.drop (off+size)).toArray:=by
  apply Ayr;have:=Wj off v.cells.toList 0 cells gV;simp only[Avb,Awc,b]at this;rw[<-this,<-Array.foldl_toList,Array.toList_zipIdx]
 rw[Instr.fill.eq_2];simp only[hp];rw[if_neg (by simp[b];omega),<-e]
def Pe (P:Program):List Field->Option (List (Nat×Nat))
 |[]=>some []
 |f::l=>match P.info? f.type with
  |some i=>match Pe P l with|some r=>some ((f.offset,i.size)::r)|none=>none
  |none=>none
def Ab4 (pl:List (Nat×Nat)):List Value->List (Nat×Value)->Option (List Value)
 |cells,[]=>some cells
 |cells,(i,v)::r=>match pl[i]? with
  |some (off,size)=>cond (Nat.beq v.cells.size size&&Nat.ble (off+size) cells.length) (Ab4 pl (cells.take off++v.cells.toList++cells.drop (off+size)) r) none
  |none=>none
def S8 (b:List (Nat×Nat)):∀ (a:List (Nat×Value)) (cells:List Value) (r:List Value),Ab4 b cells a=some r->Instr.fill (fun i=>b[i]?) cells.toArray a=some r.toArray
 |[],cells,r,h=>by simp[Ab4]at h;simp[Instr.fill,h]
 |(i,v)::a,cells,r,h=>by
  unfold Ab4 at h;split at h
  ·rename_i off size hp;cases hc:(Nat.beq v.cells.size size&&Nat.ble (off+size) cells.length) with
   |false=>simp[hc]at h
   |true =>
    simp only[hc,cond_true]at h;simp only[Atj]at hc;rw[Wb _ _ i off size v a hp (Aug hc.1) (by simpa using Azz hc.2)];exact S8 b a _ r h
  cases h
def Uv {P:Program}{w:World}:∀ (l:List Field) (r:List (Nat×Nat)),Pe P l=some r->(l.mapM (fun f=>do pure (f.offset,<-sizeOf f.type)):Sem (List (Nat×Nat))).run P w=.ok r w
 |[],r,h=>by simp[Pe]at h;subst h;simp
 |f::l,r,h=>by
  unfold Pe at h;split at h
  ·rename_i i hi;split at h
   ·rename_i r' hr;simp at h;subst h;rw[A1l];have a:=Uv (P:=P) (w:=w) l r' hr;simp only[Sem.run_bind,sizeOf,typeInfo,run_program,Result.andThen_ok,hi,Sem.run_pure]at a⊢;rw[a];rfl
   cases h
  cases h
end fill
section
variable {b:Blk}{g i:Nat}{l:List SV}{o:Oper}{t:TypeId}{x:SV}
variable [Ca] [Df]
def Ir:List SV->Option (List Value)
 |[]=>some []
 |.v x::l=>match Ir l with|some r=>some (x::r)|none=>none
 |_=>none
def K7 (P:Program)(t:TypeId):Option Bool :=
 match P.underlying t with
 |some (.struct _)|some (.array _ _)=>some true
 |some _=>some false
 |none=>none
def szB (P:Program)(t:TypeId):Option Nat:=match P.info? t with|some i=>some i.size|none=>none
def ldv (P:Program)(t:TypeId)(cells:List SV)(off:Nat):Option SV :=
 match K7 P t with
 |some true =>
  match szB P t with
  |some n=>match Ir ((cells.drop off).take n) with
   |some l=>cond (Nat.beq l.length n) (some (.v (.agg l.toArray))) none
   |none=>none
  |none=>none
 |some false=>match cells[off]? with
  |some (.v x)=>some (.v x)
  |some (.p k o)=>some (.p k o)
  |_=>none
 |none=>none
def I0:SV->Option (List SV)
 |.v x=>cond (x.cells.toList.all Bh) (some (x.cells.toList.map .v)) none
 |.p k off=>some [.p k off]
 |.junk=>none
def Mk (l:List SV)(off:Nat)(r:List SV):List SV:=l.take off++r++l.drop (off+r.length)
def Lr (P:Program)(t:TypeId)(f:Nat):Option Nat :=
 match P.underlying t with
 |some (.struct fs)=>match fs[f]? with
  |some fd=>match szB P fd.type with
   |some (_+1)=>some fd.offset
   |_=>none
  |none=>none
 |_=>none
def Ld (s:S)(x:Operand):Value:=match s.ev x with|.v y=>y|_=>undef
def isV:SV->Bool|.v _=>true|_=>false
def Ll (s:S)(o:Op):Bool:=o.operands.toList.all fun x=>isV (s.ev x)
def pv (P:Program)(env:Operand->Value)(o:Op):Option Value :=
 match o with
 |.extract x i=>match env x with|.tuple vs=>vs[i]?|_=>none
 |.pick c a b=>match env c with|.bool true=>some (env a)|.bool false=>some (env b)|_=>none
 |.makeFunc fn first captured=>some (.func fn (first.map env) (captured.map env))
 |.unOp .not _ x=>match env x with|.bool b=>some (.bool !b)|_=>none
 |.convert src dst x=>match P.underlying src with
  |some .string=>match P.underlying dst with
   |some .string=>match env x with|.string y=>some (.string y)|_=>none
   |_=>none
  |_=>none
 |.call { callee:=.builtin .len,args:=args,argTypes:=ts } =>
  match args[0]?,ts[0]? with
  |some x,some t=>match P.underlying t with
   |some (.slice _)=>match env x with|.slice _ n _=>some (.int .i64 n)|_=>none
   |some .string=>match env x with|.string y=>some (.int .i64 y.size)|_=>none
   |_=>none
  |_,_=>none
 |.nilCheck x=>match env x with|.pointer (some a)=>some (.pointer (some a))|_=>none
 |.build t ps=>match P.info? t with
  |some i=>match i.zero with
   |some z=>match P.underlying t with
    |some (.struct fs)=>match Pe P fs.toList with
     |some pl=>match Ab4 pl z.cells.toList (ps.toList.map fun (i,x)=>(i,env x)) with|some l=>some (.agg l.toArray)|none=>none
     |none=>none
    |_=>none
   |none=>none
  |none=>none
 |.field t x f=>match P.underlying t with
  |some (.struct fs)=>match fs[f]? with
   |some fd=>match K7 P fd.type with
    |some false=>match env x with|.agg cs=>cs[fd.offset]?|_=>none
    |some true=>match szB P fd.type with
     |some n=>match env x with|.agg cs=>some (.agg (cs.extract fd.offset (fd.offset+n)))|_=>none
     |none=>none
    |none=>none
   |none=>none
  |_=>none
 |_=>none
def eff (P:Program)(name:Nat)(s:S)(o:Op):Option (SV×Option (Nat×Blk)) :=
 match o with
 |.move x=>some (s.ev x,none)
 |.assign x=>some (s.ev x,none)
 |.alloc t=>match P.info? t with
  |some i=>match i.zero with
   |some z=>match s.hp name with
    |none=>match I0 (.v z) with
     |some l=>some (.p name 0,some (name,⟨t,l⟩))
     |none=>none
    |some _=>none
   |none=>none
  |none=>none
 |.box t x=>match s.hp name with
  |none=>match I0 (s.ev x) with
   |some l=>some (.p name 0,some (name,⟨t,l⟩))
   |none=>none
  |some _=>none
 |.load t x=>match s.ev x with
  |.p k off=>match s.hp k with
   |some b=>match ldv P t b.cells off with|some y=>some (y,none)|none=>none
   |none=>none
  |_=>none
 |.store t x y=>match s.ev x with
  |.p k off=>match s.hp k with
   |some b=>match I0 (s.ev y) with
    |some l=>match szB P t with
     |some n=>cond (Nat.beq l.length n&&Nat.ble (off+n) b.cells.length) (some (.v undef,some (k,⟨b.t,Mk b.cells off l⟩))) none
     |none=>none
    |none=>none
   |none=>none
  |_=>none
 |.fieldAddr t x f=>match s.ev x with
  |.p k off=>match Lr P t f with|some fo=>some (.p k (off+fo),none)|none=>none
  |_=>none
 |o=>match Ll s o with
  |true=>match pv P (Ld s) o with|some y=>some (.v y,none)|none=>none
  |false=>none
section sound
variable {P:Program} {c:Cx} {s:S} {u m:PH} {ρ:Nat->Nat} {a:Act} {w:World}
def W7:∀ {l:List SV} {r:List Value},Ir l=some r->l=r.map .v
 |[],r,h=>by simp[Ir]at h;simp[h]
 |.v x::l,r,h=>by
  unfold Ir at h;cases hl:Ir l with
  |none=>simp[hl]at h
  |some r'=>simp[hl]at h;subst h;simp[<-W7 hl]
 |.junk::l,r,h=>by simp[Ir]at h
 |.p k off::l,r,h=>by simp[Ir]at h
theorem D3 {b:Bool}(h:K7 P t=some b)(w:World):(isAgg t).run P w=.ok b w:=by
 unfold K7 at h;unfold isAgg;cases hd:P.underlying t with
 |none=>grind
 |some d=>simp only[Sem.run_bind,run_underlying hd];cases d<;>simp_all
theorem Be {n:Nat}(h:szB P t=some n)(w:World):(sizeOf t).run P w=.ok n w:=by
 unfold szB at h;unfold sizeOf typeInfo;cases hi:P.info? t with
 |none=>grind
 |some i=>simp_all
def Dt (g off j:Nat):(⟨g,off,none⟩:Addr).add j=⟨g,off+j,none⟩:=by unfold Addr.add;split<;>simp_all
def Ti {o:Option Obj}(h:Alx ρ b o)(f:w.heap[g]?=o)(hi:b.cells[i]?=some x)(j:x≠.junk):w.cell? ⟨g,i,none⟩=some (x.den ρ):=by
 obtain⟨cs,e,_,d⟩:=h;simp[World.cell?,f,e,d i x hi j]
theorem Afp {g off:Nat}{y:SV}(h:Alx ρ b (w.heap[g]?))(d:ldv P t b.cells off=some y) :
 (loadVar t ⟨g,off,none⟩).run P w=.ok (y.den ρ) w/\y≠.junk/\(∀ k o,y=.p k o->SV.p k o∈b.cells):=by
 unfold ldv at d;unfold loadVar;split at d
 ·rename_i ha;split at d
  ·rename_i n hn;split at d
   ·rename_i l hl;cases hlen:Nat.beq l.length n with
    |false=>grind
    |true =>
     simp[hlen]at d;subst d;have r:l.length=n:=Aug hlen;have A:=W7 hl;have f:∀ j v,l[j]?=some v->w.cell? ((⟨g,off,none⟩:Addr).add j)=some v:=by
      intro j v z;rw[Dt];have q:((b.cells.drop off).take n)[j]?=some (.v v):=by grind
      rw[Avu]at q;split at q
      ·rw[Axm]at q;exact Ti h rfl q mV
      cases q
     have:=run_loadCells_list (P:=P) w ⟨g,off,none⟩ l f;refine⟨?_,mV,mV⟩;simp only[Sem.run_bind,D3 ha,Result.andThen_ok,if_true,Be hn];rw[<-r,this];rfl
   cases d
  cases d
 ·rename_i ha;split at d
  ·rename_i x hx;simp at d;subst d;have:=Ti h rfl hx mV;exact⟨by simp[D3 ha,this],mV,mV⟩
  ·rename_i k o hx;simp at d;subst d;have:=Ti h rfl hx mV;exact⟨by simp[D3 ha,this],mV,fun B o' e=>by simp at e;obtain⟨rfl,rfl⟩:=e;exact Ato hx⟩
  cases d
 grind
theorem Ew (h:I0 x=some l)(ρ:Nat->Nat) :
 l.map (·.den ρ)=(x.den ρ).cells.toList/\(∀ y∈l,y≠.junk)/\(∀ v∈l.map (SV.den ρ),Bh v=true)/\(∀ k o,SV.p k o∈l->x=.p k o)/\x≠.junk:=by
 cases x with
 |junk=>simp[I0]at h
 |v x =>
  unfold I0 at h;cases hc:x.cells.toList.all Bh with
  |false=>grind
  |true =>
   simp only[hc,cond_true,Atd]at h;subst h;refine⟨by simp[SV.den,Function.comp_def],mV,?_,mV,mV⟩;intro v e;simp[SV.den]at e;rw[Atx]at hc;exact hc v (by simpa using e)
 |p k off =>
  simp[I0]at h;subst h;refine⟨by simp[SV.den,Value.cells],mV,by simp[SV.den,Bh],?_,mV⟩;intro f o' d;simp at d;rw[d.1,d.2]
theorem Ai1 {v:List Value}(ρ:Nat->Nat)(h:l.map (·.den ρ)=v)(hi:l[i]?=some x):v.toArray[i]?=some (x.den ρ):=by grind
theorem Anu {l:List Value}(h:∀ v∈l,Bh v=true)(j:Nat)(z:Int):l.toArray[j]?≠some (.int .u64 z):=by
 intro e;rw[Avh]at e;exact Iu (h _ (Ato e)) z rfl
def Uk (t:TypeId)(v:Value):(newVar t v).run P w=.ok ⟨w.heap.size,0,none⟩ (w.alloc (.cells v.cells t)):=by
 simp[newVar,newRow]
def Rel.box_new (h:Rel c s u m ρ a w){k:Nat}(B:s.hp k=none)(C:I0 x=some l)(E:∀ j off,x=.p j off->s.hp j≠none)(t:TypeId){d:Option Nat}(A:∀ e,d=some e->e<s.n) :
 ∃ F,Rel c ((s.put d (.p k 0)).setb (some (k,⟨t,l⟩))) u m F (a.put d (.pointer (some ⟨w.heap.size,0,none⟩))) (w.alloc (.cells (x.den ρ).cells t)):=by
 obtain⟨f,H,q,r,_⟩:=Ew C ρ;have v:=h.alloc (k:=k) (b:=⟨t,l⟩) (cs:=(x.den ρ).cells) B (by rw[<-Awc,<-f];simp)
  (fun i y hi _=>by have:=Ai1 ρ f hi;simpa using this) (fun j off D=>E j off (r j off D))
  (fun j z=>by have:=Anu q j z;rw[f]at this;simpa using this)
 refine⟨fun j=>if j=k then w.heap.size else ρ j,?_⟩;rw[<-Pk];refine v.put (fun _=>by simp[SV.den]) (fun j off e=>?_) (by rw[Qd];exact A);simp only[SV.p.injEq]at e;rw[<-e.1,Bf];simp
theorem Nr (h:Rel c s u m ρ a w)(e:∀ cs b,o.op≠.select cs b)(d:Ll s o.op=true):execOp a.eval o=execOp (Ld s) o:=by
 refine execOp_congr o e fun x f=>?_;unfold Ll at d;rw[Atx]at d;have:=d x (by simpa using f);unfold isV at this;split at this
 ·rename_i y hy;rw[h.eval x (by rw[hy];simp),hy];simp[SV.den,Ld,hy]
 grind
def Aki {d:Operand->Value}{y:Value}(h:pv P d o.op=some y)(w:World):(execOp d o).run P w=.ok (.value y) w:=by
 obtain⟨B,C,A,pos,q,r⟩:=o;unfold pv at h;simp only at h;split at h
 ·rename_i x i;split at h
  ·rename_i vs hvs;simp[execOp,Instr.extract,hvs,h]
  cases h
 ·rename_i c x y';split at h
  ·rename_i hc;simp at h;subst h;simp[execOp,hc,asBool]
  ·rename_i hc;simp at h;subst h;simp[execOp,hc,asBool]
  cases h
 ·simp at h;subst h;simp[execOp,Instr.makeFunc]
 ·rename_i t x;split at h
  ·rename_i b hb;simp at h;subst h;simp[execOp,Op.unary,hb]
  cases h
 ·rename_i src dst' x;split at h
  ·rename_i k;split at h
   ·rename_i v;split at h
    ·rename_i z hz;simp at h;subst h;simp[execOp,convert,run_underlying k,run_underlying v,hz]
    cases h
   cases h
  cases h
 ·rename_i args ts;split at h
  ·rename_i x t hx ht;have j:(args.map d)[0]?=some (d x):=by simp[hx]
   split at h
   ·rename_i e hu;split at h
    ·rename_i hz;simp at h;subst h;simp[execOp,resolve,invoke,builtin,Builtin.len_,j,ht,run_underlying hu,hz,goInt]
    cases h
   ·rename_i hu;split at h
    ·rename_i hz;simp at h;subst h;simp[execOp,resolve,invoke,builtin,Builtin.len_,j,ht,run_underlying hu,hz,goInt]
    cases h
   cases h
  cases h
 ·rename_i x;split at h
  ·rename_i z hz;simp at h;subst h;simp[execOp,hz]
  cases h
 ·rename_i t ps;split at h
  ·rename_i i hi;split at h
   ·rename_i z hz;split at h
    ·rename_i fs hu;split at h
     ·rename_i pl hpl;split at h
      ·rename_i l hl;simp at h;subst h;have k:=S8 pl _ _ _ hl;have v:=Uv (w:=w) fs.toList pl hpl;have e:(ps.map fun (p:Nat×Operand)=>(p.1,d p.2)).toList=ps.toList.map fun (p:Nat×Operand)=>(p.1,d p.2):=mV;simp only[execOp,Instr.build,zeroValue,typeInfo,Sem.run_bind,Sem.run_map,run_program,Result.andThen_ok,hi,hz,Sem.run_pure,run_underlying hu];rw[<-Ays (xs:=fs),A0t];simp only[Sem.run_map,v,Result.andThen_ok,Avh];simp only[Ays]at k;rw[e,k];rfl
      cases h
     cases h
    cases h
   cases h
  cases h
 ·rename_i t x f;split at h
  ·rename_i fs hu;split at h
   ·rename_i fd hf;split at h
    ·rename_i ha;split at h
     ·rename_i cs hx;simp[execOp,Instr.field,run_underlying hu,hf,asAgg,hx,part,D3 ha,h]
     cases h
    ·rename_i ha;split at h
     ·rename_i n hn;split at h
      ·rename_i cs hx;simp at h;subst h;simp[execOp,Instr.field,run_underlying hu,hf,asAgg,hx,part,D3 ha,Be hn]
      cases h
     cases h
    cases h
   cases h
  cases h
 cases h
end sound
end
section
variable {l r:List SV}{off:Nat}{x:SV}
variable [Ca] [Df]
section sound
variable {P:Program} {c:Cx} {s:S} {u m:PH} {ρ:Nat->Nat} {a:Act} {w:World}
def Arz (P:Program)(a:Act)(o:Oper)(w:World)(y:Value)(w':World):Prop :=
 (execOp a.eval o).run P w=.ok (.value y) w'\/((execOp a.eval o).run P w=.ok .skip w'/\y=undef)
def Adl (l r:List SV)(off:Nat)(h:off+r.length<=l.length):(Mk l off r).length=l.length:=by
 unfold Mk;simp;omega
theorem U6 (h:x∈Mk l off r):x∈l\/x∈r:=by
 unfold Mk at h;rcases Ati.1 h with h|h
 ·rcases Ati.1 h with h|h
  ·exact .inl (Avd h)
  ·exact .inr h
 ·exact .inl (Avz h)
def Ac8 (h:off+r.length<=l.length)(i:Nat):(Mk l off r)[i]?=if i<off then l[i]? else if i<off+r.length then r[i-off]? else l[i]?:=by
 unfold Mk;rw[Au1,Axx];simp only[Atm,Av6 (show off<=l.length by omega)];split
 ·rw[Avu,if_pos (by assumption)]
 rw[Axx];by_cases b:i<off+r.length
 ·rw[if_pos oV,if_pos b]
 rw[if_neg oV,if_neg b,Axm];congr 1;omega
def Agu {cs:List Value}{r:List Value}(h:off+r.length<=cs.length)(i:Nat):(cs.take off++r++cs.drop (off+r.length))[i]?=if i<off then cs[i]? else if i<off+r.length then r[i-off]? else cs[i]?:=by
 rw[Au1,Axx];simp only[Atm,Av6 (show off<=cs.length by omega)];split
 ·rw[Avu,if_pos (by assumption)]
 rw[Axx];by_cases b:i<off+r.length
 ·rw[if_pos oV,if_pos b]
 rw[if_neg oV,if_neg b,Axm];congr 1;omega
def Ag0 (h:Rel c s u m ρ a w){U:Nat}{o:Oper}{hw:Option (Nat×Blk)}(d:eff P U s o.op=some (x,hw))(I:∀ e,o.dst=some e->e<s.n) :
 ∃ E w' y,Arz P a o w y w'/\Rel c ((s.put o.dst x).setb hw) u m E (a.put o.dst y) w':=by
 obtain⟨F,op,L,pos,B,C⟩:=o;simp only at d I⊢;have mv:∀ z:Operand,∃ E w' y,(Result.ok (Next.value (a.eval z)) w=Result.ok (Next.value y) w')/\Rel c (s.put F (s.ev z)) u m E (a.put F y) w':=by
  intro z;refine⟨ρ,w,a.eval z,rfl,h.put (fun q=>h.eval z q) (fun k off q=>?_) I⟩;cases z with
  |tmp t=>exact h.lv.1 t k off q
  |const v=>cases q
  |global g=>cases q
  |func f=>cases q
 have D:∀ (z:Operand) (k off:Nat),s.ev z=.p k off->s.hp k≠none:=by
  intro z k off q;cases z with
  |tmp t=>exact h.lv.1 t k off q
  |const v=>cases q
  |global g=>cases q
  |func f=>cases q
 unfold eff at d;split at d
 ·rename_i z;simp only[Atd,Aun]at d;obtain⟨rfl,rfl⟩:=d;obtain⟨E,w',y,e,r⟩:=mv z;exact⟨E,w',y,.inl (by simpa[execOp] using e),r⟩
 ·rename_i z;simp only[Atd,Aun]at d;obtain⟨rfl,rfl⟩:=d;obtain⟨E,w',y,e,r⟩:=mv z;exact⟨E,w',y,.inl (by simpa[execOp] using e),r⟩
 ·rename_i t;split at d
  ·rename_i i hi;split at d
   ·rename_i z q;split at d
    ·rename_i hn;split at d
     ·rename_i l hl;simp only[Atd,Aun]at d;obtain⟨rfl,rfl⟩:=d;obtain⟨E,r⟩:=h.box_new hn hl mV t I;refine⟨E,_,_,.inl ?_,r⟩;simp[execOp,Instr.alloc,zeroValue,typeInfo,hi,q,Uk,SV.den]
     cases d
    cases d
   cases d
  cases d
 ·rename_i t z;split at d
  ·rename_i hn;split at d
   ·rename_i l hl;simp only[Atd,Aun]at d;obtain⟨rfl,rfl⟩:=d;obtain⟨E,r⟩:=h.box_new hn hl (fun j off q=>D z j off q) t I;refine⟨E,_,_,.inl ?_,r⟩;have q:=h.eval z (Ew hl ρ).2.2.2.2;simp[execOp,Instr.box,Uk,q]
   cases d
  cases d
 ·rename_i t z;split at d
  ·rename_i k off q;split at d
   ·rename_i b hb;split at d
    ·rename_i y hy;simp only[Atd,Aun]at d;obtain⟨rfl,rfl⟩:=d;obtain⟨h1,h2,h3⟩:=Afp (P:=P) (w:=w) (h.box k b hb).1 hy;have A:=h.eval z (by rw[q];simp);rw[q]at A;refine⟨ρ,w,y.den ρ,.inl ?_,h.put (fun _=>rfl) (fun Y o' e=>h.lv.2 k b Y o' hb (h3 Y o' e)) I⟩;simp[execOp,Instr.loadAt,Instr.sureAddr,A,SV.den,h1]
    cases d
   cases d
  cases d
 ·rename_i t z y;split at d
  ·rename_i k off q;split at d
   ·rename_i b hb;split at d
    ·rename_i l hl;split at d
     ·rename_i n hn;cases hc:(Nat.beq l.length n&&Nat.ble (off+n) b.cells.length) with
      |false=>simp[hc]at d
      |true =>
       simp only[hc,cond_true,Atd,Aun]at d;obtain⟨rfl,rfl⟩:=d;simp only[Atj]at hc;have N:l.length=n:=Aug hc.1;have a0:off+n<=b.cells.length:=Azz hc.2;obtain⟨V,e2,e3,e4,e5⟩:=Ew hl ρ;have A:=h.eval z (by rw[q];simp);rw[q]at A;have X:=h.eval y e5;obtain⟨⟨cs,c1,c2,c3⟩,r0,r1,r2⟩:=h.box k b hb;have H:((s.ev y).den ρ).cells.toList.length=n:=by rw[<-V];simpa using N
       have R:=run_storeCells_at P (ρ k) off b.t ((s.ev y).den ρ).cells.toList 0 cs w c1 oV (fun v hv=>Ic (e3 v (by rw[V];exact hv)));have J:off+((s.ev y).den ρ).cells.toList.length<=cs.toList.length:=by simp at H⊢;omega
       refine⟨ρ,w.setRow (ρ k) (cs.toList.take off++((s.ev y).den ρ).cells.toList++cs.toList.drop (off+((s.ev y).den ρ).cells.toList.length)).toArray,undef,.inr ⟨?_,rfl⟩,?_⟩
       ·have W:((s.ev y).den ρ).cells.size=n:=by simpa using H
        have T:a.eval z=.pointer (some ⟨ρ k,off,none⟩):=A;simp only[execOp,Instr.storeAt,Instr.sureAddr,T,X,storeVar,Sem.run_bind,Sem.run_pure,Result.andThen_ok,Be hn,W,ne_eq,not_true_eq_false,if_false];simp only[Avb]at R;simp[R]
       rw[<-Pk];refine Rel.put (x:=.v undef) ?_ (fun _=>rfl) mV (by rw[Qd];exact I);refine h.store (b':=⟨b.t,Mk b.cells off l⟩) hb rfl ?_ (fun i x hi hx=>?_) (fun j o O=>?_) (fun j Z=>?_)
       ·simp only[Azi];rw[Adl _ _ _ oV];simp at H⊢;omega
       ·rw[Avh,Agu J];rw[Ac8 oV]at hi;rw[H];rw[N]at hi;split
        ·rename_i hlt;rw[if_pos hlt]at hi;have:=c3 i x hi hx;simpa using this
        rename_i hlt;rw[if_neg hlt]at hi;split
        ·rename_i hlt2;rw[if_pos hlt2]at hi;rw[<-V];simp[hi]
        rename_i hlt2;rw[if_neg hlt2]at hi;have:=c3 i x hi hx;simpa using this
       ·rcases U6 O with O|O
        ·exact h.lv.2 k b j o hb O
        exact D y j o (e4 j o O)
       intro e;rw[Avh,Agu J]at e;have Q:∀ (i:Nat),cs.toList[i]?≠some (Value.int .u64 Z):=fun i hi=>by
        have:=h.gd.cl (ρ k) cs b.t (0,0) i Z c1 (by simpa using hi);rw[r1]at this;cases this
       split at e
       ·exact Q _ e
       split at e
       ·exact Iu (e3 _ (by rw[V];exact Ato e)) Z rfl
       exact Q _ e
     cases d
    cases d
   cases d
  cases d
 ·rename_i t z f;split at d
  ·rename_i k off q;split at d
   ·rename_i fo hf;simp only[Atd,Aun]at d;obtain⟨rfl,rfl⟩:=d;have A:=h.eval z (by rw[q];simp);rw[q]at A;refine⟨ρ,w,_,.inl ?_,h.put (y:=.pointer (some ⟨ρ k,off+fo,none⟩)) (fun _=>rfl) (fun Y o' e=>?_) I⟩
    ·unfold Lr at hf;split at hf
     ·rename_i fs hfs;split at hf
      ·rename_i fd hfd;split at hf
       ·rename_i n hn;simp only[Atd]at hf;subst hf;simp[execOp,Instr.fieldAt,run_underlying hfs,hfd,Instr.sureAddr,A,SV.den,fieldPlace,Be hn,Dt]
       cases hf
      cases hf
     cases hf
    simp only[SV.p.injEq]at e;rw[<-e.1];exact D z k off q
   cases d
  cases d
 rename_i hn1 hn2 hn3 hn4 hn5 hn6 hn7;split at d
 ·rename_i hall;split at d
  ·rename_i y hy;simp only[Atd,Aun]at d;obtain⟨rfl,rfl⟩:=d;refine⟨ρ,w,y,.inl ?_,h.put (fun _=>rfl) mV I⟩;rw[Nr (o:=⟨F,op,L,pos,B,C⟩) h (fun cs b K=>?_) hall]
   ·exact Aki (o:=⟨F,op,L,pos,B,C⟩) hy w
   simp only at K;subst K;simp[pv]at hy
  cases d
 cases d
end sound
end
section
variable {a:Act}{d:Option Nat}{hw:Option (Nat×Blk)}{i name y:Nat}{m u:PH}{o:Oper}{s s':S}{w:World}{x:SV}{z:Operand}{ρ:Nat->Nat}
variable [Ca] [Df] [Pu]
def gv (s:S)(ops:Array Oper)(o:Oper):Option Bool :=
 match o.guard with
 |none=>some true
 |some (j,want)=>match ops[j]? with
  |some oj=>match oj.dst with
   |some d=>match s.tm d with
    |.v (.bool b)=>some (b==want)
    |.v (.tuple _)=>some false
    |_=>none
   |none=>none
  |none=>none
def Gi (s:S)(o:Oper):Bool:=match o.dst with|none=>true|some d=>Nat.blt d s.n
def Aoo (d:TypeId):Bool:=Nat.beq d 3
def Ek:Op->Bool
 |.convert _ d _=>Aoo d
 |.move _|.assign _|.pick ..|.alloc _|.box ..|.build ..|.load ..|.nilCheck _|.binOp ..|.unOp ..|.fieldAddr ..|.field ..|.indexAddr ..|.index ..|.slice ..|.extract ..|.makeFunc ..|.makeInterface ..=>true
 |.lookup ..=>true
 |.call { callee:=.builtin .len,.. }|.call { callee:=.builtin .cap,.. }|.call { callee:=.builtin .max,.. }|.call { callee:=.builtin .min,.. }=>true
 |_=>false
def Gq:Op->Bool
 |.convert _ d _=>!Aoo d
 |.load ..|.lookup ..=>true
 |_=>false
def Lj:Op->Bool
 |.store ..=>true
 |.call { callee:=.builtin .append,.. }|.call { callee:=.builtin .copy,.. }=>true
 |_=>false
def bef (ops:Array Oper):Nat->Nat->Nat->Bool
 |0,_,_=>false
 |f+1,i,x=>match ops[i]? with
  |some o=>o.after.toList.any fun e=>Region.binds .any e&&(Nat.beq e.on x||bef ops f e.on x)
  |none=>false
def Asy:Op->Bool
 |.call { callee:=.value _,.. }=>true
 |.mapUpdate ..|.insert ..=>true
 |_=>false
def Ase (ops:Array Oper)(y:Nat):Bool:=(List.range ops.size).all fun x=>Nat.beq x y||bef ops ops.size y x
def Nh (ops:Array Oper)(y:Nat)(o:Op):Bool:=Lj o||(Asy o&&Ase ops y)
def Ahz {ops:Array Oper}{o:Op}(h:Lj o=true):Nh ops y o=true:=by unfold Nh;rw[h];rfl
theorem Ajg {ops:Array Oper}{o:Op}(h:Nh ops y o=false):Lj o=false:=by
 unfold Nh at h;cases hm:Lj o with
 |true=>grind
 |false=>rfl
def N1 (ops:Array Oper)(t:Nat):Bool:=ops.toList.all fun o=>match o.dst with|some d=>!Nat.beq d t|none=>true
def isP:SV->Bool
 |.p _ _=>true
 |_=>false
def faB (ops:Array Oper)(s:S)(o:Oper):Bool:=o.guard.isNone&&match o.op with
 |.fieldAddr _ (.tmp b) _=>N1 ops b&&isP (s.tm b)
 |_=>false
def wrB (t:Nat)(o:Oper):Bool:=match o.dst with|some d=>Nat.beq d t|none=>false
def Vr (ops:Array Oper)(s:S)(t:Nat):Bool:=ops.toList.any (wrB t)&&ops.toList.all fun o=>!wrB t o||faB ops s o
def Acl (ops:Array Oper)(s:S)(o:Oper):Bool:=match o.op with
 |.load _ (.tmp t)=>(N1 ops t&&isP (s.tm t))||Vr ops s t
 |_=>false
def Ja (ops:Array Oper)(s:S):Bool:=ops.toList.all fun o=>!Gq o.op||Acl ops s o
def Ev:Op->Bool
 |.alloc _|.box ..=>true
 |_=>false
def Lu:Op->Bool
 |.select ..=>false
 |_=>true
def Jg {o:Op}(h:Lu o=true)(cs:Array SelectCase)(b:Bool):o≠.select cs b:=by rintro rfl;simp[Lu]at h
def E2 (P:Program)(env:Operand->Value)(o:Oper)(w:World)(K:Value->World->Prop):Prop :=
 match (execOp env o).run P w with
 |.ok (.value v) w'=>K v w'
 |.ok .skip w'=>K undef w'
 |.ok (.enter f args) w'=>Calls P f args w' fun e w''=>∃ v,e=.returned v/\K v w''
 |_=>False
inductive Ob (P:Program)(id:Nat)(ops:Array Oper)(dr:Bool)(Fin:S->PH->PH->Prop):List Nat->S->PH->PH->Prop
 |nil {s:S} {u m:PH}:Fin s u m->Ob P id ops dr Fin [] s u m
 |auto {i:Nat} {l:List Nat} {s:S} {u m:PH} {o:Oper} {x:SV} {hw:Option (Nat×Blk)}:ops[i]?=some o->gv s ops o=some true->Gi s o=true->eff P (id*1000+i) s o.op=some (x,hw) ->
  Ob P id ops dr Fin l ((s.put o.dst x).setb hw) u m->Ob P id ops dr Fin (i::l) s u m
 |skip {i:Nat} {l:List Nat} {s:S} {u m:PH} {o:Oper}:ops[i]?=some o->gv s ops o=some false->Gi s o=true ->
  Ob P id ops dr Fin l (s.put o.dst (.v undef)) u m->Ob P id ops dr Fin (i::l) s u m
 |ask {i:Nat} {l:List Nat} {s:S} {u m:PH} {o:Oper} {v:Value}:ops[i]?=some o->gv s ops o=some true->Gi s o=true->Ll s o.op=true->Lu o.op=true->Ev o.op=false ->
  (∀ w,(Gq o.op=true\/dr=false->Em u w/\(Pu.b=false\/dr=false->Em m w))->(execOp (Ld s) o).run P w=.ok (.value v) w) ->
  Ob P id ops dr Fin l (s.put o.dst (.v v)) u m->Ob P id ops dr Fin (i::l) s u m
 |big {i:Nat} {l:List Nat} {s:S} {u m:PH} {o:Oper} {K:Value->PH->PH->Prop}:ops[i]?=some o->gv s ops o=some true->Gi s o=true->Ll s o.op=true->Lu o.op=true->Ek o.op=false ->
  (∀ v u' m',K v u' m'->PH.le m m'\/dr=false\/Nh ops i o.op=true\/Ja ops s=true\/Pu.b=true) ->
  (∀ w,B1 u m w->E2 P (Ld s) o w fun v w'=>∃ u' m',B1 u' m' w'/\B8 u m w u' m' w'/\K v u' m') ->
  (∀ v u' m',PH.le u u'->K v u' m'->Ob P id ops dr Fin l (s.put o.dst (.v v)) u' m')->Ob P id ops dr Fin (i::l) s u m
section sound
variable {P:Program} {id:Nat} {ops:Array Oper} {dr:Bool} {Fin:S->PH->PH->Prop} {c:Cx} {Q:Exit->Act->World->Prop}
theorem M0 (h:Rel c s u m ρ a w){b:Bool}(f:gv s ops o=some b):Region.wanted o (yielded ops a.tmps)=b:=by
 unfold gv at f;unfold Region.wanted;split at f
 ·grind
 rename_i j want e;rw[e];split at f
 ·rename_i oj hj;split at f
  ·rename_i d hd;split at f
   ·rename_i b' hb;have:=h.tm d (by rw[hb];simp);rw[hb]at this;simp[yielded,hj,hd,this]at f⊢;exact f
   ·rename_i vs hb;have:=h.tm d (by rw[hb];simp);rw[hb]at this;simp only[Atd]at f;subst f;simp[yielded,hj,hd,this,SV.den]
   cases f
  cases f
 grind
def Y6 (h:Gi s o=true):∀ e,o.dst=some e->e<s.n:=by
 intro e b;unfold Gi at h;rw[b]at h;exact A0v▸h
def Xc {w w':World}{y:Value}{K:Act->World->Prop}(h:Arz P a o w y w')(b:K (a.put o.dst y) w'):o.wp P a w K Q:=by
 unfold Oper.wp;rcases h with h|⟨h,rfl⟩<;>rw[h]<;>exact b
theorem W3 {ops:Array Oper}(h:∀ t,N1 ops t=true->s'.tm t=s.tm t)(o:Oper):faB ops s' o=faB ops s o:=by
 unfold faB;split
 ·grind
 rfl
def Kp {ops:Array Oper}(h:∀ t,N1 ops t=true->s'.tm t=s.tm t)(t:Nat):Vr ops s' t=Vr ops s t:=by
 unfold Vr;simp only[W3 h]
def Adr {ops:Array Oper}(h:∀ t,N1 ops t=true->s'.tm t=s.tm t)(o:Oper):Acl ops s' o=Acl ops s o:=by
 unfold Acl;split
 ·rename_i t' t hop;rw[Kp h];cases hn:N1 ops t with
  |false=>rfl
  |true=>rw[h t hn]
 rfl
def Yg {ops:Array Oper}(h:∀ t,N1 ops t=true->s'.tm t=s.tm t):Ja ops s'=Ja ops s:=by
 unfold Ja;simp only[Adr h]
def ixB (o:Oper):Bool:=match o.op with
 |.indexAddr ..=>true
 |_=>false
def alB (ops:Array Oper)(t:Nat):Bool:=ops.toList.all fun o=>!wrB t o||(Ev o.op&&o.guard.isNone)
def Ahg (ops:Array Oper)(s:S)(t:Nat):Bool:=ops.toList.all fun o=>!wrB t o||ixB o||faB ops s o
def Aej {ops:Array Oper}(h:∀ t,N1 ops t=true->s'.tm t=s.tm t)(t:Nat):Ahg ops s' t=Ahg ops s t:=by
 unfold Ahg;simp only[W3 h]
structure F1 (ops:Array Oper)(s s':S):Prop where
 eq:∀ t,N1 ops t=true->s'.tm t=s.tm t
 pt:∀ t,Vr ops s t=true->isV (s.tm t)=false->isV (s'.tm t)=false
 nw:∀ t,alB ops t=true->isV (s.tm t)=false->isV (s'.tm t)=false
 ol:∀ t k off,Ahg ops s t=true->s'.tm t=.p k off->s.tm t=.p k off\/∃ b off',N1 ops b=true/\s.tm b=.p k off'
 fr:∀ t k off,alB ops t=true->s'.tm t=.p k off->s.tm t=.p k off\/s.hp k=none
 hm:∀ k,s.hp k≠none->s'.hp k≠none
def F1.refl (ops:Array Oper)(s:S):F1 ops s s:=⟨fun _ _=>rfl,fun _ _ h=>h,fun _ _ h=>h,fun _ _ _ _ h=>.inl h,fun _ _ _ _ h=>.inl h,fun _ h=>h⟩
def F1.trans {ops:Array Oper}{s s' j:S}(h:F1 ops s s')(g:F1 ops s' j):F1 ops s j :=
 ⟨fun t f=>(g.eq t f).trans (h.eq t f),fun t f l=>g.pt t (by rw[Kp h.eq];exact f) (h.pt t f l),fun t f l=>g.nw t f (h.nw t f l),
  fun t k off f hp=>by
   rcases g.ol t k off (by rw[Aej h.eq];exact f) hp with e|⟨b,o2,e1,e2⟩
   ·exact h.ol t k off f e
   exact .inr ⟨b,o2,e1,by rw[<-h.eq b e1];exact e2⟩,
  fun t k off f hp=>by
   rcases g.fr t k off f hp with e|e
   ·exact h.fr t k off f e
   refine .inr (Au2 fun p=>h.hm k p e),fun k n=>g.hm k (h.hm k n)⟩
structure Fit (ops:Array Oper)(s:S)(o:Oper)(x:SV):Prop where
 fa:faB ops s o=true->isV x=false
 al:Ev o.op=true->o.guard.isNone=true->isV x=false
 ol:ixB o=true\/faB ops s o=true->∀ k off,x=.p k off->∃ b off',N1 ops b=true/\s.tm b=.p k off'
 fr:Ev o.op=true->∀ k off,x=.p k off->s.hp k=none
theorem Yt {ops:Array Oper}(b:ops[i]?=some o):o∈ops.toList:=by grind
def Ff (A:ops[i]?=some o)(x:SV)(hw:Option (Nat×Blk))(h:Fit ops s o x):F1 ops s ((s.put o.dst x).setb hw):=by
 have l:∀ {t:Nat} {q:Oper->Bool},(ops.toList.all fun o=>!wrB t o||q o)=true->o.dst=some t->q o=true:=fun {t q} g f=>by
  rw[Atx]at g;have:=g o (Yt A);have r:wrB t o=true:=by unfold wrB;rw[f];simp
  rw[r]at this;simpa using this
 refine⟨fun t g=>?_,fun t g p=>?_,fun t g p=>?_,fun t k off g hp=>?_,fun t k off g hp=>?_,fun k v=>?_⟩
 ·rw[Ep,Fd];intro f;unfold N1 at g;rw[Atx]at g;have:=g o (Yt A);rw[f]at this;simp at this
 ·rw[Ep];by_cases f:o.dst=some t
  ·rw[f,B9];unfold Vr at g;rw[Atj]at g;exact h.fa (l g.2 f)
  rw[Fd s _ _ f];exact p
 ·rw[Ep];by_cases f:o.dst=some t
  ·rw[f,B9];have:=l g f;rw[Atj]at this;exact h.al this.1 this.2
  rw[Fd s _ _ f];exact p
 ·rw[Ep]at hp;by_cases f:o.dst=some t
  ·rw[f,B9]at hp;have n:(ops.toList.all fun o=>!wrB t o||(ixB o||faB ops s o))=true:=by unfold Ahg at g;simpa only[Bool.or_assoc] using g
   have:=l n f;rw[Av7]at this;exact .inr (h.ol this k off hp)
  rw[Fd s _ _ f]at hp;exact .inl hp
 ·rw[Ep]at hp;by_cases f:o.dst=some t
  ·rw[f,B9]at hp;have:=l g f;rw[Atj]at this;exact .inr (h.fr this.1 k off hp)
  rw[Fd s _ _ f]at hp;exact .inl hp
 rcases hw with _|⟨j,b⟩
 ·show (s.put o.dst x).hp k≠none;rw[C6];exact v
 by_cases e:k=j
 ·subst e;rw[Bf];simp
 rw[A6 _ _ _ e,C6];exact v
theorem Y0 (h:faB ops s o=true):o.guard=none/\∃ T b f,o.op=.fieldAddr T (.tmp b) f/\isP (s.tm b)=true:=by
 unfold faB at h;rw[Atj]at h;obtain⟨g,e⟩:=h;refine⟨by simpa using g,?_⟩;split at e
 ·grind
 cases e
theorem Ao3 (e:eff P name s o.op=some (x,hw))(h:faB ops s o=true):isV x=false:=by
 obtain⟨_,T,b,f,g,hp⟩:=Y0 h;rw[g]at e;unfold eff at e;simp only[show s.ev (.tmp b)=s.tm b from rfl]at e;cases hb:s.tm b with
 |junk=>grind
 |v y=>grind
 |p k off =>
  rw[hb]at e;simp only at e;split at e
  ·simp only[Atd,Aun]at e;rw[<-e.1];rfl
  cases e
def Aoq (b:gv s ops o=some false)(h:faB ops s o=true):False:=by
 obtain⟨e,_⟩:=Y0 h;unfold gv at b;rw[e]at b;simp at b
def An1 (g:Ll s o.op=true)(h:faB ops s o=true):False:=by
 obtain⟨_,T,b,f,e,hp⟩:=Y0 h;unfold Ll at g;rw[Atx]at g;have:=g (.tmp b) (by rw[e];simp[Op.operands]);rw[show s.ev (.tmp b)=s.tm b from rfl]at this;cases hb:s.tm b with
 |junk=>rw[hb]at hp;cases hp
 |v y=>rw[hb]at hp;cases hp
 |p k off=>rw[hb]at this;cases this
theorem Ajp {o:Op}(b:eff P name s o=some (x,hw))(e:Ev o=true):x=.p name 0/\s.hp name=none:=by
 unfold Ev at e;split at e
 ·unfold eff at b;simp only at b;split at b
  ·grind
  cases b
 ·unfold eff at b;simp only at b;split at b
  ·grind
  cases b
 cases e
theorem Fit.auto (e:eff P name s o.op=some (x,hw)):Fit ops s o x:=by
 refine⟨Ao3 e,fun g _=>by rw[(Ajp e g).1];rfl,fun h k off j=>?_,fun g k off j=>?_⟩
 ·rcases h with h|h
  ·unfold ixB at h;split at h
   ·rename_i t a b hop;rw[hop]at e;unfold eff at e;simp only at e;split at e
    ·grind
    cases e
   cases h
  unfold faB at h;rw[Atj]at h;obtain⟨_,h⟩:=h;split at h
  ·rename_i T b f hop;rw[hop]at e;unfold eff at e;simp only[show s.ev (.tmp b)=s.tm b from rfl]at e;cases hb:s.tm b with
   |junk=>grind
   |v y=>grind
   |p k' off'=>grind
  cases h
 obtain⟨l,n⟩:=Ajp e g;rw[l]at j;cases j;exact n
def Fit.skip (b:gv s ops o=some false):Fit ops s o (.v undef) :=
 ⟨fun h=>(Aoq b h).elim,fun _ h=>by
  unfold gv at b;rw[show o.guard=none by simpa using h]at b;simp at b,fun _ k off e=>(by cases e),fun _ k off e=>(by cases e)⟩
def Fit.val (f:Ll s o.op=true)(b:Ev o.op=false)(y:Value):Fit ops s o (.v y) :=
 ⟨fun h=>(An1 f h).elim,fun h=>(by rw[b]at h;cases h),fun _ k off e=>(by cases e),fun _ k off e=>(by cases e)⟩
def Ae3 {o:Op}(h:Ek o=false):Ev o=false:=by
 cases o<;>first|rfl|(simp[Ek]at h)
theorem Ob.step {l:List Nat}(h:Ob P id ops dr Fin (i::l) s u m)(g:Rel c s u m ρ a w) :
 wpOp P ops Q i (fun F w'=>∃ s' n j A,Rel c s' n j A F w'/\F1 ops s s'/\Ob P id ops dr Fin l s' n j) a w:=by
 cases h with
 |auto ho hg hd t hl =>
  simp only[wpOp,ho,M0 g hg];obtain⟨A,w',y,p,B⟩:=Ag0 (P:=P) g t (Y6 hd);exact .inl (Xc p ⟨_,_,_,_,B,Ff ho _ _ (Fit.auto t),hl⟩)
 |skip ho hg hd hl =>
  simp only[wpOp,ho,M0 g hg];exact⟨_,_,_,_,g.put (x:=.v undef) (fun _=>rfl) mV (Y6 hd),Ff ho _ none (Fit.skip hg),hl⟩
 |ask ho hg hd hv hs hal hw hl =>
  simp only[wpOp,ho,M0 g hg];refine .inl (Xc (.inl ?_) ⟨_,_,_,_,g.put (fun _=>rfl) mV (Y6 hd),Ff ho _ none (Fit.val hv hal _),hl⟩);rw[Nr g (Jg hs) hv];exact hw w (fun _=>⟨g.gd.pu,fun _=>g.gd.pm⟩)
 |big ho hg hd hv hs hf hk hw hl =>
  rename_i o K;simp only[wpOp,ho,M0 g hg];refine .inl ?_;have p:=hw w g.gd;have fin:∀ v w',(∃ n j,B1 n j w'/\B8 u m w n j w'/\K v n j)->∃ s' n j A,Rel c s' n j A (a.put o.dst v) w'/\F1 ops s s'/\Ob P id ops dr Fin l s' n j:=by
   rintro v w' ⟨n,j,g1,g2,J⟩;refine⟨_,n,j,ρ,?_,Ff ho _ none (Fit.val hv (Ae3 hf) _),hl v n j (g2.le g.gd.pu) J⟩;refine Rel.put (x:=.v v) ?_ (fun _=>rfl) mV (Y6 hd);refine⟨g.sz,g.tm,g.df.of fun r e _ N E=>⟨by rw[g2.old _ (B0 e) E];exact e,by rw[g2.us _ (B0 e)];exact N,g2.ms _ (B0 e) E⟩,fun k b L=>?_,g.inj,g.lv,g1,g.gr.trans g2⟩;obtain⟨C,H,I,D⟩:=g.box k b L;have q:ρ k<w.heap.size:=by obtain⟨cs,e,_⟩:=C;exact B0 e
   refine⟨?_,H,?_,?_⟩
   ·rw[g2.old _ q D];exact C
   ·rw[g2.us _ q];exact I
   exact g2.ms _ q D
  unfold E2 at p;unfold Oper.wp;rw[Nr g (Jg hs) hv];split at p
  ·rename_i v w' e;rw[e];exact fin _ _ p
  ·rename_i w' e;rw[e];exact fin _ _ p
  ·rename_i f args w' e;rw[e];refine Calls.mono p fun R O t=>?_;obtain⟨v,rfl,B⟩:=t;exact fin _ _ B
  grind
def Ob.wpOps (b:∀ s u m ρ a w,Fin s u m->Rel c s u m ρ a w->Q .normal a w):∀ {l:List Nat} {s:S} {u m:PH} {ρ:Nat->Nat} {a:Act} {w:World},Ob P id ops dr Fin l s u m->Rel c s u m ρ a w->Go.wpOps P ops Q l a w
 |[],s,u,m,ρ,a,w,h,hr=>by
  cases h with
  |nil h=>exact b _ _ _ _ _ _ h hr
 |i::l,s,u,m,ρ,a,w,h,hr=>by
  rw[wpOps_cons];refine wpOp_mono (fun g w' ⟨s',k,j,n,e,_,f⟩=>?_) (h.step (Q:=Q) hr);exact Ob.wpOps b f e
def Arg (h:∀ e,d=some e->z≠.tmp e):(s.put d x).ev z=s.ev z:=by
 cases z with
 |tmp t=>exact Fd s d x (fun e=>h t e rfl)
 |_=>rfl
def Aoa {w:Option (Nat×Blk)}:(s.setb w).ev z=s.ev z:=by
 cases z with
 |tmp t=>show (s.setb w).tm t=s.tm t;rw[Ep]
 |_=>rfl
def T1 {w:Option (Nat×Blk)}(h:∀ e,d=some e->e∉o.looksAt ops)(g:z∈o.op.operands):((s.put d x).setb w).ev z=s.ev z:=by
 rw[Aoa];refine Arg fun e f b=>h e f ?_;subst b;exact Avn _ (List.mem_filterMap.2 ⟨.tmp e,by simpa using g,rfl⟩)
def Te {w:Option (Nat×Blk)}(h:∀ e,d=some e->e∉o.looksAt ops):gv ((s.put d x).setb w) ops o=gv s ops o:=by
 unfold gv;cases hg:o.guard with
 |none=>rfl
 |some p =>
  obtain⟨j,b⟩:=p;simp only;cases hj:ops[j]? with
  |none=>rfl
  |some oj =>
   simp only;cases hd:oj.dst with
   |none=>rfl
   |some e =>
    simp only;rw[Ep,Fd s d x (fun f=>h e f (by simp[Oper.looksAt,hg,hj,hd]))]
def I4 {o:Op}(h:∀ z∈o.operands,s'.ev z=s.ev z):∀ z∈o.operands,Ld s' z=Ld s z:=fun z b=>by unfold Ld;rw[h z b]
theorem Gu {o:Op}(h:∀ z∈o.operands,s'.ev z=s.ev z):Ll s' o=Ll s o:=by
 unfold Ll;rw[Bool.eq_iff_iff,Atx,Atx];constructor
 ·grind
 grind
theorem Alo {e g:Operand->Value}{o:Op}(h:∀ z∈o.operands,g z=e z):pv P g o=pv P e o:=by
 unfold pv;split
 ·rename_i x i;rw[h x (by simp[Op.operands])]
 ·rename_i c x y;rw[h c (by simp[Op.operands]),h x (by simp[Op.operands]),h y (by simp[Op.operands])]
 ·rename_i fn first captured
  rw[A1t (xs:=first) fun x b=>h x (by simp[Op.operands,b]),A1t (xs:=captured) fun x b=>h x (by simp[Op.operands,b])]
 ·rename_i t x;rw[h x (by simp[Op.operands])]
 ·rename_i src dst x;rw[h x (by simp[Op.operands])]
 ·rename_i args ts;cases b:args[0]? with
  |none=>rfl
  |some x =>
   have:x∈args:=by grind
   cases ht:ts[0]? with
   |none=>rfl
   |some t=>simp only;rw[h x (by simp[Op.operands,Call.operands,this])]
 ·rename_i x;rw[h x (by simp[Op.operands])]
 ·rename_i t ps;have:(ps.toList.map fun (p:Nat×Operand)=>(p.1,g p.2))=ps.toList.map fun (p:Nat×Operand)=>(p.1,e p.2):=Ay6 fun p hp=>by
   rw[h p.2 (by simp only[Op.operands,A0y,Ate];exact⟨p,hp,rfl⟩)]
  rw[this]
 ·rename_i t x f;rw[h x (by simp[Op.operands])]
 rfl
def Xd {s s':S}{name:Nat}{o:Op}(h:∀ z∈o.operands,s'.ev z=s.ev z)(b:Ev o=true->s'.hp name=s.hp name)
 (hp:(Gq o=true\/Lj o=true)->∀ z∈o.operands,∀ k off,s.ev z=.p k off->s'.hp k=s.hp k):eff P name s' o=eff P name s o:=by
 unfold eff;split
 ·rename_i x;rw[h x (by simp[Op.operands])]
 ·rename_i x;rw[h x (by simp[Op.operands])]
 ·rw[b rfl]
 ·rename_i t x;rw[b rfl,h x (by simp[Op.operands])]
 ·rename_i t x;rw[h x (by simp[Op.operands])];split
  ·rename_i k off hk;rw[hp (.inl rfl) x (by simp[Op.operands]) k off hk]
  rfl
 ·rename_i t x y;rw[h x (by simp[Op.operands]),h y (by simp[Op.operands])];split
  ·rename_i k off hk;rw[hp (.inr rfl) x (by simp[Op.operands]) k off hk]
  rfl
 ·rename_i t x f;rw[h x (by simp[Op.operands])]
 rw[Gu h,Alo (I4 h)]
end sound
end
section
variable {hw:Option (Nat×Blk)}{name:Nat}{o:Op}{s:S}{x:SV}
variable [Ca] [Df] [Pu]
section swap
variable {P:Program} {id:Nat} {ops:Array Oper} {dr:Bool} {Fin:S->PH->PH->Prop}
theorem Pa {k:Nat}{b:Blk}(h:eff P name s o=some (x,some (k,b))) :
 (k=name/\s.hp name=none/\Lj o=false/\Gq o=false)\/(Lj o=true/\s.hp k≠none/\∃ z∈o.operands,∃ off,s.ev z=.p k off):=by
 unfold eff at h;split at h
 ·grind
 ·grind
 ·split at h
  ·split at h
   ·split at h
    ·split at h
     ·simp at h;exact .inl ⟨h.2.1.symm,by assumption,rfl,rfl⟩
     cases h
    cases h
   cases h
  cases h
 ·split at h
  ·split at h
   ·simp at h;exact .inl ⟨h.2.1.symm,by assumption,rfl,rfl⟩
   cases h
  cases h
 ·grind
 ·rename_i t z y;split at h
  ·rename_i k' off hz;split at h
   ·rename_i b' hb;split at h
    ·split at h
     ·rename_i l _ _ n _;cases hc:(Nat.beq l.length n&&Nat.ble (off+n) b'.cells.length) with
      |false=>grind
      |true =>
       simp[hc]at h;obtain⟨_,rfl,_⟩:=h;exact .inr ⟨rfl,by rw[hb];simp,z,by simp[Op.operands],off,hz⟩
     cases h
    cases h
   cases h
  cases h
 ·grind
 grind
theorem Ag2 (h:eff P name s o=some (x,hw))(a:Ev o=true):hw≠none:=by
 unfold eff at h;unfold Ev at a;split at a
 ·grind
 ·grind
 cases a
def Ot (h:Ek o=true):Lj o=false:=by
 unfold Lj;split
 ·simp[Ek]at h
 ·simp[Ek]at h
 ·simp[Ek]at h
 rfl
theorem Ob.redo {x:Nat}{l:List Nat}{u m:PH}{f:Oper}(h:Ob P id ops true Fin (x::l) s u m)(y:ops[x]?=some f)(O:Ek f.op=true) :
 ∃ Q r,Ob P id ops true Fin l ((s.put f.dst Q).setb r) u m/\(∀ k b,r=some (k,b)->k=id*1000+x/\s.hp k=none/\Gq f.op=false) /\
  ∀ (a:S) (B A:PH) (L:List Nat),(∀ z∈f.op.operands,a.ev z=s.ev z)->gv a ops f=gv s ops f->a.n=s.n->(r≠none->a.hp (id*1000+x)=s.hp (id*1000+x)) ->
   (Gq f.op=true->∀ z∈f.op.operands,∀ k off,s.ev z=.p k off->a.hp k=s.hp k)->PH.le u B->(Gq f.op=true->PH.le m A\/Pu.b=true\/∃ t tx,f.op=.load t (.tmp tx)/\isV (s.tm tx)=false) ->
   Ob P id ops true Fin L ((a.put f.dst Q).setb r) B A->Ob P id ops true Fin (x::L) a B A:=by
 have J:∀ (a:S),a.n=s.n->Gi s f=true->Gi a f=true:=fun a X q=>by unfold Gi at q⊢;rw[X];exact q
 cases h with
 |auto ho j q he hl =>
  rw[y]at ho;obtain rfl:=Auq ho;refine⟨_,_,hl,fun k b W=>?_,fun a B A L C D E K N _ _ H=>?_⟩
  ·subst W;rcases Pa he with ⟨rfl,e,_,Y⟩|⟨e,_⟩
   ·grind
   rw[Ot O]at e;cases e
  refine .auto y (D.trans j) (J a E q) ?_ H;rw[Xd C (fun V=>K (Ag2 he V)) (fun I=>?_),he];rcases I with I|I
  ·grind
  rw[Ot O]at I;cases I
 |skip ho j q hl =>
  rw[y]at ho;obtain rfl:=Auq ho;refine⟨.v undef,none,hl,mV,fun a B A L C D E K N _ _ H=>.skip y (D.trans j) (J a E q) H⟩
 |ask ho j q hv hs hal hw hl =>
  rw[y]at ho;obtain rfl:=Auq ho;rename_i v;refine⟨.v v,none,hl,mV,fun a B A L C D E K N U F H=>.ask y (D.trans j) (J a E q) (by rw[Gu C];exact hv) hs hal (fun w hp=>?_) H⟩;rw[execOp_congr _ (Jg hs) (I4 C)];refine hw w fun c=>⟨fun g o j=>(hp c).1 g o (U g o j),fun d g o j=>?_⟩;rcases F (c.resolve_right fV) with F|F|⟨t,tx,R,T⟩
  ·exact (hp c).2 d g o (F g o j)
  ·rcases d with d|d
   ·rw[F]at d;cases d
   cases d
  unfold Ll at hv;rw[Atx]at hv;have:=hv (.tmp tx) (by rw[R];simp[Op.operands]);rw[show s.ev (.tmp tx)=s.tm tx from rfl,T]at this;cases this
 |big ho j q hv hs hf' hk hw hl=>grind
def Two (s:S)(ox oy:Oper):Prop:=∃ t tx t' ty v kx ox' ky oy',ox.op=.load t (.tmp tx)/\oy.op=.store t' (.tmp ty) v/\s.tm tx=.p kx ox'/\s.tm ty=.p ky oy'/\kx≠ky
def New (s:S)(ox oy:Oper):Prop:=∃ t tx t' ty v,ox.op=.load t (.tmp tx)/\oy.op=.store t' (.tmp ty) v/\isV (s.tm ty)=false/\∀ k off k' off',s.tm tx=.p k off->s.tm ty=.p k' off'->k≠k'
def Afx:Op->Bool
 |.call { callee:=.builtin .append,.. }|.call { callee:=.builtin .copy,.. }=>true
 |_=>false
def Own (s:S)(ox oy:Oper):Prop:=Afx oy.op=true/\∃ t tx,ox.op=.load t (.tmp tx)/\isV (s.tm tx)=false
theorem An0 (a:eff P name s o=some (x,hw))(h:Afx o=true):hw=none:=by
 unfold Afx at h;split at h
 ·unfold eff at a;simp only at a;split at a
  ·grind
  cases a
 ·unfold eff at a;simp only at a;split at a
  ·grind
  cases a
 cases h
theorem Ob.swap {x y:Nat}{l:List Nat}{s:S}{u m:PH}{B A:Oper}(hL:M3 s)(h:Ob P id ops true Fin (x::y::l) s u m)(hx:ops[x]?=some B)(Q:ops[y]?=some A)(a0:x≠y)
 (hf:Ek B.op=true) (a7:Oper.apart ops B A=true) (Z:Gq B.op=true->Nh ops y A.op=false\/Own s B A\/Two s B A\/New s B A) (a8:∀ t tx,B.op=.load t (.tmp tx)->Vr ops s tx=true->isV (s.tm tx)=false):Ob P id ops true Fin (y::x::l) s u m:=by
 obtain⟨J,c,h1,hn,redo⟩:=h.redo hx hf;obtain⟨a1,a2,N⟩:=Oper.apart_spec a7;have T:id*1000+x≠id*1000+y:=oV;have D:∀ z∈A.op.operands,((s.put B.dst J).setb c).ev z=s.ev z:=fun z r=>T1 a1 r;have H:gv ((s.put B.dst J).setb c) ops A=gv s ops A:=Te a1;have a6:∀ z:Operand,∀ k off,s.ev z=.p k off->s.hp k≠none:=by
  intro z k off r;cases z with
  |tmp t=>exact hL.1 t k off r
  |const v=>cases r
  |global g=>cases r
  |func f=>cases r
 have a4:∀ k,(∀ b,c≠some (k,b))->((s.put B.dst J).setb c).hp k=s.hp k:=by
  intro k q;rcases c with _|⟨j,b⟩
  ·show (s.put B.dst J).hp k=s.hp k;rw[C6]
  rw[A6 _ _ _ (fun e=>q b (by rw[e])),C6]
 have ab:∀ k,s.hp k≠none->∀ b,c≠some (k,b):=fun k q b e=>q (hn k b e).2.1;have F:Gi ((s.put B.dst J).setb c) A=Gi s A:=by unfold Gi;rw[Qd,Wz]
 have comm:∀ (L:SV) (d:Option (Nat×Blk)),(∀ k b,d=some (k,b)->∀ b',c≠some (k,b')) ->
  ((((s.put B.dst J).setb c).put A.dst L).setb d)=(((s.put A.dst L).setb d).put B.dst J).setb c:=by
  intro L d q;rw[Pk,Pk,Akx s J L a2,Aho];rintro k b k' b' e1 e2 rfl;exact q k b' e2 b e1
 cases h1 with
 |auto ho hg hd he hl =>
  rw[Q]at ho;obtain rfl:=Auq ho;rename_i L d;have a:eff P (id*1000+y) s A.op=some (L,d):=by
   rw[<-he];refine (Xd D (fun _=>a4 _ (fun b e=>T.symm ((hn _ b e).1))) (fun _ z r k off q=>a4 k (ab k (a6 z k off q)))).symm
  have R:∀ k b,d=some (k,b)->∀ b',c≠some (k,b'):=by
   intro k b e b' e';subst e;rcases Pa a with ⟨rfl,_⟩|⟨_,q,_⟩
   ·exact T.symm (hn _ b' e').1
   exact q (hn k b' e').2.1
  refine .auto Q (by rw[<-H];exact hg) (by rw[<-F];exact hd) a ?_;have a5:∀ k,(∀ b,d≠some (k,b))->((s.put A.dst L).setb d).hp k=s.hp k:=by
   intro k q;rcases d with _|⟨j,b⟩
   ·show (s.put A.dst L).hp k=s.hp k;rw[C6]
   rw[A6 _ _ _ (fun e=>q b (by rw[e])),C6]
  refine redo _ u m l (fun z r=>T1 N r) (Te N) (by rw[Qd,Wz]) ?_ ?_ (PH.le_refl _) (fun _=>.inl (PH.le_refl _)) ?_
  ·intro U;by_cases q:∃ b,d=some (id*1000+x,b)
   ·obtain⟨b,hb⟩:=q;subst hb;rcases Pa a with ⟨e,_⟩|⟨em,q,z,r,off,ad⟩
    ·exact absurd e T
    rcases c with _|⟨j,b'⟩
    ·exact absurd rfl U
    obtain⟨rfl,e,_⟩:=hn j b' rfl;exact absurd e q
   exact a5 _ (fun b e=>q ⟨b,e⟩)
  ·intro I z r k off q;refine a5 k (fun b e=>?_);subst e;rcases Pa a with ⟨rfl,e,_⟩|⟨em,_⟩
   ·exact a6 z _ off q e
   rcases Z I with h|⟨q0,_⟩|⟨t,tx,t',C,v,kx,o1,ky,o2,q1,V,W,X,q5⟩|⟨t,tx,t',C,v,q1,V,W,X⟩
   ·rw[Ajg h]at em;cases em
   ·cases An0 a q0
   case inr.inr.inr =>
    rw[q1]at r;simp only[Op.operands,A0y,Aub]at r;subst r;rw[V]at a;cases hty:s.tm C with
    |junk=>simp only[eff,show s.ev (.tmp C)=s.tm C from rfl,hty]at a;cases a
    |v y=>simp only[eff,show s.ev (.tmp C)=s.tm C from rfl,hty]at a;cases a
    |p ky o2 =>
     have a0:=X k off ky o2 q hty;simp only[eff,show s.ev (.tmp C)=s.tm C from rfl,hty]at a;split at a
     ·split at a
      ·split at a
       ·rename_i n _
        revert a
        cases (Nat.beq _ _&&Nat.ble _ _) with
        |false=>simp
        |true=>simp;intro _ e _;exact absurd e.symm a0
       cases a
      cases a
     cases a
   rw[q1]at r;simp only[Op.operands,A0y,Aub]at r;subst r;have:SV.p k off=.p kx o1:=q.symm.trans W;simp only[SV.p.injEq]at this;rw[V]at a;have ac:s.ev (.tmp C)=.p ky o2:=X;simp only[eff,ac]at a;split at a
   ·split at a
    ·split at a
     ·rename_i n _
      revert a
      cases (Nat.beq _ _&&Nat.ble _ _) with
      |false=>simp
      |true=>simp;intro _ e _;exact absurd (this.1.symm.trans e.symm) q5
     cases a
    cases a
   cases a
  rw[<-comm L d R];exact hl
 |skip ho hg hd hl =>
  rw[Q]at ho;obtain rfl:=Auq ho;refine .skip Q (by rw[<-H];exact hg) (by rw[<-F];exact hd) ?_;refine redo _ u m l (fun z r=>T1 (w:=none) N r) (Te (w:=none) N) (by rw[Wz]) (fun _=>by rw[C6]) (fun _ _ _ _ _ _=>by rw[C6]) (PH.le_refl _) (fun _=>.inl (PH.le_refl _)) ?_;have:=comm (.v undef) none mV;rw[show (s.put A.dst (.v undef))=(s.put A.dst (.v undef)).setb none from rfl,<-this];exact hl
 |ask ho hg hd hv hs hal hw hl =>
  rw[Q]at ho;obtain rfl:=Auq ho;rename_i v;refine .ask (v:=v) Q (by rw[<-H];exact hg) (by rw[<-F];exact hd) (by rw[<-Gu D];exact hv) hs hal (fun w hp=>?_) ?_
  ·rw[<-execOp_congr _ (Jg hs) (I4 D)];exact hw w hp
  refine redo _ u m l (fun z r=>T1 (w:=none) N r) (Te (w:=none) N) (by rw[Wz]) (fun _=>by rw[C6]) (fun _ _ _ _ _ _=>by rw[C6]) (PH.le_refl _) (fun _=>.inl (PH.le_refl _)) ?_;have:=comm (.v v) none mV;rw[show (s.put A.dst (.v v))=(s.put A.dst (.v v)).setb none from rfl,<-this];exact hl
 |big ho hg hd hv hs hf' q hw hl =>
  rw[Q]at ho;obtain rfl:=Auq ho;rename_i K;have O:Ja ops ((s.put B.dst J).setb c)=Ja ops s:=Yg fun t ht=>by
   rw[Ep,Fd];intro a9;unfold N1 at ht;rw[Atx]at ht;have:=ht B (Yt hx);rw[a9]at this;simp at this
  refine .big (K:=K) Q (by rw[<-H];exact hg) (by rw[<-F];exact hd) (by rw[<-Gu D];exact hv) hs hf' (by rw[<-O];exact q) (fun w aa=>?_) (fun v u' m' Y hK=>?_)
  ·have:=hw w aa;unfold E2 at this⊢;rw[<-execOp_congr _ (Jg hs) (I4 D)];exact this
  refine redo _ u' m' l (fun z r=>T1 (w:=none) N r) (Te (w:=none) N) (by rw[Wz]) (fun _=>by rw[C6]) (fun _ _ _ _ _ _=>by rw[C6]) Y (fun I=>?_) ?_
  ·rcases q v u' m' hK with h|h|h|h|h
   ·exact .inl h
   ·cases h
   ·rcases Z I with h'|⟨_,q0⟩|⟨t,tx,t',C,v,kx,o1,ky,o2,q1,V,W,X,q5⟩|⟨t,tx,t',C,v,q1,V,W,X⟩
    ·rw[h']at h;cases h
    ·exact .inr (.inr q0)
    case inr.inr.inr =>
     exfalso;rw[Gu D]at hv;unfold Ll at hv;rw[Atx]at hv;have:=hv (.tmp C) (by rw[V];simp[Op.operands]);rw[show s.ev (.tmp C)=s.tm C from rfl]at this;cases hty:s.tm C with
     |junk=>rw[hty]at this;cases this
     |v y=>rw[hty]at W;cases W
     |p k off=>rw[hty]at this;cases this
    exfalso;rw[Gu D]at hv;unfold Ll at hv;rw[Atx]at hv;have:=hv (.tmp C) (by rw[V];simp[Op.operands]);rw[show s.ev (.tmp C)=.p ky o2 from X]at this;cases this
   rotate_left
   ·exact .inr (.inl h)
   right;right;rw[O]at h;unfold Ja at h;rw[Atx]at h;have E:=h B (Yt hx);rw[I]at E;simp only[Ayc,Azw]at E;unfold Acl at E;split at E
   ·rename_i t tx hop;refine⟨t,tx,hop,?_⟩;rw[Av7,Atj]at E;rcases E with ⟨_,E⟩|E
    ·cases hb:s.tm tx with
     |junk=>rfl
     |v y=>rw[hb]at E;cases E
     |p k off=>rfl
    grind
   cases E
  have:=comm (.v v) none mV;rw[show (s.put A.dst (.v v))=(s.put A.dst (.v v)).setb none from rfl,<-this];exact hl v u' m' Y hK
end swap
end
section
variable {ox oy:Oper}{s s':S}{x:Nat}
variable [Ca] [Df] [Pu]
section live
variable {P:Program}
theorem Ale {F:Nat}{o:Op}{x:SV}{q:Option (Nat×Blk)}(h:eff P F s o=some (x,q))(A:M3 s)(d:Option Nat):M3 ((s.put d x).setb q):=by
 have m:∀ (z:Operand) (k off:Nat),s.ev z=.p k off->s.hp k≠none:=by
  intro z k off B;cases z with
  |tmp t=>exact A.1 t k off B
  |const v=>cases B
  |global g=>cases B
  |func f=>cases B
 have key:∀ (x:SV) (q:Option (Nat×Blk)),(∀ k off,x=.p k off->s.hp k≠none\/∃ b,q=some (k,b))->(∀ j b,q=some (j,b)->∀ k off,SV.p k off∈b.cells->s.hp k≠none)->M3 ((s.put d x).setb q):=by
  intro x q J K;have hp:∀ k,s.hp k≠none->((s.put d x).setb q).hp k≠none:=by
   intro k I;rcases q with _|⟨j,b⟩
   ·show (s.put d x).hp k≠none;rw[C6];exact I
   by_cases e:k=j
   ·rw[e,Bf];simp
   rw[A6 _ _ _ e,C6];exact I
  refine⟨fun e k off D=>?_,fun j b k off r a=>?_⟩
  ·rw[Ep]at D;by_cases C:d=some e
   ·subst C;rw[B9]at D;rcases J k off D with h|⟨b,rfl⟩
    ·exact hp k h
    rw[Bf];simp
   rw[Fd _ _ _ C]at D;exact hp k (A.1 e k off D)
  rcases q with _|⟨i,b'⟩
  ·change (s.put d x).hp j=some b at r;rw[C6]at r;exact hp k (A.2 j b k off r a)
  by_cases e:j=i
  ·subst e;rw[Bf]at r;obtain rfl:=Auq r;exact hp k (K j b' rfl k off a)
  rw[A6 _ _ _ e,C6]at r;exact hp k (A.2 j b k off r a)
 unfold eff at h;split at h
 ·rename_i z;simp at h;obtain⟨rfl,rfl⟩:=h;exact key _ _ (fun k off e=>.inl (m z k off e)) mV
 ·rename_i z;simp at h;obtain⟨rfl,rfl⟩:=h;exact key _ _ (fun k off e=>.inl (m z k off e)) mV
 ·split at h
  ·split at h
   ·split at h
    ·split at h
     ·rename_i l hl;simp at h;obtain⟨rfl,rfl⟩:=h;obtain⟨_,_,_,H,_⟩:=Ew hl (fun _=>0);exact key _ _ (fun k off e=>.inr (by simp at e;exact⟨_,by rw[e.1]⟩)) (fun j b e k off a=>by simp at e;obtain⟨_,rfl⟩:=e;cases H k off a)
     cases h
    cases h
   cases h
  cases h
 ·rename_i t z;split at h
  ·split at h
   ·rename_i l hl;simp at h;obtain⟨rfl,rfl⟩:=h;obtain⟨_,_,_,H,_⟩:=Ew hl (fun _=>0);exact key _ _ (fun k off e=>.inr (by simp at e;exact⟨_,by rw[e.1]⟩)) (fun j b e k off a=>by simp at e;obtain⟨_,rfl⟩:=e;exact m z k off (H k off a))
   cases h
  cases h
 ·split at h
  ·split at h
   ·rename_i k off B b hb;split at h
    ·rename_i y hy;simp at h;obtain⟨rfl,rfl⟩:=h;have E:∀ u o',y=.p u o'->SV.p u o'∈b.cells:=by
      unfold ldv at hy;split at hy
      ·grind
      ·grind
      cases hy
     exact key _ _ (fun u o' e=>.inl (A.2 _ b u o' hb (E u o' e))) mV
    cases h
   cases h
  cases h
 ·split at h
  ·rename_i u off B;split at h
   ·rename_i b' hb;split at h
    ·rename_i l hl;split at h
     ·rename_i n _;cases hc:(Nat.beq l.length n&&Nat.ble (off+n) b'.cells.length) with
      |false=>grind
      |true =>
       simp[hc]at h;obtain⟨rfl,rfl⟩:=h;obtain⟨_,_,_,H,_⟩:=Ew hl (fun _=>0);refine key _ _ mV (fun j b e k off a=>?_);obtain⟨rfl,rfl⟩:=e;rcases U6 a with a|a
       ·exact A.2 u b' k off hb a
       grind
     cases h
    cases h
   cases h
  cases h
 ·grind
 grind
def U4 (g:M3 s)(d:Option Nat)(v:Value):M3 (s.put d (.v v)):=by
 refine⟨fun e k off f=>?_,fun j b k off h l=>?_⟩
 ·rw[C6];by_cases a:d=some e
  ·subst a;rw[B9]at f;cases f
  rw[Fd _ _ _ a]at f;exact g.1 e k off f
 rw[C6]at h⊢;exact g.2 j b k off h l
end live
section drawn
variable {P:Program} {id:Nat} {ops:Array Oper} {Fin:S->PH->PH->Prop} {c:Cx} {Q:Exit->Act->World->Prop}
def Ob.mapTail {a:Bool}{L d:List Nat}{u m:PH}(b:M3 s)(h:Ob P id ops a Fin (x::L) s u m)(f:∀ s' u m,M3 s'->F1 ops s s'->Ob P id ops a Fin L s' u m->Ob P id ops a Fin d s' u m):Ob P id ops a Fin (x::d) s u m:=by
 cases h with
 |auto ho hg hd he hl=>exact .auto ho hg hd he (f _ _ _ (Ale he b _) (Ff ho _ _ (Fit.auto he)) hl)
 |skip ho hg hd hl=>exact .skip ho hg hd (f _ _ _ (U4 b _ _) (Ff ho _ none (Fit.skip hg)) hl)
 |ask ho hg hd hv hs hal hw hl=>exact .ask ho hg hd hv hs hal hw (f _ _ _ (U4 b _ _) (Ff ho _ none (Fit.val hv hal _)) hl)
 |big ho hg hd hv hs hf hk hw hl=>exact .big ho hg hd hv hs hf hk hw (fun v k j e g=>f _ _ _ (U4 b _ _) (Ff ho _ none (Fit.val hv (Ae3 hf) _)) (hl v k j e g))
def Aro (ops:Array Oper)(s:S)(ox oy:Oper):Bool :=
 match ox.op with
 |.load _ (.tmp tx)=>match oy.op with
  |.store _ (.tmp ty) _=>N1 ops tx&&N1 ops ty&&(match s.tm tx with
   |.p kx _=>match s.tm ty with|.p ky _=>!Nat.beq kx ky|_=>false
   |_=>false)
  |_=>false
 |_=>false
theorem Ara {ops:Array Oper}(h:Aro ops s ox oy=true)(ha:F1 ops s s'):Two s' ox oy:=by
 unfold Aro at h;split at h
 ·rename_i t tx e1;split at h
  ·rename_i t' ty v e2;simp only[Atj]at h;obtain⟨⟨h1,h2⟩,h3⟩:=h;split at h3
   ·rename_i kx o1 e3;split at h3
    ·rename_i ky o2 e4;refine⟨t,tx,t',ty,v,kx,o1,ky,o2,e1,e2,by rw[ha.eq tx h1];exact e3,by rw[ha.eq ty h2];exact e4,fun e=>?_⟩;rw[e]at h3;simp at h3
    ·cases h3
   ·cases h3
  ·cases h
 ·cases h
def Arb (ops:Array Oper)(s:S)(ox oy:Oper):Bool :=
 match ox.op with
 |.load _ (.tmp tx)=>match oy.op with
  |.store _ (.tmp ty) _=>Ahg ops s tx&&alB ops ty&&(match s.tm ty with|.junk=>true|_=>false)
  |_=>false
 |_=>false
theorem Aqt {ops:Array Oper}(h:Arb ops s ox oy=true)(d:F1 ops s s')(g:M3 s):New s' ox oy:=by
 unfold Arb at h;split at h
 ·rename_i t tx e1;split at h
  ·rename_i t' ty v e2;simp only[Atj]at h;obtain⟨⟨j,f⟩,o⟩:=h;have l:s.tm ty=.junk:=by grind
   refine⟨t,tx,t',ty,v,e1,e2,d.nw ty f (by rw[l];rfl),fun k off p a m n e=>?_⟩;subst e;have r:s.hp k≠none:=by
    rcases d.ol tx k off j m with q|⟨b,u,_,q⟩
    ·exact g.1 _ _ _ q
    exact g.1 _ _ _ q
   rcases d.fr ty k a f n with q|q
   ·grind
   grind
  cases h
 cases h
def Aq4 {ops:Array Oper}(h:Acl ops s ox=true)(b:F1 ops s s')(e:∀ t tx,ox.op=.load t (.tmp tx)->Vr ops s' tx=true->isV (s'.tm tx)=false):∃ t tx,ox.op=.load t (.tmp tx)/\isV (s'.tm tx)=false:=by
 unfold Acl at h;split at h
 ·rename_i t tx hop;refine⟨t,tx,hop,?_⟩;rw[Av7,Atj]at h;rcases h with ⟨d,a⟩|h
  ·rw[b.eq tx d];cases hb:s.tm tx with
   |junk=>rfl
   |v y=>rw[hb]at a;cases a
   |p k off=>rfl
  exact e t tx hop (by rw[Kp b.eq];exact h)
 cases h
def Apz (ops:Array Oper)(s:S)(o:Oper):Bool:=match o.op with
 |.load _ (.tmp t)=>!(isV (s.tm t)&&Vr ops s t)
 |_=>true
def Zn (ops:Array Oper)(s:S)(x y:Nat):Bool :=
 match ops[x]? with
 |some ox=>match ops[y]? with
  |some oy=>Ek ox.op&&Oper.apart ops ox oy&&(!(Gq ox.op&&Nh ops y oy.op)||Aro ops s ox oy||Arb ops s ox oy||(Acl ops s ox&&Afx oy.op)) && !Nat.beq x y&&Apz ops s ox
  |none=>false
 |none=>false
def dir (ops:Array Oper)(i x:Nat):Bool:=match ops[i]? with
 |some o=>o.after.toList.any fun e=>Region.binds .any e&&Nat.beq e.on x
 |none=>false
def He (ops:Array Oper)(s:S)(x y:Nat):Bool:=!(dir ops x y) && !(Nat.beq x y)&&(dir ops y x||Zn ops s x y||bef ops ops.size y x)
def Qo (ops:Array Oper)(s:S):List Nat->Bool
 |[]=>true
 |x::l=>l.all (He ops s x)&&Qo ops s l
def Kw (ops:Array Oper)(i:Nat):Bool:=match ops[i]? with
 |some o=>o.after.toList.all fun e=>!Region.binds .any e||(Nat.blt e.on ops.size && !Nat.beq e.on i)
 |none=>false
def Al9 (ops:Array Oper)(s:S)(T:List Nat):Bool :=
 Nat.beq T.length ops.size&&(List.range ops.size).all (fun i=>T.contains i)&&T.all (fun i=>Nat.blt i ops.size)&&Qo ops s T&&(List.range ops.size).all (Kw ops)
def Hg {ops:Array Oper}{s:S}:∀ {T:List Nat},Qo ops s T=true->T.Pairwise (fun x y=>He ops s x y=true)
 |[],_=>List.Pairwise.nil
 |x::l,h=>by
  simp only[Qo,Atj,Atx]at h;exact List.Pairwise.cons h.1 (Hg h.2)
def Adc (ops:Array Oper)(listed:Array Bool):Prop:=∀ i,listed.getD i false=true->∀ o,ops[i]?=some o->∀ e∈o.after,Region.binds .any e=true->listed.getD e.on false=true
def K8 {a:Array Bool}(b:Adc ops a){x:Nat}:∀ (f i:Nat),(∀ o,ops[i]?=some o->∀ e∈o.after,Region.binds .any e=true->a.getD e.on false=true)->bef ops f i x=true->a.getD x false=true
 |0,i,_,h=>by simp[bef]at h
 |f+1,i,hi,h=>by
  unfold bef at h;cases ho:ops[i]? with
  |none=>simp[ho]at h
  |some o =>
   simp only[ho,Ax1,Atj,Av7]at h;obtain⟨e,j,g,h⟩:=h;have d:=hi o ho e (by simpa using j) g;rcases h with h|h
   ·rw[<-Aug h];exact d
   exact K8 b f e.on (b e.on d) h
theorem Tq {a:Array Bool}{i x:Nat}(hi:∀ o,ops[i]?=some o->∀ e∈o.after,Region.binds .any e=true->a.getD e.on false=true)(h:dir ops i x=true):a.getD x false=true:=by
 unfold dir at h;cases ho:ops[i]? with
 |none=>grind
 |some o =>
  simp only[ho,Ax1,Atj]at h;obtain⟨e,d,b,h⟩:=h;rw[<-Aug h];exact hi o ho e (by simpa using d) b
def Ob.bubble {s0:S}(d:M3 s0){i:Nat}{B:List Nat}:∀ (A:List Nat),(∀ x∈A,Zn ops s0 x i=true)->∀ {s:S} {u m:PH},M3 s->F1 ops s0 s->Ob P id ops true Fin (A++i::B) s u m->Ob P id ops true Fin (i::(A++B)) s u m
 |[],_,s,u,m,_,_,h=>h
 |x::A,hx,s,u,m,hL,hag,h=>by
  have q:Ob P id ops true Fin (x::i::(A++B)) s u m:=h.mapTail hL fun s' u m k r v=>Ob.bubble d A (fun y z=>hx y (Auv _ z)) k (hag.trans r) v;have g:=hx x mV;unfold Zn at g;cases hox:ops[x]? with
  |none=>simp[hox]at g
  |some ox =>
   cases hoy:ops[i]? with
   |none=>simp[hox,hoy]at g
   |some oy =>
    simp only[hox,hoy,Atj,Av7,Avs,Az0]at g;obtain⟨⟨⟨⟨o,p⟩,a⟩,n⟩,j⟩:=g;have f:∀ t tx,ox.op=.load t (.tmp tx)->Vr ops s tx=true->isV (s.tm tx)=false:=fun t tx l b=>by
     rw[Kp hag.eq]at b;unfold Apz at j;rw[l]at j;simp only[b,Bool.and_true,Avs]at j;exact hag.pt tx b j
    refine q.swap hL hox hoy (fun e=>?_) o p (fun k=>?_) f
    ·rw[e]at n;simp at n
    rcases a with (((a|a)|a)|a)|a
    ·rw[k]at a;cases a
    ·exact .inl a
    ·exact .inr (.inr (.inl (Ara a hag)))
    ·exact .inr (.inr (.inr (Aqt a hag d)))
    exact .inr (.inl ⟨a.2,Aq4 a.1 hag f⟩)
theorem Ob.wpAny {s0:S}(a1:M3 s0)(hE:(List.range ops.size).all (Kw ops)=true)(hF:∀ s u m ρ a w,Fin s u m->Rel c s u m ρ a w->Q .normal a w) :
 ∀ (n:Nat) (T:List Nat) (b:Array Bool) {s:S} {u m:PH} {ρ:Nat->Nat} {a:Act} {w:World},T.length=n->b.size=ops.size->(∀ i,i<ops.size->(b.getD i true=false↔i∈T))->(∀ i∈T,i<ops.size)->T.Nodup->Adc ops b ->
  T.Pairwise (fun x y=>He ops s0 x y=true)->F1 ops s0 s->Ob P id ops true Fin T s u m->Rel c s u m ρ a w->Go.wpAny P .any ops Q n b a w:=by
 have d:∀ (b:Array Bool) (i:Nat),i∈Region.ready .any ops b↔i<ops.size/\b.getD i true=false/\∃ o,ops[i]?=some o/\∀ e∈o.after,Region.binds .any e=true->b.getD e.on false=true:=by
  intro b i;simp only[Region.ready,Axo,Axf,Atj,Avs];refine and_congr_right fun hi=>and_congr_right fun _=>?_;have ho:ops[i]?=some ops[i]:=Aup hi;rw[ho];simp only[Awh,Awo,A15,Atd,exists_eq_left',Av7,Avs];constructor
  ·intro h e z v;rcases h e z with h|h
   ·rw[v]at h;cases h
   exact h
  intro h e z;cases v:Region.binds .any e with
  |false=>exact .inl rfl
  |true=>exact .inr (h e z v)
 intro n;induction n with
 |zero =>
  intro T b s u m ρ a w f W D l q F hP E hO Z;have:T = []:=Auo f;subst this;refine⟨?_,?_⟩
  ·rw[List.eq_nil_iff_forall_not_mem];intro i hi;obtain⟨N,h2,_⟩:=(d b i).1 hi;exact absurd ((D i N).1 h2) mV
  cases hO with
  |nil h=>exact hF _ _ _ _ _ _ h Z
 |succ n ih =>
  intro T b s u m ρ a w f W D l q F hP E hO Z;refine⟨fun O=>?_,fun i hi=>?_⟩
  ·cases T with
   |nil=>simp at f
   |cons t T' =>
    exfalso;have L:=l t mV;have:t∈Region.ready .any ops b:=by
     refine (d b t).2 ⟨L,(D t L).2 mV,ops[t],Aup L,fun e z v=>?_⟩;rw[Atx]at hE;have p:=hE t (by simpa using L);unfold Kw at p;rw[Aup L]at p;simp only[Atx]at p;have:=p e (by simpa using z);simp only[v,Ayc,Azw,Atj,Avs]at this;have J:e.on<ops.size:=A0v▸this.1;have a5:e.on≠t:=fun h=>by rw[h]at this;simp at this
     cases I:b.getD e.on true with
     |true =>
      have N:e.on<b.size:=oV;simp only[Aus,Aup N,Awo]at I⊢;exact I
     |false =>
      have K:=(D e.on J).1 I;rcases At6.1 K with K|K
      ·exact absurd K a5
      have:=Awl hP K;unfold He at this;simp only[Atj,Avs]at this;have a3:dir ops t e.on=true:=by
       unfold dir;rw[Aup L];simp only[Ax1,Atj];exact⟨e,by simpa using z,v,mV⟩
      rw[a3]at this;exact absurd this.1.1 mV
    rw[O]at this;cases this
  obtain⟨N,h2,o,ho,V⟩:=(d b i).1 hi;have K:=(D i N).1 h2;obtain⟨A,B,rfl⟩:=Ay9 K;have a0:(A++B).length=n:=by simp at f⊢;omega
  have J:i<b.size:=oV;have a6:∀ x∈A,Zn ops s0 x i=true:=by
   intro x X;have hp:=(Av8.1 hP).2.2 x X i mV;unfold He at hp;simp only[Atj,Av7]at hp;have U:∀ o',ops[i]?=some o'->∀ e∈o'.after,Region.binds .any e=true->b.getD e.on false=true:=fun o' r=>by rw[ho]at r;obtain rfl:=Auq r;exact V
   have R:b.getD x false=true->False:=by
    intro I;have a7:=l x (by simp[X]);have:=(D x a7).2 (by simp[X]);have h3:x<b.size:=oV;simp only[Aus,Aup h3,Awo]at I this;rw[this]at I;cases I
   rcases hp.2 with (h|h)|h
   ·exact (R (Tq U h)).elim
   ·exact h
   exact (R (K8 F ops.size i U h)).elim
  have a2:=Ob.bubble a1 A a6 Z.lv E hO;refine wpOp_mono (fun a' w' ⟨s',u',m',ρ',r1,ra,r2⟩=>?_) (a2.step (Q:=Q) Z);have C:(A++B).Nodup/\i∉A++B:=by
   rw[Awq]at q⊢;simp only[Awr,At6,Ati]at q⊢;obtain⟨n1,⟨n2,n3⟩,n4⟩:=q;exact⟨⟨n1,n3,fun x X y hy=>n4 x X y (.inr hy)⟩,fun h=>h.elim (fun h=>n4 i h i (.inl rfl) rfl) n2⟩
  refine ih (A++B) _ a0 (by simpa using W) (fun j H=>?_) (fun j H=>l j ?_) C.1 ?_ ?_ (E.trans ra) r2 r1
  ·by_cases g:j=i
   ·subst g;simp only[Aus,Array.getElem?_setIfInBounds_self_of_lt J,Awo];exact⟨fun h=>absurd h mV,fun h=>absurd h C.2⟩
   have:=D j H;simp only[Aus,Avk (fun h=>g h.symm)]at this⊢;rw[this];simp[g]
  ·simp only[Ati,At6]at H⊢;rcases H with h|h
   ·exact .inl h
   grind
  ·intro j H o' r e z v;have Y:∀ k,b.getD k false=true->(b.setIfInBounds i true).getD k false=true:=by
    intro k hk;by_cases a4:k=i
    ·grind
    simp only[Aus,Avk (fun h=>a4 h.symm)]at hk⊢;exact hk
   by_cases g:j=i
   ·grind
   refine Y _ (F j ?_ o' r e z v);simp only[Aus,Avk (fun h=>g h.symm)]at H⊢;exact H
  grind
end drawn
end
section
variable {T:List Nat}{c:Cx}{d:Deferred}{dl:List Deferred}{id:Nat}{m u:PH}{ops:Array Oper}{s:S}{t:Array Value}{w:World}{ρ:Nat->Nat}
variable [Ca] [Pu]
section based
variable [Df]
inductive KI where
 |code (c:Code)
 |blk (id:Nat)
 |reg (id:Nat) (ops:Array Oper) (dr:Bool) (l:List Nat)
 |lp (J:S->PH->PH->Prop)
def Aoy (c:Cx)(Post:Value->PH->PH->Prop):Ending->World->Prop:=fun e w'=>∃ v u' m',e=.returned v/\B1 u' m' w'/\B8 c.u0 c.m0 c.w0 u' m' w'/\Post v u' m'
def Aj (P:Program)(f:FuncId)(args:List Value)(u m:PH)(Post:Value->PH->PH->Prop):Prop:=∀ w,B1 u m w->Calls P f args.toArray w (Aoy ⟨w,u,m⟩ Post)
structure Bz where
 post:Value->PH->PH->Prop
 m0:PH
abbrev Ao2 (P:Program)(fn:Func)(R:Ending->World->Prop):Exit->Act->World->Prop:=bodyPostM Fence.wide 1 P fn R
def Ko (P:Program)(fn:Func)(Post:Bz)(c:Cx):List KI->Exit->Act->World->Prop
 |[]=>Ao2 P fn (Aoy c Post.post)
 |.code x::k=>Exit.then (x.wp P (Ko P fn Post c k)) (Ko P fn Post c k)
 |.blk id::k=>Exit.inBlock id (Ko P fn Post c k)
 |.reg _ _ _ _::k=>Ko P fn Post c k
 |.lp J::k=>Exit.then (fun a w=>∃ s u m ρ,Rel c s u m ρ a w/\J s u m) (Ko P fn Post c k)
def Vs (P:Program)(fn:Func)(Post:Bz)(ks:List KI)(s:S)(u m:PH):Prop:=∀ c ρ a w,c.m0=Post.m0->Rel c s u m ρ a w->Ko P fn Post c ks .normal a w
def Sym (P:Program)(fn:Func)(Post:Bz)(ks:List KI)(s:S)(u m:PH):Prop :=
 match ks with
 |.reg id ops dr l::k=>Ob P id ops dr (Vs P fn Post k) l s u m
 |ks=>Vs P fn Post ks s u m
def Pv (id:Nat):List KI->Option (List KI)
 |.blk j::k=>cond (Nat.beq j id) (some k) (Pv id k)
 |_::k=>Pv id k
 |[]=>none
def Aj7 (ops:Array Oper)(done:List Nat)(i:Nat):Bool:=match ops[i]? with
 |some o=>!(done.contains i)&&o.after.toList.all fun e=>!Region.binds .any e||done.contains e.on
 |none=>false
def S0 (ops:Array Oper):Nat->List Nat->List Nat
 |0,done=>done.reverse
 |f+1,done=>match (List.range ops.size).find? (fun i=>Aj7 ops done i&&(match ops[i]? with|some o=>Ek o.op|none=>false)) with
  |some i=>S0 ops f (i::done)
  |none=>match (List.range ops.size).find? (Aj7 ops done) with
   |some i=>S0 ops f (i::done)
   |none=>done.reverse
def Arn (ops:Array Oper):List Nat:=S0 ops ops.size []
def Gf:List KI->Bool
 |.reg ..::_=>false
 |_=>true
def one (P:Program)(ks:List KI)(s:S):Option (List KI×S) :=
 match ks with
 |.code .skip::k=>cond (Gf k) (some (k,s)) none
 |.code (.seq x y)::k=>some (.code x::.code y::k,s)
 |.code (.block id x)::k=>some (.code x::.blk id::k,s)
 |.code (.exit id)::k=>match Pv id k with|some k'=>cond (Gf k') (some (k',s)) none|none=>none
 |.code (.cond x y z)::k=>match s.ev x with
  |.v (.bool true)=>some (.code y::k,s)
  |.v (.bool false)=>some (.code z::k,s)
  |_=>none
 |.code (.region id ops false)::k=>some (.reg id ops false (List.range ops.size)::k,s)
 |.code (.region id ops true)::k=>cond (Al9 ops s (Arn ops)) (some (.reg id ops true (Arn ops)::k,s)) none
 |.blk _::k=>cond (Gf k) (some (k,s)) none
 |.reg _ _ _ []::k=>cond (Gf k) (some (k,s)) none
 |.reg id ops dr (i::l)::k=>match ops[i]? with
  |some o=>match Gi s o with
   |true=>match gv s ops o with
    |some true=>match eff P (id*1000+i) s o.op with
     |some (x,hw)=>some (.reg id ops dr l::k,(s.put o.dst x).setb hw)
     |none=>none
    |some false=>some (.reg id ops dr l::k,s.put o.dst (.v undef))
    |none=>none
   |false=>none
  |none=>none
 |_=>none
def run (P:Program):Nat->List KI×S->List KI×S
 |0,st=>st
 |n+1,st=>match one P st.1 st.2 with
  |some st'=>run P n st'
  |none=>st
end based
section sound
variable {P:Program} {fn:Func} {Post:Bz}
section based
variable [Df]
def Ka {c:Cx}{id:Nat}:∀ {k b:List KI},Pv id k=some b->∀ {a:Act} {w:World},Ko P fn Post c b .normal a w->Ko P fn Post c k (.exit id) a w
 |.blk j::k,b,h,a,w,hc=>by
  unfold Pv at h;cases hb:Nat.beq j id with
  |true =>
   simp[hb]at h;subst h;have:=Aug hb;subst this;simp[Ko,Exit.inBlock];exact hc
  |false =>
   simp[hb]at h;have f:id≠j:=fun e=>by subst e;simp at hb
   simp only[Ko,Exit.inBlock,if_neg f];exact Ka h hc
 |.code x::k,b,h,a,w,hc=>by simp only[Pv]at h;simp only[Ko,Exit.then];exact Ka h hc
 |.reg _ _ _ _::k,b,h,a,w,hc=>by simp only[Pv]at h;simp only[Ko];exact Ka h hc
 |.lp J::k,b,h,a,w,hc=>by simp only[Pv]at h;simp only[Ko,Exit.then];exact Ka h hc
 |[],b,h,a,w,hc=>by simp[Pv]at h
def Kc {c:Cx}{a:Act}{w:World}(h:Ao2 P fn (Aoy c Post.post) .ret a w):∀ k:List KI,Ko P fn Post c k .ret a w
 |[]=>h
 |.blk j::k=>by simp only[Ko,Exit.inBlock];exact Kc h k
 |.code x::k=>by simp only[Ko,Exit.then];exact Kc h k
 |.reg _ _ _ _::k=>by simp only[Ko];exact Kc h k
 |.lp J::k=>by simp only[Ko,Exit.then];exact Kc h k
def Rel.drew {a:Act}(h:Rel c s u m ρ a w):Rel c s u m ρ a { w with drawn:=w.drawn+1 } :=
 ⟨h.sz,h.tm,h.df,h.box,h.inj,h.lv,⟨h.gd.pu,h.gd.pm,h.gd.ap,h.gd.cl⟩,⟨h.gr.sz,h.gr.old,h.gr.us,h.gr.ms,h.gr.io,fun f=>⟨(h.gr.dr f).tape,Nat.le_succ_of_le (h.gr.dr f).dr⟩⟩⟩
theorem Rel.shut (h:Rel c s u m ρ { tmps:=t,defers:=d::dl } w)(K:Aap d=true) :
 ∃ r w',d.target=.collected r/\(Instr.takeDeferred r).run P w=.ok [] w'/\Rel c s u m ρ { tmps:=t,defers:=dl } w':=by
 obtain⟨q,H,l,A,I⟩:=h.df;rw[List.filter_cons,if_pos K]at l;cases q with
 |nil=>cases l
 |cons r q =>
  rw[Auk,Ave]at l;obtain⟨rfl,l⟩:=l;obtain⟨v,U,B,C⟩:=I r Aw3;have n:∀ g,g≠r->(w.putObj r (.deferred none)).heap[g]?=w.heap[g]?:=fun g a=>World.putObj_heap_other a;have Q:(w.putObj r (.deferred none)).heap[r]?=some (.deferred none):=World.putObj_heap_same (B0 v);refine⟨r,w.putObj r (.deferred none),rfl,run_takeDeferred v,h.sz,h.tm,⟨q,(Awr.1 H).2,l,A,fun V O=>?_⟩,fun k b J=>?_,h.inj,h.lv,⟨fun g o a=>?_,fun g o a=>?_,h.gd.ap,fun g p R y j z a L=>?_⟩,⟨?_,fun g a N=>?_,h.gr.us,h.gr.ms,h.gr.io,fun f=>⟨(h.gr.dr f).tape,(h.gr.dr f).dr⟩⟩⟩
  ·grind
  ·obtain⟨⟨cs,x,D,E⟩,F⟩:=h.box k b J;refine⟨⟨cs,?_,D,E⟩,F⟩;rw[n _ (fun e=>by rw[e,v]at x;cases x)];exact x
  ·rw[n g (fun e=>by rw[e,B]at a;cases a)];exact h.gd.pu g o a
  ·rw[n g (fun e=>by rw[e,C]at a;cases a)];exact h.gd.pm g o a
  ·rw[n g (fun e=>by rw[e,Q]at a;cases a)]at a;exact h.gd.cl g p R y j z a L
  ·grind
  rw[n g oV];exact h.gr.old g a N
end based
def Rel.marks (a:Rel c s u m ρ { tmps:=t,defers:=d::dl } w):Aap d=true:=by
 obtain⟨_,_,_,h,_⟩:=a.df;cases e:Aap d with
 |true=>rfl
 |false=>simp_all
def Rel.leaves {c:Cx}{R:Ending->World->Prop}{s:S}{u m:PH}{ρ:Nat->Nat}{t:Array Value}{v:Value}:∀ {dl:List Deferred} {w:World},Rel c s u m ρ { tmps:=t,defers:=dl } w ->
 (∀ w',Rel c s u m ρ { tmps:=t,defers:=[] } w'->(results fn t).run P w'=.ok v w'/\R (.returned v) w')->LeavesInM Fence.wide 1 P fn t R dl .returning w
 |[],w,hr,hv=>⟨v,(hv w hr).1,(hv w hr).2⟩
 |d::dl,w,hr,hv=>by
  obtain⟨r,w',a,b,e⟩:=hr.shut (P:=P) hr.marks;exact⟨mV,.inl ⟨r,w',a,b,e.leaves hv⟩⟩
def Rel.ends {c:Cx}{R:Ending->World->Prop}{s:S}{u m:PH}{ρ:Nat->Nat}{a:Act}{w:World}(b:Rel c s u m ρ a w){v:Value}
 (e:∀ w',Rel c s u m ρ { tmps:=a.tmps,defers:=[] } w'->(results fn a.tmps).run P w'=.ok v w'/\R (.returned v) w'):Ao2 P fn R .ret a w/\Ao2 P fn R .normal a w:=by
 have:=b.leaves (P:=P) (fn:=fn) (R:=R) e;exact⟨this,this⟩
section based
variable [Df]
def Sym.reg_seq {k:List KI}(h:Ob P id ops false (Vs P fn Post k) (List.range ops.size) s u m):Vs P fn Post (.code (.region id ops false)::k) s u m:=fun c ρ a w b e=>wp_region (h.wpOps (fun s u m ρ a w f e=>f c ρ a w b e) e)
def Ag5 (h:Al9 ops s T=true):T.length=ops.size/\(∀ i,i<ops.size->i∈T)/\(∀ i∈T,i<ops.size)/\T.Nodup/\T.Pairwise (fun x y=>He ops s x y=true)/\(List.range ops.size).all (Kw ops)=true:=by
 unfold Al9 at h;simp only[Atj]at h;obtain⟨⟨⟨⟨g,a⟩,b⟩,f⟩,j⟩:=h;rw[Atx]at a b;refine⟨Aug g,fun i hi=>by simpa using a i (by simpa using hi),fun i hi=>A0v▸b i hi,?_,Hg f,j⟩;refine (Hg f).imp fun {x y} hxy e=>?_;unfold He at hxy;subst e;simp at hxy
theorem Sym.reg_draw (q:P.follows .mixedOrders=true)(o:Al9 ops s T=true){k:List KI}(h:Ob P id ops true (Vs P fn Post k) T s u m):Vs P fn Post (.code (.region id ops true)::k) s u m:=by
 intro c ρ a w f e;obtain⟨j,r,b,g,l,n⟩:=Ag5 o;refine wp_region_any q ?_;rw[show ops.size=T.length from j.symm];refine Ob.wpAny (c:=c) e.lv n (fun s u m ρ a w p e=>p c ρ a w f e) T.length T _ rfl (by simp[j]) (fun i hi=>?_) b g (fun i hi=>?_) l (F1.refl _ _) h e.drew
 ·simp_all
 exfalso;simp only[Aus]at hi;by_cases b:i<T.length
 ·grind
 grind
def Sym.ofNo {a:List KI}(b:Gf a=true):Sym P fn Post a s u m=Vs P fn Post a s u m:=by
 cases a with
 |nil=>rfl
 |cons x k=>cases x<;>first|rfl|simp[Gf]at b
theorem Mx (n:P.follows .mixedOrders=true){j g:List KI}{s l:S}(h:one P j s=some (g,l))(e:Sym P fn Post g l u m):Sym P fn Post j s u m:=by
 unfold one at h;split at h
 ·rename_i k;cases hn:Gf k with
  |false=>grind
  |true =>
   simp[hn]at h;obtain⟨rfl,rfl⟩:=h;rw[Sym.ofNo hn]at e;exact fun c ρ a w b f=>wp_skip (e c ρ a w b f)
 ·simp at h;obtain⟨rfl,rfl⟩:=h;exact fun c ρ a w b f=>wp_seq (e c ρ a w b f)
 ·simp at h;obtain⟨rfl,rfl⟩:=h;exact fun c ρ a w b f=>wp_block (e c ρ a w b f)
 ·split at h
  ·rename_i k' hk';cases hn:Gf k' with
   |false=>grind
   |true =>
    simp[hn]at h;obtain⟨rfl,rfl⟩:=h;rw[Sym.ofNo hn]at e;exact fun c ρ a w b f=>wp_exit (Ka hk' (e c ρ a w b f))
  cases h
 ·rename_i x y z k;split at h
  ·rename_i hx;simp at h;obtain⟨rfl,rfl⟩:=h;exact fun c ρ a w b f=>wp_cond_true (by rw[f.eval x (by rw[hx];simp),hx];rfl) (e c ρ a w b f)
  ·rename_i hx;simp at h;obtain⟨rfl,rfl⟩:=h;exact fun c ρ a w b f=>wp_cond_false (by rw[f.eval x (by rw[hx];simp),hx];rfl) (e c ρ a w b f)
  cases h
 ·simp at h;obtain⟨rfl,rfl⟩:=h;exact Sym.reg_seq e
 ·rename_i id ops k;cases hB:Al9 ops s (Arn ops) with
  |false=>grind
  |true =>
   simp[hB]at h;obtain⟨rfl,rfl⟩:=h;exact Sym.reg_draw n hB e
 ·rename_i id k;cases hn:Gf k with
  |false=>grind
  |true =>
   simp[hn]at h;obtain⟨rfl,rfl⟩:=h;rw[Sym.ofNo hn]at e;exact fun c ρ a w b f=>e c ρ a w b f
 ·rename_i k;cases hn:Gf k with
  |false=>grind
  |true =>
   simp[hn]at h;obtain⟨rfl,rfl⟩:=h;rw[Sym.ofNo hn]at e;exact .nil e
 ·split at h
  ·rename_i o ho;split at h
   ·rename_i hd;split at h
    ·rename_i hg;split at h
     ·rename_i x hw he;simp at h;obtain⟨rfl,rfl⟩:=h;exact .auto ho hg hd he e
     cases h
    ·rename_i hg;simp at h;obtain⟨rfl,rfl⟩:=h;exact .skip ho hg hd e
    cases h
   cases h
  cases h
 cases h
def Xs (b:P.follows .mixedOrders=true){u m:PH}:∀ (n:Nat) (a:List KI×S),Sym P fn Post (run P n a).1 (run P n a).2 u m->Sym P fn Post a.1 a.2 u m
 |0,a,h=>h
 |n+1,a,h=>by
  unfold run at h;split at h
  ·rename_i st' he;obtain⟨e,f⟩:=st';exact Mx b he (Xs b n _ h)
  exact h
end based
end sound
end
section
variable {a:Act}{args:List Value}{c:Cx}{env:Operand->Value}{f:Nat}{o:Op}{op:BinOp}{s:S}{w:World}{x y:Value}{ρ:Nat->Nat}
variable [Ca] [Pu]
section based
variable [Df]
class A7 (P:Program):Prop where
 mx:P.follows .mixedOrders=true
 ti:P.underlying 3=some (.int .i64)
def Y4 {P:Program}[h:A7 P]{d:TypeId}{x:TypeDesc}(b:P.underlying d=some x)(g:x≠.int .i64):Aoo d=false:=by
 unfold Aoo;cases e:Nat.beq d 3 with
 |false=>rfl
 |true=>have:=Aug e;subst this;rw[h.ti]at b;cases b;exact absurd rfl g
structure G (P:Program)(fn:Func)(Post:Bz)(st:List KI×S)(u m:PH):Prop where
 out:Sym P fn Post st.1 st.2 u m
def adv (P:Program)(st:List KI×S):List KI×S:=run P 3000 st
def ctl (P:Program):Nat->List KI×S->List KI×S
 |0,st=>st
 |n+1,st=>cond (Gf st.1) st (match one P st.1 st.2 with|some st'=>ctl P n st'|none=>st)
def nx (st:List KI×S)(v:Value):List KI×S :=
 match st.1 with
 |.reg id ops dr (i::l)::k=>match ops[i]? with
  |some o=>(.reg id ops dr l::k,st.2.put o.dst (.v v))
  |none=>st
 |_=>st
def Me (P:Program)(t:TypeId):Option Nat:=match P.underlying t with|some (.slice e)=>szB P e|_=>none
def K4 (P:Program)(t:TypeId):Option (TypeId×Nat×Nat×Value) :=
 match P.underlying t with
 |some (.slice e)=>match P.info? e with
  |some i=>match i.zero with|some z=>some (e,i.size,i.bytes,z)|none=>none
  |none=>none
 |_=>none
def Tm (P:Program)(t:TypeId):Option (Option Nat) :=
 match K7 P t with
 |some true=>match szB P t with|some n=>some (some n)|none=>none
 |some false=>some none
 |none=>none
inductive Vk where
 |other
 |bin (op:BinOp) (x y:Value)
 |binT (op:BinOp) (t:Option TypeDesc) (x y:Value)
 |un (op:UnOp) (x:Value)
 |conv (src dst:Option TypeDesc) (x:Value)
 |index (t:Option TypeDesc) (x i:Value)
 |addr (sz:Option Nat) (x i:Value)
 |slice (sz:Option Nat) (x:Value) (lo hi mx:Option Value)
 |load (k:Option (Option Nat)) (a:Value)
 |store (sz:Option Nat) (a v:Value)
 |make (e:Option (TypeId×Nat×Nat×Value)) (l c:Value)
 |call (f:Nat) (args:List Value)
 |app (e:Option (TypeId×Nat×Nat×Value)) (same:Bool) (args:List Value)
 |blt (b:Builtin) (ts:List TypeId) (args:List Value)
 |build (t:TypeId) (parts:List (Nat×Value))
 |buildS (e:Option (TypeId×Nat×Nat×Value)) (n:Nat) (parts:List (Nat×Value))
 |field (t:TypeId) (x:Value) (f:Nat)
 |fieldA (t:TypeId) (x:Value) (f:Nat)
def A8 (P:Program)(env:Operand->Value):Op->Vk
 |.binOp op t x y _=>match env x with
  |.int k a=>.bin op (.int k a) (env y)
  |.string a=>.bin op (.string a) (env y)
  |z=>.binT op (P.underlying t) z (env y)
 |.unOp op _ x=>.un op (env x)
 |.convert s d x=>.conv (P.underlying s) (P.underlying d) (env x)
 |.index t x i=>.index (P.underlying t) (env x) (env i)
 |.indexAddr t x i=>.addr (Me P t) (env x) (env i)
 |.slice t x lo hi mx=>.slice (Me P t) (env x) (lo.map env) (hi.map env) (mx.map env)
 |.load t a=>.load (Tm P t) (env a)
 |.store t a v=>.store (szB P t) (env a) (env v)
 |.makeSlice t l c=>.make (K4 P t) (env l) (env c)
 |.build t ps=>.build t (ps.toList.map fun (i,x)=>(i,env x))
 |.buildSlice t n ps=>.buildS (K4 P t) n (ps.toList.map fun (i,x)=>(i,env x))
 |.field t x f=>.field t (env x) f
 |.fieldAddr t x f=>.fieldA t (env x) f
 |.call c=>match c.callee with
  |.value f=>match env f with
   |.func (.func n) first cap=>.call n (first.toList++c.args.toList.map env++cap.toList)
   |_=>.other
  |.builtin b=>match b with
   |.append=>match c.argTypes.toList with
    |[t,t']=>.app (K4 P t) (Nat.beq t t') (c.args.toList.map env)
    |_=>.other
   |b=>.blt b c.argTypes.toList (c.args.toList.map env)
  |_=>.other
 |_=>.other
def Al (P:Program)(st:List KI×S):Vk :=
 match st.1 with
 |.reg _ ops _ (i::_)::_=>match ops[i]? with
  |some o=>match Gi st.2 o&&(Ll st.2 o.op&&Lu o.op) with
   |true=>match gv st.2 ops o with
    |some true=>A8 P (Ld st.2) o.op
    |_=>.other
   |false=>.other
  |none=>.other
 |_=>.other
def T0 (P:Program)(s:S):ResultVar->Option Value
 |.tmp t=>match s.tm t with|.v x=>some x|_=>none
 |.cell a t=>match s.tm a with
  |.p k off=>match s.hp k with
   |some b=>match ldv P t b.cells off with|some (.v y)=>some y|_=>none
   |none=>none
  |_=>none
def Qp (P:Program)(s:S):List ResultVar->Option (List Value)
 |[]=>some []
 |r::l=>match T0 P s r with
  |some x=>match Qp P s l with|some xs=>some (x::xs)|none=>none
  |none=>none
def Sc:List Value->Value
 |[x]=>x
 |l=>.tuple l.toArray
def Arp (P:Program)(fn:Func)(st:List KI×S):Option Value :=
 match st.1 with
 |.code .ret::_|[]=>match Qp P st.2 fn.results.toList with|some l=>some (Sc l)|none=>none
 |_=>none
end based
section rules
variable {P:Program} [A7 P] {fn:Func} {Post:Bz} {st:List KI×S} {u m:PH}
section based
variable [Df]
def G.stp (h:G P fn Post (adv P st) u m):G P fn Post st u m:=⟨Xs A7.mx 3000 st h.out⟩
def Jq:∀ (n:Nat) (st:List KI×S),Sym P fn Post (ctl P n st).1 (ctl P n st).2 u m->Sym P fn Post st.1 st.2 u m
 |0,st,h=>h
 |n+1,st,h=>by
  unfold ctl at h;cases hn:Gf st.1 with
  |true=>simp[hn]at h;exact h
  |false =>
   simp only[hn,cond_false]at h;split at h
   ·rename_i st' he;obtain⟨b,d⟩:=st';exact Mx A7.mx he (Jq n _ h)
   exact h
theorem Kk {V:Vk}(h:Al P st=V)(g:V≠.other):∃ e b d i l k s o,st=(.reg e b d (i::l)::k,s)/\b[i]?=some o/\gv s b o=some true/\Gi s o=true/\Ll s o.op=true/\Lu o.op=true/\A8 P (Ld s) o.op=V /\
 ∀ v,nx st v=(.reg e b d l::k,s.put o.dst (.v v)):=by
 obtain⟨j,s⟩:=st;unfold Al at h;simp only at h;split at h
 ·rename_i e b d i l k;split at h
  ·rename_i o ho;split at h
   ·rename_i hb;simp only[Atj]at hb;split at h
    ·rename_i hg;exact⟨e,b,d,i,l,k,s,o,rfl,ho,hg,hb.1,hb.2.1,hb.2.2,h,fun v=>by simp[nx,ho]⟩
    grind
   grind
  grind
 grind
def Agj {V:Vk}(h:A8 P env o=V)(b:V≠.other):Ev o=false:=by
 cases o<;>first|rfl|(simp only[A8]at h;exact absurd h.symm b)
def G.ask {V:Vk}{v:Value}(h:Al P (adv P st)=V)(j:V≠.other)(t:∀ env (o:Oper),A8 P env o.op=V->∀ w,(Gq o.op=true->Em u w/\(Pu.b=false->Em m w))->(execOp env o).run P w=.ok (.value v) w)
 (k:G P fn Post (nx (adv P st) v) u m):G P fn Post st u m:=by
 refine G.stp ?_;obtain⟨D,B,C,i,l,E,s,o,e,r,q,p,A,z,d,g⟩:=Kk h j;have k:=k.out;rw[g]at k;rw[e];exact⟨Ob.ask r q p A z (Agj d j) (fun w hp=>t _ o d w fun h=>⟨(hp (.inl h)).1,fun n=>(hp (.inl h)).2 (.inl n)⟩) k⟩
theorem G.big {V:Vk}{K:Value->PH->PH->Prop}(h:Al P (adv P st)=V)(t:V≠.other)(A:∀ env op,A8 P env op=V->Ek op=false)(j:(∀ v g d,K v g d->PH.le m d)\/(∀ env op,A8 P env op=V->Lj op=true))
 (D:∀ env (o:Oper),A8 P env o.op=V->∀ w,B1 u m w->E2 P env o w fun v w'=>∃ g d,B1 g d w'/\B8 u m w g d w'/\K v g d)
 (k:∀ v g d,PH.le u g->K v g d->G P fn Post (nx (adv P st) v) g d):G P fn Post st u m:=by
 refine G.stp ?_;obtain⟨L,H,I,i,l,N,s,o,e,C,B,z,F,E,b,p⟩:=Kk h t;rw[e];refine⟨?_⟩;refine Ob.big (K:=K) C B z F E (A _ _ b) (fun v g d J=>?_) (fun w n=>D _ o b w n) (fun v g d q r=>?_)
 ·rcases j with j|j
  ·grind
  exact .inr (.inr (.inl (Ahz (j _ _ b))))
 have:=(k v g d q r).out;rw[p]at this;exact this
theorem Aks (h:A8 P env o=.bin op x y):∃ t X Y b,o=.binOp op t X Y b/\env X=x/\env Y=y:=by
 cases o<;>simp only[A8]at h<;>try cases h
 ·split at h
  ·rename_i hx;simp at h;obtain⟨rfl,rfl,rfl⟩:=h;exact⟨_,_,_,_,rfl,hx,rfl⟩
  ·rename_i hx;simp at h;obtain⟨rfl,rfl,rfl⟩:=h;exact⟨_,_,_,_,rfl,hx,rfl⟩
  cases h
 grind
theorem Mr {d:Option TypeDesc}(h:A8 P env o=.binT op d x y):∃ t X Y b,o=.binOp op t X Y b/\env X=x/\env Y=y/\P.underlying t=d:=by
 cases o<;>simp only[A8]at h<;>try cases h
 ·split at h
  ·cases h
  ·cases h
  simp at h;obtain⟨rfl,rfl,rfl,rfl⟩:=h;exact⟨_,_,_,_,rfl,rfl,rfl,rfl⟩
 grind
theorem Xh (h:A8 P env o=.call f args):∃ c F first cap,o=.call c/\c.callee=.value F/\env F=.func (.func f) first cap/\args=first.toList++c.args.toList.map env++cap.toList:=by
 cases o<;>simp only[A8]at h<;>try cases h
 ·grind
 split at h
 ·grind
 ·grind
 cases h
def G.bin {op:BinOp}{x y:Value}(v:Value)(h:Al P (adv P st)=.bin op x y)(n:∀ t X Y w,(eqGuard op t X Y x y).run P w=.ok () w)(p:∀ t w,(binOp op t x y).run P w=.ok v w)
 (k:G P fn Post (nx (adv P st) v) u m):G P fn Post st u m:=by
 refine G.ask h mV (fun env o b w _=>?_) k;obtain⟨t,X,Y,r,e,rfl,rfl⟩:=Aks b;obtain⟨l,q,j,pos,d,g⟩:=o;simp only at e;subst e;simp[execOp,n,p]
def Db {k:IntKind}{x y:Int}(t:TypeId)(X Y:Operand)(w:World):(eqGuard op t X Y (.int k x) (.int k y)).run P w=.ok () w:=by
 unfold eqGuard;split<;>simp
def Dm {z:Int}(b:-9223372036854775808<=z)(d:z<=9223372036854775807):IntKind.i64.wrap z=z:=by
 simp only[IntKind.wrap,IntKind.signed,IntKind.bits];simp;omega
def G.add (x y z:Int)(h:Al P (adv P st)=.bin .add (.int .i64 x) (.int .i64 y))(e:x+y=z)(b:-9223372036854775808<=z)(d:z<=9223372036854775807)
 (k:G P fn Post (nx (adv P st) (.int .i64 z)) u m):G P fn Post st u m :=
 G.bin _ h Db (fun t w=>by simp[binOp,Op.intArith,e,Dm b d]) k
def G.sub (x y z:Int)(h:Al P (adv P st)=.bin .sub (.int .i64 x) (.int .i64 y))(e:x-y=z)(b:-9223372036854775808<=z)(d:z<=9223372036854775807)
 (k:G P fn Post (nx (adv P st) (.int .i64 z)) u m):G P fn Post st u m :=
 G.bin _ h Db (fun t w=>by simp[binOp,Op.intArith,e,Dm b d]) k
def G.mul (x y z:Int)(h:Al P (adv P st)=.bin .mul (.int .i64 x) (.int .i64 y))(e:x*y=z)(b:-9223372036854775808<=z)(d:z<=9223372036854775807)
 (k:G P fn Post (nx (adv P st) (.int .i64 z)) u m):G P fn Post st u m :=
 G.bin _ h Db (fun t w=>by simp[binOp,Op.intArith,e,Dm b d]) k
def Cj:BinOp->Int->Int->Bool
 |.eql,x,y=>decide (x=y)
 |.neq,x,y=>decide (x≠y)
 |.lss,x,y=>decide (x<y)
 |.leq,x,y=>decide (x<=y)
 |.gtr,x,y=>decide (x>y)
 |.geq,x,y=>decide (x≥y)
 |_,_,_=>false
def Apu:BinOp->Bool
 |.eql|.neq|.lss|.leq|.gtr|.geq=>true
 |_=>false
theorem G.cmpG (op:BinOp)(e:IntKind)(x y:Int)(b:Bool)(h:Al P (adv P st)=.bin op (.int e x) (.int e y))(d:Apu op=true)(g:Cj op x y=b)
 (k:G P fn Post (nx (adv P st) (.bool b)) u m):G P fn Post st u m:=by
 refine G.bin _ h Db (fun t w=>?_) k;subst g;cases op<;>simp[Apu]at d<;>simp[binOp,Op.intCmp,Cj]
 ·grind
 grind
def G.eqlT (x y:Int)(h:Al P (adv P st)=.bin .eql (.int .i64 x) (.int .i64 y))(b:x=y)(k:G P fn Post (nx (adv P st) (.bool true)) u m):G P fn Post st u m :=
 G.cmpG .eql .i64 x y true h rfl (by simp only[Cj,decide_eq_true_eq];exact b) k
def G.eqlF (x y:Int)(h:Al P (adv P st)=.bin .eql (.int .i64 x) (.int .i64 y))(b:¬ (x=y))(k:G P fn Post (nx (adv P st) (.bool false)) u m):G P fn Post st u m :=
 G.cmpG .eql .i64 x y false h rfl (by simp only[Cj,decide_eq_false_iff_not];exact b) k
def G.neqT (x y:Int)(h:Al P (adv P st)=.bin .neq (.int .i64 x) (.int .i64 y))(b:x≠y)(k:G P fn Post (nx (adv P st) (.bool true)) u m):G P fn Post st u m :=
 G.cmpG .neq .i64 x y true h rfl (by simp only[Cj,decide_eq_true_eq];exact b) k
def G.neqF (x y:Int)(h:Al P (adv P st)=.bin .neq (.int .i64 x) (.int .i64 y))(b:¬ (x≠y))(k:G P fn Post (nx (adv P st) (.bool false)) u m):G P fn Post st u m :=
 G.cmpG .neq .i64 x y false h rfl (by simp only[Cj,decide_eq_false_iff_not];exact b) k
def G.lssT (x y:Int)(h:Al P (adv P st)=.bin .lss (.int .i64 x) (.int .i64 y))(b:x<y)(k:G P fn Post (nx (adv P st) (.bool true)) u m):G P fn Post st u m :=
 G.cmpG .lss .i64 x y true h rfl (by simp only[Cj,decide_eq_true_eq];exact b) k
def G.lssF (x y:Int)(h:Al P (adv P st)=.bin .lss (.int .i64 x) (.int .i64 y))(b:¬ (x<y))(k:G P fn Post (nx (adv P st) (.bool false)) u m):G P fn Post st u m :=
 G.cmpG .lss .i64 x y false h rfl (by simp only[Cj,decide_eq_false_iff_not];exact b) k
def G.leqT (x y:Int)(h:Al P (adv P st)=.bin .leq (.int .i64 x) (.int .i64 y))(b:x<=y)(k:G P fn Post (nx (adv P st) (.bool true)) u m):G P fn Post st u m :=
 G.cmpG .leq .i64 x y true h rfl (by simp only[Cj,decide_eq_true_eq];exact b) k
def G.leqF (x y:Int)(h:Al P (adv P st)=.bin .leq (.int .i64 x) (.int .i64 y))(b:¬ (x<=y))(k:G P fn Post (nx (adv P st) (.bool false)) u m):G P fn Post st u m :=
 G.cmpG .leq .i64 x y false h rfl (by simp only[Cj,decide_eq_false_iff_not];exact b) k
def G.gtrT (x y:Int)(h:Al P (adv P st)=.bin .gtr (.int .i64 x) (.int .i64 y))(b:x>y)(k:G P fn Post (nx (adv P st) (.bool true)) u m):G P fn Post st u m :=
 G.cmpG .gtr .i64 x y true h rfl (by simp only[Cj,decide_eq_true_eq];exact b) k
def G.gtrF (x y:Int)(h:Al P (adv P st)=.bin .gtr (.int .i64 x) (.int .i64 y))(b:¬ (x>y))(k:G P fn Post (nx (adv P st) (.bool false)) u m):G P fn Post st u m :=
 G.cmpG .gtr .i64 x y false h rfl (by simp only[Cj,decide_eq_false_iff_not];exact b) k
def G.geqT (x y:Int)(h:Al P (adv P st)=.bin .geq (.int .i64 x) (.int .i64 y))(b:x≥y)(k:G P fn Post (nx (adv P st) (.bool true)) u m):G P fn Post st u m :=
 G.cmpG .geq .i64 x y true h rfl (by simp only[Cj,decide_eq_true_eq];exact b) k
def G.geqF (x y:Int)(h:Al P (adv P st)=.bin .geq (.int .i64 x) (.int .i64 y))(b:¬ (x≥y))(k:G P fn Post (nx (adv P st) (.bool false)) u m):G P fn Post st u m :=
 G.cmpG .geq .i64 x y false h rfl (by simp only[Cj,decide_eq_false_iff_not];exact b) k
def Fn0 (P:Program)(f:FuncId)(args:List Value)(u:PH)(R:Value->PH->Prop):Prop:=Aj P f args u PH.mt (fun v u' m'=>m'=PH.mt/\R v u')
def Em.mt (w:World):Em PH.mt w:=fun _ _ h=>by cases h
def B1.noM (h:B1 u m w):B1 u PH.mt w:=⟨h.pu,Em.mt w,fun _=>.inr rfl,h.cl⟩
theorem B1.frame {k:PH}{w w':World}(h:B1 u m w)(g:B1 k PH.mt w')(j:B8 u PH.mt w k PH.mt w'):B1 k m w'/\B8 u m w k m w':=by
 refine⟨⟨g.pu,fun b o d=>?_,fun b=>?_,g.cl⟩,⟨j.sz,fun b d _=>j.old b d rfl,j.us,fun b _ d=>d,j.io,j.dr⟩⟩
 ·rw[j.old b (h.pm.lt d) rfl];exact h.pm b o d
 cases d:m b with
 |none=>grind
 |some o =>
  rw[j.us b (h.pm.lt d)];rcases h.ap b with e|e
  ·grind
  grind
theorem J9 {env:Operand->Value}{o:Oper}{f:Nat}{args:List Value}(g:A8 P env o.op=.call f args)(q:∀ args w,(callFunc f args).run P w=.ok (.enter f args) w)(w:World)(K:Value->World->Prop)
 (h:Calls P f args.toArray w fun e w'=>∃ v,e=.returned v/\K v w'):E2 P env o w K:=by
 obtain⟨c,F,first,cap,e,j,p,rfl⟩:=Xh g
 obtain⟨l,r,k,pos,b,d⟩:=o;simp only at e;subst e;have:(execOp env ⟨l,.call c,k,pos,b,d⟩).run P w=.ok (.enter f ((first++c.args.map env)++cap)) w:=by
  simp[execOp,resolve,j,p,Deferred.ofValue,invoke,q]
 unfold E2;rw[this];have n:(first.toList++c.args.toList.map env++cap.toList).toArray=(first++c.args.map env)++cap:=by grind
 rw[<-n];exact h
def En (env:Operand->Value)(op:Op)(h:A8 P env op=.call f args):Ek op=false:=by
 obtain⟨c,F,first,cap,rfl,b,_⟩:=Xh h
 obtain⟨d,a,t⟩:=c;simp only at b;subst b;rfl
theorem G.call0 (f:Nat)(args:List Value){R:Value->PH->Prop}(h:Al P (adv P st)=.call f args)(t:∀ args w,(callFunc f args).run P w=.ok (.enter f args) w)(c:Fn0 P f args u R)
 (k:∀ v b,PH.le u b->R v b->G P fn Post (nx (adv P st) v) b m):G P fn Post st u m:=by
 refine G.big (K:=fun v b j=>j=m/\R v b) h mV En (.inl fun v b j r=>by rw[r.1];exact PH.le_refl _) (fun env o d w g=>?_) (fun v b j A B=>?_)
 ·refine J9 d t w _ (Calls.mono (c w g.noM) fun e w' z=>?_);obtain⟨v,b,j,l,n,p,rfl,q⟩:=z;obtain⟨g1,g2⟩:=g.frame n p;exact⟨v,l,b,m,g1,g2,rfl,q⟩
 grind
def S.init (n:Nat)(args:List Value):S:={ n:=n,tm:=fun d=>match args[d]? with|some x=>.v x|none=>.junk,hp:=fun _=>none }
def Ad4 (fn:Func):Code:=match fn.body with|some c=>c|none=>.skip
def st0 (fn:Func)(args:List Value):List KI×S:=([.code (Ad4 fn)],S.init fn.ntmps args)
end based
theorem Aj.of {e:Value->PH->PH->Prop}{f:FuncId}(v:P.funcs[f]?=some fn)(l:fn.body.isSome=true)(t:Nat.ble args.length fn.ntmps=true)(h:G P fn ⟨e,m⟩ (st0 fn args) u m):Aj P f args u m e:=by
 intro w q;have t:=Azz t;have p:fn.body=some (Ad4 fn):=by unfold Ad4;cases hc:fn.body with|none=>simp[hc]at l|some c=>rfl
 refine callsIn_wide.1 (callsIn_of_wp_marks (n:=1) v p trivial (wpIn_wide.2 ?_) rfl);have B:Rel ⟨w,u,m⟩ (S.init fn.ntmps args) u m (fun _=>0) { tmps:=args.toArray++Array.replicate (fn.ntmps-args.toArray.size) undef,defers:=[] } w:=by
  refine⟨?_,fun d g=>?_,Ac5.nil _ _ _ _,fun k b l=>?_,fun k j A=>absurd rfl A,⟨fun d k off g=>?_,fun j b k off z=>?_⟩,q,B8.refl _ _ _⟩
  ·simp[S.init];omega
  ·simp only[S.init]at g⊢;split at g
   ·rename_i x hx;have r:d<args.length:=by grind
    simp only[SV.den];rw[Axr (by simpa using r)];simpa using hx
   grind
  ·cases l
  ·simp only[S.init]at g;split at g<;>cases g
  cases z
 exact h.out _ _ _ _ rfl B
def Fn0.of {R:Value->PH->Prop}{f:FuncId}{args:List Value}(d:P.funcs[f]?=some fn)(b:fn.body.isSome=true)(e:Nat.ble args.length fn.ntmps=true)(h:G P fn ⟨fun v j g=>g=PH.mt/\R v j,PH.mt⟩ (st0 fn args) u PH.mt):Fn0 P f args u R :=
 Aj.of d b e h
section based
variable [Df]
def Km (t:Array Value):ResultVar->Sem Value
 |.tmp d=>pure (t.getD d undef)
 |.cell p ty=>do loadVar ty (<-asAddr (t.getD p undef))
def Uc (d:Rel c s u m ρ a w){r:ResultVar}(h:T0 P s r=some x):(Km a.tmps r).run P w=.ok x w:=by
 cases r with
 |tmp t =>
  simp only[T0]at h;split at h
  ·rename_i y hy;simp at h;subst h;have:=d.tm t (by rw[hy];simp);rw[hy]at this;simp[Km,this,SV.den]
  cases h
 |cell p t =>
  simp only[T0]at h;split at h
  ·rename_i k off hp;split at h
   ·rename_i b hb;split at h
    ·rename_i y hy;simp at h;subst h;have:=d.tm p (by rw[hp];simp);rw[hp]at this;obtain⟨e,_,_⟩:=Afp (P:=P) (w:=w) (d.box k b hb).1 hy;simp[Km,this];exact e
    cases h
   cases h
  cases h
def Ri (d:Rel c s u m ρ a w){l:List Value}(h:Qp P s fn.results.toList=some l):(results fn a.tmps).run P w=.ok (Sc l) w:=by
 have key:∀ (b:List ResultVar) (l:List Value),Qp P s b=some l->(b.mapM (Km a.tmps)).run P w=.ok l w:=by
  intro b;induction b with
  |nil=>intro l h;simp[Qp]at h;subst h;simp
  |cons r b ih =>
   intro l h;unfold Qp at h;split at h
   ·rename_i x hx;split at h
    ·rename_i xs hxs;simp at h;subst h;rw[A1l];simp only[Sem.run_bind,Uc d hx,Result.andThen_ok,ih xs hxs,Sem.run_pure]
    cases h
   cases h
 have e:results fn a.tmps=(do let vs <-fn.results.mapM (Km a.tmps);pure (if h:vs.size=1 then vs[0] else .tuple vs)):=by
  unfold results;rfl
 rw[e,<-Ays (xs:=fn.results),A0t];simp only[Sem.run_bind,Sem.run_map,key _ l h]
 match l with
 |[]=>rfl
 |[x]=>rfl
 |x::y::l=>rfl
end based
def G.ret (v:Value)(h:Arp P fn (adv P st)=some v)(hp:Post.post v u m):G P fn Post st u m:=by
 refine G.stp ?_;generalize adv P st=st' at h;obtain⟨g,s⟩:=st';unfold Arp at h;simp only at h;split at h
 ·split at h
  ·rename_i l hl;simp at h;subst h;refine⟨?_⟩;intro c ρ a w d e;exact wp_ret (Kc (e.ends fun w' b=>⟨Ri (a:=⟨a.tmps,[]⟩) b hl,_,_,_,rfl,b.gd,b.gr,hp⟩).1 _)
  cases h
 ·split at h
  ·rename_i l hl;simp at h;subst h;refine⟨?_⟩;intro c ρ a w d e;exact (e.ends fun w' b=>⟨Ri (a:=⟨a.tmps,[]⟩) b hl,_,_,_,rfl,b.gd,b.gr,hp⟩).2
  cases h
 cases h
end rules
end
end Go.Proofs.YtnafchoihfnkeaaGreatDoor
