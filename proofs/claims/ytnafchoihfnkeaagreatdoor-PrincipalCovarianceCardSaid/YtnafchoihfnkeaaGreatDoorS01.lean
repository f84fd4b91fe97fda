/- Parts of one proof, joined by a program. -/
import Derived.Orders
import Derived.KernelRfl
import Derived.Laws.CopyRow
import Derived.Laws.World
import Derived.Laws.Entries
import Derived.RangeFuncRecord
set_option linter.defProp false
set_option linter.unusedVariables false
set_option linter.unusedSimpArgs false
set_option linter.unusedSectionVars false
set_option maxHeartbeats 16000000
namespace Go.Proofs.YtnafchoihfnkeaaGreatDoor
open _root_.Array renaming getD_eq_getD_getElem? -> Aus, getElem?_eq_getElem -> Aup, getElem?_push -> A1z, getElem?_setIfInBounds_ne -> Avk, length_toList -> Awc, map_congr_left -> A1t, toArray_toList -> Ays
open Bool renaming and_eq_true -> Atj, false_or -> Azw, not_eq_true -> A0x, not_eq_true' -> Avs, not_true -> Ayc, or_eq_true -> Av7
open Instr renaming field -> A3z, fill -> Aze, sureAddr -> Aw2
open List renaming all_eq_true -> Atx, any_eq_true -> Ax1, append_assoc -> Au1, getElem?_append -> Axx, getElem?_drop -> Axm, getElem?_take -> Avu, getElem?_toArray -> Avh, length_take -> Atm, mapM_cons -> A1l, mapM_toArray -> A0t, mem_append -> Ati, mem_cons -> At6, mem_of_getElem? -> Ato, mem_singleton -> Aub, mem_toArray -> A0y, nodup_cons -> Awr, range -> At3
open Nat renaming add_zero -> Avb, beq -> Auy, ble -> Ayb, blt -> A29, blt_eq -> A0v, eq_of_beq_eq_true -> Aug, le_of_ble_eq_true -> Azz, le_refl -> Atb, le_trans -> As9, lt_of_lt_of_le -> Auf, min_eq_left -> Av6
open Option renaming getD_some -> Awo, some.inj -> Auq, some.injEq -> Atd
open Prod renaming mk.injEq -> Aun
open Result renaming andThen_ok -> Atf, ok -> A35
open Sem renaming run_bind -> At4, run_map -> A1g, run_pure -> Avt
section
theorem kV.{u} {α:Sort u}{a b:α}(h:a=b:=by kernel_rfl):a=b:=h
theorem oV {p:Prop}(h:p:=by omega):p:=h
theorem mV {p:Prop}(h:p:=by simp):p:=h
theorem dV {p:Prop}(h:p:=by dsimp only;omega):p:=h
theorem gV {p:Prop}(h:p:=by simp;omega):p:=h
theorem jV {p:Prop}(h:p:=by decide +kernel):p:=h
theorem fV {p:Prop}(h:p:=by decide):p:=h
end
section
variable {e g:Nat}{o:Obj}{w:World}
abbrev PH:=Nat->Option Obj
def PH.mt:PH:=fun _=>none
def Ek (x:PH)(w:World):Prop:=∀ g o,x g=some o->w.heap[g]?=some o
def J9 (x y:PH):Prop:=∀ g,x g=none\/y g=none
def PH.le (x y:PH):Prop:=∀ g o,x g=some o->y g=some o
def Abv (u:PH)(w:World):Prop:=∀ (g:Nat) (cs:Array Value) (t:TypeId) (fr:Nat×Nat) (j:Nat) (z:Int),w.heap[g]?=some (.cells cs t fr)->cs[j]?=some (.int .u64 z)->u g=some (.cells cs t fr)
structure B1 (u m:PH)(w:World):Prop where
 pu:Ek u w
 pm:Ek m w
 ap:J9 u m
 cl:Abv u w
class Ca where
 on:Prop
instance (priority:=low) Ca.no:Ca:=⟨False⟩
structure Me (w w':World):Prop where
 tape:w'.tape=w.tape
 dr:w.drawn<=w'.drawn
theorem Me.refl (w:World):Me w w:=⟨rfl,Atb _⟩
theorem Me.trans {a b c:World}(h:Me a b)(k:Me b c):Me a c:=⟨k.tape.trans h.tape,As9 h.dr k.dr⟩
variable [Fl:Ca]
structure B8 (u m:PH)(w:World)(u' m':PH)(w':World):Prop where
 sz:w.heap.size<=w'.heap.size
 old:∀ g,g<w.heap.size->m g=none->w'.heap[g]?=w.heap[g]?
 us:∀ g,g<w.heap.size->u' g=u g
 ms:∀ g,g<w.heap.size->m g=none->m' g=none
 io:w'.os=w.os/\w'.output=w.output
 dr:Fl.on->Me w w'
theorem B0 (h:w.heap[g]?=some o):g<w.heap.size:=by
 rcases Nat.lt_or_ge g w.heap.size with h'|h'
 ·exact h'
 ·simp[Array.getElem?_eq_none h']at h
theorem Ek.lt {x:PH}(h:Ek x w)(hg:x g=some o):g<w.heap.size:=B0 (h g o hg)
theorem Ek.none {x:PH}{w:World}(h:Ek x w){g:Nat}(hg:w.heap.size<=g):x g=none:=by
 cases hx:x g with
 |none=>rfl
 |some o=>have:=h.lt hx;omega
theorem B8.refl (u m:PH)(w:World):B8 u m w u m w:=⟨Atb _,fun _ _ _=>rfl,fun _ _=>rfl,fun _ _ h=>h,⟨rfl,rfl⟩,fun _=>Me.refl w⟩
theorem B8.trans {u m u1 m1 u2 m2:PH}{w w1 w2:World}(h:B8 u m w u1 m1 w1)(k:B8 u1 m1 w1 u2 m2 w2):B8 u m w u2 m2 w2 :=
 ⟨As9 h.sz k.sz,fun g hg hm=>(k.old g (Auf hg h.sz) (h.ms g hg hm)).trans (h.old g hg hm),
  fun g hg=>(k.us g (Auf hg h.sz)).trans (h.us g hg),fun g hg hm=>k.ms g (Auf hg h.sz) (h.ms g hg hm),⟨k.io.1.trans h.io.1,k.io.2.trans h.io.2⟩,fun f=>(h.dr f).trans (k.dr f)⟩
theorem B8.le {u m u' m':PH}{w w':World}(h:B8 u m w u' m' w')(hp:Ek u w):PH.le u u' :=
 fun g o hg=>by rw[h.us g (hp.lt hg)];exact hg
theorem PH.le_refl (u:PH):PH.le u u:=fun _ _ h=>h
theorem PH.le.trans {u v x:PH}(h:PH.le u v)(k:PH.le v x):PH.le u x:=fun g o hg=>k g o (h g o hg)
inductive SV where
 |junk
 |v (x:Value)
 |p (k off:Nat)
def SV.den (ρ:Nat->Nat):SV->Value
 |.junk=>undef
 |.v x=>x
 |.p k off=>.pointer (some ⟨ρ k,off,none⟩)
structure Blk where
 t:TypeId
 cells:List SV
structure S where
 n:Nat
 tm:Nat->SV
 hp:Nat->Option Blk
def S.put (s:S)(d:Option Nat)(x:SV):S :=
 match d with
 |none=>s
 |some d=>{ s with tm:=fun e=>cond (Auy e d) x (s.tm e) }
def S.setb (s:S)(w:Option (Nat×Blk)):S :=
 match w with
 |none=>s
 |some (k,b)=>{ s with hp:=fun j=>cond (Auy j k) (some b) (s.hp j) }
def S.ev (s:S):Operand->SV
 |.tmp t=>s.tm t
 |.const v=>.v v
 |.global g=>.v (.pointer (some ⟨g,0,none⟩))
 |.func f=>.v (.func (.func f) #[] #[])
theorem B7 (s:S)(d:Nat)(x:SV):(s.put (some d) x).tm d=x:=by simp[S.put]
theorem P9 (s:S)(d:Nat)(x:SV)(h:e≠d):(s.put (some d) x).tm e=s.tm e:=by
 have:Auy e d=false:=by rw[<-A0x];exact fun hh=>h (Aug hh)
 simp[S.put,this]
theorem Fd (s:S)(d:Option Nat)(x:SV)(h:d≠some e):(s.put d x).tm e=s.tm e:=by
 cases d with
 |none=>rfl
 |some d=>exact P9 s d x (fun h'=>h (by rw[h']))
theorem C4 (s:S)(d:Option Nat)(x:SV):(s.put d x).hp=s.hp:=by cases d<;>rfl
theorem Es (s:S)(w:Option (Nat×Blk)):(s.setb w).tm=s.tm:=by rcases w with _|⟨k,b⟩<;>rfl
theorem Bf (s:S)(k:Nat)(b:Blk):(s.setb (some (k,b))).hp k=some b:=by simp[S.setb]
theorem A6 (s:S)(k:Nat)(b:Blk){j:Nat}(h:j≠k):(s.setb (some (k,b))).hp j=s.hp j:=by
 have:Auy j k=false:=by rw[<-A0x];exact fun hh=>h (Aug hh)
 simp[S.setb,this]
theorem V8 (s:S)(d:Option Nat)(x:SV):(s.put d x).n=s.n:=by cases d<;>rfl
theorem Qa (s:S)(w:Option (Nat×Blk)):(s.setb w).n=s.n:=by rcases w with _|⟨k,b⟩<;>rfl
theorem S.ext' {s t:S}(hn:s.n=t.n)(h:s.tm=t.tm)(k:s.hp=t.hp):s=t:=by cases s;cases t;simp_all
theorem Al0 (s:S){d e:Option Nat}(x y:SV)(h:∀ k,d=some k->e≠some k):(s.put d x).put e y=(s.put e y).put d x:=by
 refine S.ext' (by simp only[V8]) (funext fun i=>?_) (by simp only[C4]);by_cases hd:d=some i
 ·have he:e≠some i:=h i hd;subst hd;rw[Fd _ _ _ he,B7,B7]
 ·rw[Fd _ d x hd];by_cases he:e=some i
  ·subst he;rw[B7,B7]
  ·rw[Fd _ _ _ he,Fd _ _ _ he,Fd _ _ _ hd]
theorem Pk (s:S)(d:Option Nat)(x:SV)(w:Option (Nat×Blk)):(s.setb w).put d x=(s.put d x).setb w:=by
 cases d<;>rcases w with _|⟨k,b⟩<;>rfl
theorem Ag2 (s:S)(w w':Option (Nat×Blk))(h:∀ k b k' b',w=some (k,b)->w'=some (k',b')->k≠k'):(s.setb w).setb w'=(s.setb w').setb w:=by
 rcases w with _|⟨k,b⟩
 ·rfl
 ·rcases w' with _|⟨k',b'⟩
  ·rfl
  ·have hne:=h k b k' b' rfl rfl;refine S.ext' rfl rfl (funext fun i=>?_);by_cases h1:i=k
   ·subst h1;rw[A6 _ _ _ hne,Bf,Bf]
   ·by_cases h2:i=k'
    ·subst h2;rw[Bf,A6 _ _ _ h1,Bf]
    ·rw[A6 _ _ _ h2,A6 _ _ _ h1,A6 _ _ _ h1,A6 _ _ _ h2]
def Ajq (ρ:Nat->Nat)(b:Blk)(o:Option Obj):Prop :=
 ∃ cs:Array Value,o=some (.cells cs b.t (0,0))/\cs.size=b.cells.length/\∀ (i:Nat) (x:SV),b.cells[i]?=some x->x≠.junk->cs[i]?=some (x.den ρ)
structure Cx where
 w0:World
 u0:PH
 m0:PH
def Arl (r:Nat):Deferred:={ target:=.collected r,args:=#[] }
class Df where
 dl:List Deferred
instance (priority:=low) Df.no:Df:=⟨[]⟩
class Pu where
 b:Bool
instance (priority:=low) Pu.no:Pu:=⟨false⟩
def Acf (d:Deferred):Bool:=match d.target with|.collected _=>true|_=>false
def Adl [Df](n0:Nat)(u m:PH)(w:World)(dl:List Deferred):Prop:=∃ ds:List Nat,ds.Nodup/\dl.filter Acf=ds.map Arl/\dl.filter (fun d=>!Acf d)=Df.dl/\∀ r∈ds,w.heap[r]?=some (.deferred (some []))/\n0<=r/\u r=none/\m r=none
theorem Adl.nil (n0:Nat)(u m:PH)(w:World):Adl n0 u m w []:=⟨[],.nil,rfl,rfl,fun r hr=>by cases hr⟩
theorem Adl.of [Df]{n0:Nat}{u m u' m':PH}{w w':World}{dl:List Deferred}(h:Adl n0 u m w dl)
 (hk:∀ r,w.heap[r]?=some (.deferred (some []))->n0<=r->u r=none->m r=none->w'.heap[r]?=some (.deferred (some []))/\u' r=none/\m' r=none):Adl n0 u' m' w' dl:=by
 obtain⟨ds,h1,h2,h2',h3⟩:=h;refine⟨ds,h1,h2,h2',fun r hr=>?_⟩;obtain⟨e1,e2,e3,e4⟩:=h3 r hr;obtain⟨f1,f2,f3⟩:=hk r e1 e2 e3 e4;exact⟨f1,e2,f2,f3⟩
def M2 (s:S):Prop:=(∀ d k off,s.tm d=.p k off->s.hp k≠none)/\(∀ j b k off,s.hp j=some b->SV.p k off∈b.cells->s.hp k≠none)
structure Rel [Df](c:Cx)(s:S)(u m:PH)(ρ:Nat->Nat)(a:Act)(w:World):Prop where
 sz:a.tmps.size=s.n
 tm:∀ d,s.tm d≠.junk->a.tmps[d]?=some ((s.tm d).den ρ)
 df:Adl c.w0.heap.size u m w a.defers
 box:∀ k b,s.hp k=some b->Ajq ρ b (w.heap[ρ k]?)/\c.w0.heap.size<=ρ k/\u (ρ k)=none/\m (ρ k)=none
 inj:∀ k j,s.hp k≠none->s.hp j≠none->ρ k=ρ j->k=j
 lv:M2 s
 gd:B1 u m w
 gr:B8 c.u0 c.m0 c.w0 u m w
theorem Rel.eval [Df]{c:Cx}{s:S}{u m:PH}{ρ:Nat->Nat}{a:Act}{w:World}(h:Rel c s u m ρ a w)(x:Operand)(hx:s.ev x≠.junk):a.eval x=(s.ev x).den ρ:=by
 cases x with
 |tmp t=>have:=h.tm t hx;simp[Act.eval,S.ev,this]
 |const v=>rfl
 |global g=>rfl
 |func f=>rfl
end
section
variable {g:Nat}{v:Value}
variable [Ca] [Df]
def Bh:Value->Bool
 |.agg _|.tuple _=>false
 |.int .u64 _=>false
 |_=>true
theorem Ie (h:Bh v=true):v.oneCell'=true:=by
 unfold Bh at h;split at h<;>simp_all [Value.oneCell']
 all_goals (cases v<;>simp_all)
theorem I1 (h:Bh v=true)(z:Int):v≠.int .u64 z:=by rintro rfl;simp[Bh]at h
section rel
variable {c:Cx} {s:S} {u m:PH} {ρ:Nat->Nat} {a:Act} {w:World}
theorem Rel.put (h:Rel c s u m ρ a w){d:Option Nat}{x:SV}{y:Value}(hx:x≠.junk->y=x.den ρ)(hl:∀ k off,x=.p k off->s.hp k≠none)(hd:∀ e,d=some e->e<s.n) :
 Rel c (s.put d x) u m ρ (a.put d y) w:=by
 cases d with
 |none=>exact h
 |some d =>
  have hdn:=hd d rfl;have hsz:=h.sz;refine⟨by simpa[Act.put,S.put] using h.sz,fun e he=>?_,by simpa[Act.put] using h.df,fun k b hb=>?_,fun k j hk hj=>?_,⟨fun e k off he=>?_,fun j b k off hj hm=>?_⟩,h.gd,h.gr⟩
  ·by_cases hed:e=d
   ·subst hed;rw[B7]at he⊢;simp only[Act.put];rw[Array.getElem?_setIfInBounds_self];simp[show e<a.tmps.size by omega,hx he]
   ·rw[P9 _ _ _ hed]at he⊢;simp only[Act.put];rw[Avk (fun h=>hed h.symm)];exact h.tm e he
  ·rw[C4]at hb;exact h.box k b hb
  ·rw[C4]at hk hj;exact h.inj k j hk hj
  ·rw[C4];by_cases hed:e=d
   ·subst hed;rw[B7]at he;exact hl k off he
   ·rw[P9 _ _ _ hed]at he;exact h.lv.1 e k off he
  ·rw[C4]at hj⊢;exact h.lv.2 j b k off hj hm
theorem A9 (w:World)(o:Obj)(h:g<w.heap.size):(w.alloc o).heap[g]?=w.heap[g]?:=by
 show (w.heap.push o)[g]?=_;rw[A1z,if_neg (Nat.ne_of_lt h)]
theorem Cg (w:World)(o:Obj):(w.alloc o).heap[w.heap.size]?=some o:=by
 show (w.heap.push o)[w.heap.size]?=_;rw[A1z,if_pos rfl]
theorem Bu (w:World)(o:Obj):(w.alloc o).heap.size=w.heap.size+1:=Array.size_push ..
theorem B1.alloc (h:B1 u m w){cs:Array Value}{t:TypeId}{fr:Nat×Nat}(hw:∀ (j:Nat) (z:Int),cs[j]?≠some (.int .u64 z)):B1 u m (w.alloc (.cells cs t fr)):=by
 refine⟨fun g o hg=>?_,fun g o hg=>?_,h.ap,fun g cs' t' fr' j z hg hj=>?_⟩
 ·rw[A9 _ _ (h.pu.lt hg)];exact h.pu g o hg
 ·rw[A9 _ _ (h.pm.lt hg)];exact h.pm g o hg
 ·have hlt:=B0 hg;rw[Bu]at hlt;by_cases hgs:g=w.heap.size
  ·subst hgs;rw[Cg]at hg;simp only[Atd,Obj.cells.injEq]at hg;obtain⟨rfl,rfl,rfl⟩:=hg;exact absurd hj (hw j z)
  ·rw[A9 _ _ oV]at hg;exact h.cl g cs' t' fr' j z hg hj
theorem B8.alloc {u0 m0:PH}{w0:World}(h:B8 u0 m0 w0 u m w)(o:Obj):B8 u0 m0 w0 u m (w.alloc o) :=
 ⟨by rw[Bu];have:=h.sz;omega,fun g hg hm=>by rw[A9 _ _ (Auf hg h.sz)];exact h.old g hg hm,h.us,h.ms,h.io,fun f=>⟨(h.dr f).tape,(h.dr f).dr⟩⟩
theorem X7 {ρ:Nat->Nat}{k g:Nat}{x:SV}(hx:∀ off,x≠.p k off):x.den (fun j=>if j=k then g else ρ j)=x.den ρ:=by
 cases x with
 |junk=>rfl
 |v x=>rfl
 |p j off =>
  have:j≠k:=fun e=>hx off (by rw[e]);simp[SV.den,this]
theorem Rel.alloc (h:Rel c s u m ρ a w){k:Nat}(hk:s.hp k=none){b:Blk}{cs:Array Value}(hlen:cs.size=b.cells.length)(hcs:∀ (i:Nat) (x:SV),b.cells[i]?=some x->x≠.junk->cs[i]?=some (x.den ρ))
 (hl:∀ j off,SV.p j off∈b.cells->s.hp j≠none) (hw:∀ (j:Nat) (z:Int),cs[j]?≠some (.int .u64 z)) :
 Rel c (s.setb (some (k,b))) u m (fun j=>if j=k then w.heap.size else ρ j) a (w.alloc (.cells cs b.t)):=by
 have hne:∀ j b',s.hp j=some b'->j≠k:=fun j b' hj e=>by rw[e,hk]at hj;cases hj
 have hne':∀ j,s.hp j≠none->j≠k:=fun j hj e=>hj (by rw[e,hk]);have hlt:∀ j,s.hp j≠none->ρ j<w.heap.size:=fun j hj=>by
  cases hb:s.hp j with
  |none=>exact absurd hb hj
  |some b'=>obtain⟨⟨cs',e,_⟩,_⟩:=h.box j b' hb;exact B0 e
 refine⟨by rw[Qa];exact h.sz,fun d hd=>?_,h.df.of fun r e _ hu hm=>⟨by rw[A9 _ _ (B0 e)];exact e,hu,hm⟩,fun j b' hb=>?_,fun i j hi hj he=>?_,⟨fun d j off hd=>?_,fun i b' j off hi hm=>?_⟩,h.gd.alloc hw,h.gr.alloc _⟩
 ·rw[Es]at hd⊢;rw[h.tm d hd,X7 (fun off e=>h.lv.1 d k off e hk)]
 ·by_cases hjk:j=k
  ·subst hjk;rw[Bf]at hb;simp only[Atd]at hb;subst hb;simp only[if_true];refine⟨⟨cs,by rw[Cg],hlen,fun i x hi hx=>?_⟩,h.gr.sz,?_,?_⟩
   ·rw[hcs i x hi hx,X7 (fun off e=>?_)];exact hl j off (e▸Ato hi) hk
   ·exact h.gd.pu.none (Atb _)
   ·exact h.gd.pm.none (Atb _)
  ·rw[A6 _ _ _ hjk]at hb;simp only[if_neg hjk];obtain⟨⟨cs',e1,e2,e3⟩,r⟩:=h.box j b' hb;refine⟨⟨cs',by rw[A9 _ _ (B0 e1)];exact e1,e2,fun i x hi hx=>?_⟩,r⟩;rw[e3 i x hi hx,X7 (fun off e=>h.lv.2 j b' k off hb (e▸Ato hi) hk)]
 ·by_cases hik:i=k
  ·by_cases hjk:j=k
   ·rw[hik,hjk]
   ·rw[A6 _ _ _ hjk]at hj;simp only[hik,if_true,if_neg hjk]at he;have:=hlt j hj;omega
  ·rw[A6 _ _ _ hik]at hi;by_cases hjk:j=k
   ·simp only[hjk,if_true,if_neg hik]at he;have:=hlt i hi;omega
   ·rw[A6 _ _ _ hjk]at hj;simp only[if_neg hik,if_neg hjk]at he;exact h.inj i j hi hj he
 ·rw[Es]at hd;have:=h.lv.1 d j off hd;rw[A6 _ _ _ (hne' j this)];exact this
 ·by_cases hjk:j=k
  ·rw[hjk,Bf];simp
  ·rw[A6 _ _ _ hjk];by_cases hik:i=k
   ·subst hik;rw[Bf]at hi;simp only[Atd]at hi;subst hi;exact hl j off hm
   ·rw[A6 _ _ _ hik]at hi;exact h.lv.2 i b' j off hi hm
theorem Rel.store (h:Rel c s u m ρ a w){k:Nat}{b b':Blk}(hk:s.hp k=some b)(ht:b'.t=b.t){cs:Array Value}(hlen:cs.size=b'.cells.length)(hcs:∀ (i:Nat) (x:SV),b'.cells[i]?=some x->x≠.junk->cs[i]?=some (x.den ρ))
 (hl:∀ j off,SV.p j off∈b'.cells->s.hp j≠none) (hw:∀ (j:Nat) (z:Int),cs[j]?≠some (.int .u64 z)) :
 Rel c (s.setb (some (k,b'))) u m ρ a (w.setRow (ρ k) cs):=by
 obtain⟨⟨cs0,e0,_,_⟩,r0,r1,r2⟩:=h.box k b hk;have hother:∀ g,g≠ρ k->(w.setRow (ρ k) cs).heap[g]?=w.heap[g]?:=fun g hg=>setRow_other w (ρ k) g cs hg;have hsame:(w.setRow (ρ k) cs).heap[ρ k]?=some (.cells cs b.t (0,0)):=setRow_heap w (ρ k) cs0 cs _ _ e0;refine⟨by rw[Qa];exact h.sz,fun d hd=>by rw[Es]at hd⊢;exact h.tm d hd,h.df.of fun r e _ hu hm=>⟨by rw[hother _ (fun e'=>by rw[e',e0]at e;cases e)];exact e,hu,hm⟩,fun j b1 hb=>?_,fun i j hi hj he=>?_,⟨fun d j off hd=>?_,fun i b1 j off hi hm=>?_⟩,⟨?_,?_,h.gd.ap,?_⟩,⟨?_,?_,h.gr.us,h.gr.ms,h.gr.io,fun f=>⟨(h.gr.dr f).tape,(h.gr.dr f).dr⟩⟩⟩
 ·by_cases hjk:j=k
  ·subst hjk;rw[Bf]at hb;simp only[Atd]at hb;subst hb;exact⟨⟨cs,by rw[hsame,ht],hlen,hcs⟩,r0,r1,r2⟩
  ·rw[A6 _ _ _ hjk]at hb;have hne:ρ j≠ρ k:=fun e=>hjk (h.inj j k (by rw[hb];simp) (by rw[hk];simp) e);rw[hother _ hne];exact h.box j b1 hb
 ·have h1:∀ i,(s.setb (some (k,b'))).hp i≠none->s.hp i≠none:=fun i hi=>by
   by_cases hik:i=k
   ·rw[hik,hk];simp
   ·rw[A6 _ _ _ hik]at hi;exact hi
  exact h.inj i j (h1 i hi) (h1 j hj) he
 ·rw[Es]at hd;by_cases hjk:j=k
  ·rw[hjk,Bf];simp
  ·rw[A6 _ _ _ hjk];exact h.lv.1 d j off hd
 ·by_cases hjk:j=k
  ·rw[hjk,Bf];simp
  ·rw[A6 _ _ _ hjk];by_cases hik:i=k
   ·subst hik;rw[Bf]at hi;simp only[Atd]at hi;subst hi;exact hl j off hm
   ·rw[A6 _ _ _ hik]at hi;exact h.lv.2 i b1 j off hi hm
 ·intro g o hg;rw[hother g (fun e=>by rw[e,r1]at hg;cases hg)];exact h.gd.pu g o hg
 ·intro g o hg;rw[hother g (fun e=>by rw[e,r2]at hg;cases hg)];exact h.gd.pm g o hg
 ·intro g cs' t' fr' j z hg hj;by_cases hgk:g=ρ k
  ·rw[hgk,hsame]at hg;simp only[Atd,Obj.cells.injEq]at hg;obtain⟨rfl,_,_⟩:=hg;exact absurd hj (hw j z)
  ·rw[hother g hgk]at hg;exact h.gd.cl g cs' t' fr' j z hg hj
 ·rw[setRow_size];exact h.gr.sz
 ·intro g hg hm;rw[hother g oV];exact h.gr.old g hg hm
end rel
end
section
def iV (x:Int):SV:=.v (.int .i64 x)
def sV (a:Option Addr)(n c:Nat):SV:=.v (.slice a n c)
def bV (b:Bool):SV:=.v (.bool b)
end
section fill
theorem Xs (off:Nat):∀ (l:List Value) (k:Nat) (cells:Array Value),off+k+l.length<=cells.size ->
 (((l.zipIdx k).foldl (fun (cs:Array Value) (p:Value×Nat)=>cs.setIfInBounds (off+p.2) p.1) cells).toList)=cells.toList.take (off+k)++l++cells.toList.drop (off+k+l.length)
 |[],k,cells,h=>mV
 |v::l,k,cells,h=>by
  have ih:=Xs off l (k+1) (cells.setIfInBounds (off+k) v) (by simp at h⊢;omega);simp only[List.zipIdx_cons,List.foldl_cons];rw[ih];simp only[Array.toList_setIfInBounds,List.length_cons];have hlt:off+k<cells.toList.length:=by simp at h⊢;omega
  have e1:(cells.toList.set (off+k) v).take (off+(k+1))=cells.toList.take (off+k)++[v]:=by
   rw[show off+(k+1)=off+k+1 by omega,List.take_add_one,List.take_set_of_le (Atb _),List.getElem?_set_self hlt];rfl
  have e2:(cells.toList.set (off+k) v).drop (off+(k+1)+l.length)=cells.toList.drop (off+k+(l.length+1)):=by
   rw[List.drop_set_of_lt oV];congr 1;omega
  rw[e1,e2];simp
theorem Xo (place:Nat->Option (Nat×Nat))(cells:Array Value)(i off size:Nat)(v:Value)(rest:List (Nat×Value))(hp:place i=some (off,size))(hs:v.cells.size=size)(hf:off+size<=cells.size) :
 Aze place cells ((i,v)::rest)=Aze place (cells.toList.take off++v.cells.toList++cells.toList.drop (off+size)).toArray rest:=by
 have e:v.cells.zipIdx.foldl (fun (cs:Array Value) (p:Value×Nat)=>cs.setIfInBounds (off+p.2) p.1) cells=(cells.toList.take off++v.cells.toList++cells.toList.drop (off+size)).toArray:=by
  apply Array.ext';have:=Xs off v.cells.toList 0 cells gV;simp only[Avb,Awc,hs]at this;rw[<-this,<-Array.foldl_toList,Array.toList_zipIdx]
 rw[Instr.fill.eq_2];simp only[hp];rw[if_neg (by simp[hs];omega),<-e]
def Oj (P:Program):List Field->Option (List (Nat×Nat))
 |[]=>some []
 |f::l=>match P.info? f.type with
  |some i=>match Oj P l with|some r=>some ((f.offset,i.size)::r)|none=>none
  |none=>none
def Acj (pl:List (Nat×Nat)):List Value->List (Nat×Value)->Option (List Value)
 |cells,[]=>some cells
 |cells,(i,v)::r=>match pl[i]? with
  |some (off,size)=>cond (Auy v.cells.size size&&Ayb (off+size) cells.length) (Acj pl (cells.take off++v.cells.toList++cells.drop (off+size)) r) none
  |none=>none
theorem Sm (pl:List (Nat×Nat)):∀ (ps:List (Nat×Value)) (cells:List Value) (r:List Value),Acj pl cells ps=some r->Aze (fun i=>pl[i]?) cells.toArray ps=some r.toArray
 |[],cells,r,h=>by simp[Acj]at h;simp[Aze,h]
 |(i,v)::ps,cells,r,h=>by
  unfold Acj at h;split at h
  ·rename_i off size hp;cases hc:(Auy v.cells.size size&&Ayb (off+size) cells.length) with
   |false=>simp[hc]at h
   |true =>
    simp only[hc,cond_true]at h;simp only[Atj]at hc;rw[Xo _ _ i off size v ps hp (Aug hc.1) (by simpa using Azz hc.2)];exact Sm pl ps _ r h
  ·cases h
theorem Uo {P:Program}{w:World}:∀ (l:List Field) (r:List (Nat×Nat)),Oj P l=some r->(l.mapM (fun f=>do pure (f.offset,<-sizeOf f.type)):Sem (List (Nat×Nat))).run P w=.ok r w
 |[],r,h=>by simp[Oj]at h;subst h;simp
 |f::l,r,h=>by
  unfold Oj at h;split at h
  ·rename_i i hi;split at h
   ·rename_i r' hr;simp at h;subst h;rw[A1l];have ih:=Uo (P:=P) (w:=w) l r' hr;simp only[At4,sizeOf,typeInfo,run_program,Atf,hi,Avt]at ih⊢;rw[ih];rfl
   ·cases h
  ·cases h
end fill
section
variable {b:Blk}{g i:Nat}{l:List SV}{o:Oper}{t:TypeId}{x:SV}
variable [Ca] [Df]
def Ip:List SV->Option (List Value)
 |[]=>some []
 |.v x::l=>match Ip l with|some r=>some (x::r)|none=>none
 |_=>none
def Kw (P:Program)(t:TypeId):Option Bool :=
 match P.underlying t with
 |some (.struct _)|some (.array _ _)=>some true
 |some _=>some false
 |none=>none
def szB (P:Program)(t:TypeId):Option Nat:=match P.info? t with|some i=>some i.size|none=>none
def ldv (P:Program)(t:TypeId)(cells:List SV)(off:Nat):Option SV :=
 match Kw P t with
 |some true =>
  match szB P t with
  |some n=>match Ip ((cells.drop off).take n) with
   |some l=>cond (Auy l.length n) (some (.v (.agg l.toArray))) none
   |none=>none
  |none=>none
 |some false=>match cells[off]? with
  |some (.v x)=>some (.v x)
  |some (.p k o)=>some (.p k o)
  |_=>none
 |none=>none
def Iw:SV->Option (List SV)
 |.v x=>cond (x.cells.toList.all Bh) (some (x.cells.toList.map .v)) none
 |.p k off=>some [.p k off]
 |.junk=>none
def L4 (l:List SV)(off:Nat)(r:List SV):List SV:=l.take off++r++l.drop (off+r.length)
def Lq (P:Program)(t:TypeId)(f:Nat):Option Nat :=
 match P.underlying t with
 |some (.struct fs)=>match fs[f]? with
  |some fd=>match szB P fd.type with
   |some (_+1)=>some fd.offset
   |_=>none
  |none=>none
 |_=>none
def Lb (s:S)(x:Operand):Value:=match s.ev x with|.v y=>y|_=>undef
def isV:SV->Bool|.v _=>true|_=>false
def Lm (s:S)(o:Op):Bool:=o.operands.toList.all fun x=>isV (s.ev x)
def pv (P:Program)(env:Operand->Value)(o:Op):Option Value :=
 match o with
 |.extract x i=>match env x with|.tuple vs=>vs[i]?|_=>none
 |.pick c a b=>match env c with|.bool true=>some (env a)|.bool false=>some (env b)|_=>none
 |.makeFunc fn first captured=>some (.func fn (first.map env) (captured.map env))
 |.unOp .not _ x=>match env x with|.bool b=>some (.bool !b)|_=>none
 |.convert src dst x=>match P.underlying src with
  |some .string=>match P.underlying dst with
   |some .string=>match env x with|.string y=>some (.string y)|_=>none
   |_=>none
  |_=>none
 |.call { callee:=.builtin .len,args:=args,argTypes:=ts } =>
  match args[0]?,ts[0]? with
  |some x,some t=>match P.underlying t with
   |some (.slice _)=>match env x with|.slice _ n _=>some (.int .i64 n)|_=>none
   |some .string=>match env x with|.string y=>some (.int .i64 y.size)|_=>none
   |_=>none
  |_,_=>none
 |.nilCheck x=>match env x with|.pointer (some a)=>some (.pointer (some a))|_=>none
 |.build t ps=>match P.info? t with
  |some i=>match i.zero with
   |some z=>match P.underlying t with
    |some (.struct fs)=>match Oj P fs.toList with
     |some pl=>match Acj pl z.cells.toList (ps.toList.map fun (i,x)=>(i,env x)) with|some l=>some (.agg l.toArray)|none=>none
     |none=>none
    |_=>none
   |none=>none
  |none=>none
 |.field t x f=>match P.underlying t with
  |some (.struct fs)=>match fs[f]? with
   |some fd=>match Kw P fd.type with
    |some false=>match env x with|.agg cs=>cs[fd.offset]?|_=>none
    |some true=>match szB P fd.type with
     |some n=>match env x with|.agg cs=>some (.agg (cs.extract fd.offset (fd.offset+n)))|_=>none
     |none=>none
    |none=>none
   |none=>none
  |_=>none
 |_=>none
def eff (P:Program)(name:Nat)(s:S)(o:Op):Option (SV×Option (Nat×Blk)) :=
 match o with
 |.move x=>some (s.ev x,none)
 |.assign x=>some (s.ev x,none)
 |.alloc t=>match P.info? t with
  |some i=>match i.zero with
   |some z=>match s.hp name with
    |none=>match Iw (.v z) with
     |some l=>some (.p name 0,some (name,⟨t,l⟩))
     |none=>none
    |some _=>none
   |none=>none
  |none=>none
 |.box t x=>match s.hp name with
  |none=>match Iw (s.ev x) with
   |some l=>some (.p name 0,some (name,⟨t,l⟩))
   |none=>none
  |some _=>none
 |.load t x=>match s.ev x with
  |.p k off=>match s.hp k with
   |some b=>match ldv P t b.cells off with|some y=>some (y,none)|none=>none
   |none=>none
  |_=>none
 |.store t x y=>match s.ev x with
  |.p k off=>match s.hp k with
   |some b=>match Iw (s.ev y) with
    |some l=>match szB P t with
     |some n=>cond (Auy l.length n&&Ayb (off+n) b.cells.length) (some (.v undef,some (k,⟨b.t,L4 b.cells off l⟩))) none
     |none=>none
    |none=>none
   |none=>none
  |_=>none
 |.fieldAddr t x f=>match s.ev x with
  |.p k off=>match Lq P t f with|some fo=>some (.p k (off+fo),none)|none=>none
  |_=>none
 |o=>match Lm s o with
  |true=>match pv P (Lb s) o with|some y=>some (.v y,none)|none=>none
  |false=>none
section sound
variable {P:Program} {c:Cx} {s:S} {u m:PH} {ρ:Nat->Nat} {a:Act} {w:World}
theorem V1:∀ {l:List SV} {r:List Value},Ip l=some r->l=r.map .v
 |[],r,h=>by simp[Ip]at h;simp[h]
 |.v x::l,r,h=>by
  unfold Ip at h;cases hl:Ip l with
  |none=>simp[hl]at h
  |some r'=>simp[hl]at h;subst h;simp[<-V1 hl]
 |.junk::l,r,h=>by simp[Ip]at h
 |.p k off::l,r,h=>by simp[Ip]at h
theorem Dy {b:Bool}(h:Kw P t=some b)(w:World):(isAgg t).run P w=.ok b w:=by
 unfold Kw at h;unfold isAgg;cases hd:P.underlying t with
 |none=>grind
 |some d=>simp only[At4,run_underlying hd];cases d<;>simp_all
theorem Be {n:Nat}(h:szB P t=some n)(w:World):(sizeOf t).run P w=.ok n w:=by
 unfold szB at h;unfold sizeOf typeInfo;cases hi:P.info? t with
 |none=>grind
 |some i=>simp_all
theorem Dp (g off j:Nat):(⟨g,off,none⟩:Addr).add j=⟨g,off+j,none⟩:=by unfold Addr.add;split<;>simp_all
theorem Ut {o:Option Obj}(h:Ajq ρ b o)(hg:w.heap[g]?=o)(hi:b.cells[i]?=some x)(hx:x≠.junk):w.cell? ⟨g,i,none⟩=some (x.den ρ):=by
 obtain⟨cs,e,_,e3⟩:=h;simp[World.cell?,hg,e,e3 i x hi hx]
theorem Aff {g off:Nat}{y:SV}(h:Ajq ρ b (w.heap[g]?))(hy:ldv P t b.cells off=some y) :
 (loadVar t ⟨g,off,none⟩).run P w=.ok (y.den ρ) w/\y≠.junk/\(∀ k o,y=.p k o->SV.p k o∈b.cells):=by
 unfold ldv at hy;unfold loadVar;split at hy
 ·rename_i ha;split at hy
  ·rename_i n hn;split at hy
   ·rename_i l hl;cases hlen:Auy l.length n with
    |false=>grind
    |true =>
     simp[hlen]at hy;subst hy;have hln:l.length=n:=Aug hlen;have hv:=V1 hl;have hcells:∀ j v,l[j]?=some v->w.cell? ((⟨g,off,none⟩:Addr).add j)=some v:=by
      intro j v hj;rw[Dp];have h1:((b.cells.drop off).take n)[j]?=some (.v v):=by grind
      rw[Avu]at h1;split at h1
      ·rw[Axm]at h1;exact Ut h rfl h1 mV
      ·cases h1
     have:=run_loadCells_list (P:=P) w ⟨g,off,none⟩ l hcells;refine⟨?_,mV,mV⟩;simp only[At4,Dy ha,Atf,if_true,Be hn];rw[<-hln,this];rfl
   ·cases hy
  ·cases hy
 ·rename_i ha;split at hy
  ·rename_i x hx;simp at hy;subst hy;have:=Ut h rfl hx mV;exact⟨by simp[Dy ha,this],mV,mV⟩
  ·rename_i k o hx;simp at hy;subst hy;have:=Ut h rfl hx mV;exact⟨by simp[Dy ha,this],mV,fun k' o' e=>by simp at e;obtain⟨rfl,rfl⟩:=e;exact Ato hx⟩
  ·cases hy
 ·grind
theorem Ew (h:Iw x=some l)(ρ:Nat->Nat) :
 l.map (·.den ρ)=(x.den ρ).cells.toList/\(∀ y∈l,y≠.junk)/\(∀ v∈l.map (SV.den ρ),Bh v=true)/\(∀ k o,SV.p k o∈l->x=.p k o)/\x≠.junk:=by
 cases x with
 |junk=>simp[Iw]at h
 |v x =>
  unfold Iw at h;cases hc:x.cells.toList.all Bh with
  |false=>grind
  |true =>
   simp only[hc,cond_true,Atd]at h;subst h;refine⟨by simp[SV.den,Function.comp_def],mV,?_,mV,mV⟩;intro v hv;simp[SV.den]at hv;rw[Atx]at hc;exact hc v (by simpa using hv)
 |p k off =>
  simp[Iw]at h;subst h;refine⟨by simp[SV.den,Value.cells],mV,by simp[SV.den,Bh],?_,mV⟩;intro k' o' hm;simp at hm;rw[hm.1,hm.2]
theorem Aiu {v:List Value}(ρ:Nat->Nat)(h:l.map (·.den ρ)=v)(hi:l[i]?=some x):v.toArray[i]?=some (x.den ρ):=by grind
theorem Anv {l:List Value}(h:∀ v∈l,Bh v=true)(j:Nat)(z:Int):l.toArray[j]?≠some (.int .u64 z):=by
 intro e;rw[Avh]at e;exact I1 (h _ (Ato e)) z rfl
theorem S0 (t:TypeId)(v:Value):(newVar t v).run P w=.ok ⟨w.heap.size,0,none⟩ (w.alloc (.cells v.cells t)):=by
 simp[newVar,newRow]
theorem Rel.box_new (h:Rel c s u m ρ a w){k:Nat}(hk:s.hp k=none)(hl:Iw x=some l)(hx:∀ j off,x=.p j off->s.hp j≠none)(t:TypeId){d:Option Nat}(hd:∀ e,d=some e->e<s.n) :
 ∃ ρ',Rel c ((s.put d (.p k 0)).setb (some (k,⟨t,l⟩))) u m ρ' (a.put d (.pointer (some ⟨w.heap.size,0,none⟩))) (w.alloc (.cells (x.den ρ).cells t)):=by
 obtain⟨e1,e2,e3,e4,_⟩:=Ew hl ρ;have h1:=h.alloc (k:=k) (b:=⟨t,l⟩) (cs:=(x.den ρ).cells) hk (by rw[<-Awc,<-e1];simp)
  (fun i y hi _=>by have:=Aiu ρ e1 hi;simpa using this) (fun j off hm=>hx j off (e4 j off hm))
  (fun j z=>by have:=Anv e3 j z;rw[e1]at this;simpa using this)
 refine⟨fun j=>if j=k then w.heap.size else ρ j,?_⟩;rw[<-Pk];refine h1.put (fun _=>by simp[SV.den]) (fun j off e=>?_) (by rw[Qa];exact hd);simp only[SV.p.injEq]at e;rw[<-e.1,Bf];simp
theorem Od (h:Rel c s u m ρ a w)(hs:∀ cs b,o.op≠.select cs b)(hv:Lm s o.op=true):execOp a.eval o=execOp (Lb s) o:=by
 refine execOp_congr o hs fun x hx=>?_;unfold Lm at hv;rw[Atx]at hv;have:=hv x (by simpa using hx);unfold isV at this;split at this
 ·rename_i y hy;rw[h.eval x (by rw[hy];simp),hy];simp[SV.den,Lb,hy]
 ·grind
theorem Aks {env:Operand->Value}{y:Value}(h:pv P env o.op=some y)(w:World):(execOp env o).run P w=.ok (.value y) w:=by
 obtain⟨dst,op,type,pos,after,guard⟩:=o;unfold pv at h;simp only at h;split at h
 ·rename_i x i;split at h
  ·rename_i vs hvs;simp[execOp,Instr.extract,hvs,h]
  ·cases h
 ·rename_i c x y';split at h
  ·rename_i hc;simp at h;subst h;simp[execOp,hc,asBool]
  ·rename_i hc;simp at h;subst h;simp[execOp,hc,asBool]
  ·cases h
 ·simp at h;subst h;simp[execOp,Instr.makeFunc]
 ·rename_i t x;split at h
  ·rename_i b hb;simp at h;subst h;simp[execOp,Op.unary,hb]
  ·cases h
 ·rename_i src dst' x;split at h
  ·rename_i h1;split at h
   ·rename_i h2;split at h
    ·rename_i z hz;simp at h;subst h;simp[execOp,convert,run_underlying h1,run_underlying h2,hz]
    ·cases h
   ·cases h
  ·cases h
 ·rename_i args ts;split at h
  ·rename_i x t hx ht;have hx':(args.map env)[0]?=some (env x):=by simp[hx]
   split at h
   ·rename_i e hu;split at h
    ·rename_i hz;simp at h;subst h;simp[execOp,resolve,invoke,builtin,Builtin.len_,hx',ht,run_underlying hu,hz,goInt]
    ·cases h
   ·rename_i hu;split at h
    ·rename_i hz;simp at h;subst h;simp[execOp,resolve,invoke,builtin,Builtin.len_,hx',ht,run_underlying hu,hz,goInt]
    ·cases h
   ·cases h
  ·cases h
 ·rename_i x;split at h
  ·rename_i z hz;simp at h;subst h;simp[execOp,hz]
  ·cases h
 ·rename_i t ps;split at h
  ·rename_i i hi;split at h
   ·rename_i z hz;split at h
    ·rename_i fs hu;split at h
     ·rename_i pl hpl;split at h
      ·rename_i l hl;simp at h;subst h;have h1:=Sm pl _ _ _ hl;have h2:=Uo (w:=w) fs.toList pl hpl;have e:(ps.map fun (p:Nat×Operand)=>(p.1,env p.2)).toList=ps.toList.map fun (p:Nat×Operand)=>(p.1,env p.2):=mV
       simp only[execOp,Instr.build,zeroValue,typeInfo,At4,A1g,run_program,Atf,hi,hz,Avt,run_underlying hu];rw[<-Ays (xs:=fs),A0t];simp only[A1g,h2,Atf,Avh];simp only[Ays]at h1;rw[e,h1];rfl
      ·cases h
     ·cases h
    ·cases h
   ·cases h
  ·cases h
 ·rename_i t x f;split at h
  ·rename_i fs hu;split at h
   ·rename_i fd hf;split at h
    ·rename_i ha;split at h
     ·rename_i cs hx;simp[execOp,A3z,run_underlying hu,hf,asAgg,hx,part,Dy ha,h]
     ·cases h
    ·rename_i ha;split at h
     ·rename_i n hn;split at h
      ·rename_i cs hx;simp at h;subst h;simp[execOp,A3z,run_underlying hu,hf,asAgg,hx,part,Dy ha,Be hn]
      ·cases h
     ·cases h
    ·cases h
   ·cases h
  ·cases h
 ·cases h
end sound
end
section
variable {l r:List SV}{off:Nat}{x:SV}
variable [Ca] [Df]
section sound
variable {P:Program} {c:Cx} {s:S} {u m:PH} {ρ:Nat->Nat} {a:Act} {w:World}
def Asc (P:Program)(a:Act)(o:Oper)(w:World)(y:Value)(w':World):Prop :=
 (execOp a.eval o).run P w=.ok (.value y) w'\/((execOp a.eval o).run P w=.ok .skip w'/\y=undef)
theorem Aet (l r:List SV)(off:Nat)(h:off+r.length<=l.length):(L4 l off r).length=l.length:=by
 unfold L4;simp;omega
theorem Vf (h:x∈L4 l off r):x∈l\/x∈r:=by
 unfold L4 at h;rcases Ati.1 h with h|h
 ·rcases Ati.1 h with h|h
  ·exact .inl (List.mem_of_mem_take h)
  ·exact .inr h
 ·exact .inl (List.mem_of_mem_drop h)
theorem Aee (h:off+r.length<=l.length)(i:Nat):(L4 l off r)[i]?=if i<off then l[i]? else if i<off+r.length then r[i-off]? else l[i]?:=by
 unfold L4;rw[Au1,Axx];simp only[Atm,Av6 (show off<=l.length by omega)];split
 ·rw[Avu,if_pos (by assumption)]
 ·rw[Axx];by_cases h2:i<off+r.length
  ·rw[if_pos oV,if_pos h2]
  ·rw[if_neg oV,if_neg h2,Axm];congr 1;omega
theorem Agm {cs:List Value}{r:List Value}(h:off+r.length<=cs.length)(i:Nat):(cs.take off++r++cs.drop (off+r.length))[i]?=if i<off then cs[i]? else if i<off+r.length then r[i-off]? else cs[i]?:=by
 rw[Au1,Axx];simp only[Atm,Av6 (show off<=cs.length by omega)];split
 ·rw[Avu,if_pos (by assumption)]
 ·rw[Axx];by_cases h2:i<off+r.length
  ·rw[if_pos oV,if_pos h2]
  ·rw[if_neg oV,if_neg h2,Axm];congr 1;omega
theorem Ahe (h:Rel c s u m ρ a w){name:Nat}{o:Oper}{hw:Option (Nat×Blk)}(he:eff P name s o.op=some (x,hw))(hd:∀ e,o.dst=some e->e<s.n) :
 ∃ ρ' w' y,Asc P a o w y w'/\Rel c ((s.put o.dst x).setb hw) u m ρ' (a.put o.dst y) w':=by
 obtain⟨dst,op,type,pos,after,guard⟩:=o;simp only at he hd⊢;have mv:∀ z:Operand,∃ ρ' w' y,(A35 (Next.value (a.eval z)) w=A35 (Next.value y) w')/\Rel c (s.put dst (s.ev z)) u m ρ' (a.put dst y) w':=by
  intro z;refine⟨ρ,w,a.eval z,rfl,h.put (fun hz=>h.eval z hz) (fun k off hz=>?_) hd⟩;cases z with
  |tmp t=>exact h.lv.1 t k off hz
  |const v=>cases hz
  |global g=>cases hz
  |func f=>cases hz
 have lvev:∀ (z:Operand) (k off:Nat),s.ev z=.p k off->s.hp k≠none:=by
  intro z k off hz;cases z with
  |tmp t=>exact h.lv.1 t k off hz
  |const v=>cases hz
  |global g=>cases hz
  |func f=>cases hz
 unfold eff at he;split at he
 ·rename_i z;simp only[Atd,Aun]at he;obtain⟨rfl,rfl⟩:=he;obtain⟨ρ',w',y,e,r⟩:=mv z;exact⟨ρ',w',y,.inl (by simpa[execOp] using e),r⟩
 ·rename_i z;simp only[Atd,Aun]at he;obtain⟨rfl,rfl⟩:=he;obtain⟨ρ',w',y,e,r⟩:=mv z;exact⟨ρ',w',y,.inl (by simpa[execOp] using e),r⟩
 ·rename_i t;split at he
  ·rename_i i hi;split at he
   ·rename_i z hz;split at he
    ·rename_i hn;split at he
     ·rename_i l hl;simp only[Atd,Aun]at he;obtain⟨rfl,rfl⟩:=he;obtain⟨ρ',r⟩:=h.box_new hn hl mV t hd;refine⟨ρ',_,_,.inl ?_,r⟩;simp[execOp,Instr.alloc,zeroValue,typeInfo,hi,hz,S0,SV.den]
     ·cases he
    ·cases he
   ·cases he
  ·cases he
 ·rename_i t z;split at he
  ·rename_i hn;split at he
   ·rename_i l hl;simp only[Atd,Aun]at he;obtain⟨rfl,rfl⟩:=he;obtain⟨ρ',r⟩:=h.box_new hn hl (fun j off hz=>lvev z j off hz) t hd;refine⟨ρ',_,_,.inl ?_,r⟩;have hz:=h.eval z (Ew hl ρ).2.2.2.2;simp[execOp,Instr.box,S0,hz]
   ·cases he
  ·cases he
 ·rename_i t z;split at he
  ·rename_i k off hz;split at he
   ·rename_i b hb;split at he
    ·rename_i y hy;simp only[Atd,Aun]at he;obtain⟨rfl,rfl⟩:=he;obtain⟨h1,h2,h3⟩:=Aff (P:=P) (w:=w) (h.box k b hb).1 hy;have hzv:=h.eval z (by rw[hz];simp);rw[hz]at hzv;refine⟨ρ,w,y.den ρ,.inl ?_,h.put (fun _=>rfl) (fun k' o' e=>h.lv.2 k b k' o' hb (h3 k' o' e)) hd⟩;simp[execOp,Instr.loadAt,Aw2,hzv,SV.den,h1]
    ·cases he
   ·cases he
  ·cases he
 ·rename_i t z y;split at he
  ·rename_i k off hz;split at he
   ·rename_i b hb;split at he
    ·rename_i l hl;split at he
     ·rename_i n hn;cases hc:(Auy l.length n&&Ayb (off+n) b.cells.length) with
      |false=>simp[hc]at he
      |true =>
       simp only[hc,cond_true,Atd,Aun]at he;obtain⟨rfl,rfl⟩:=he;simp only[Atj]at hc;have hln:l.length=n:=Aug hc.1;have hle:off+n<=b.cells.length:=Azz hc.2;obtain⟨e1,e2,e3,e4,e5⟩:=Ew hl ρ;have hzv:=h.eval z (by rw[hz];simp);rw[hz]at hzv;have hyv:=h.eval y e5;obtain⟨⟨cs,c1,c2,c3⟩,r0,r1,r2⟩:=h.box k b hb;have hvl:((s.ev y).den ρ).cells.toList.length=n:=by rw[<-e1];simpa using hln
       have hst:=run_storeCells_at P (ρ k) off b.t ((s.ev y).den ρ).cells.toList 0 cs w c1 oV (fun v hv=>Ie (e3 v (by rw[e1];exact hv)));have hfit:off+((s.ev y).den ρ).cells.toList.length<=cs.toList.length:=by simp at hvl⊢;omega
       refine⟨ρ,w.setRow (ρ k) (cs.toList.take off++((s.ev y).den ρ).cells.toList++cs.toList.drop (off+((s.ev y).den ρ).cells.toList.length)).toArray,undef,.inr ⟨?_,rfl⟩,?_⟩
       ·have hsz:((s.ev y).den ρ).cells.size=n:=by simpa using hvl
        have hzv':a.eval z=.pointer (some ⟨ρ k,off,none⟩):=hzv;simp only[execOp,Instr.storeAt,Aw2,hzv',hyv,storeVar,At4,Avt,Atf,Be hn,hsz,ne_eq,not_true_eq_false,if_false];simp only[Avb]at hst;simp[hst]
       ·rw[<-Pk];refine Rel.put (x:=.v undef) ?_ (fun _=>rfl) mV (by rw[Qa];exact hd);refine h.store (b':=⟨b.t,L4 b.cells off l⟩) hb rfl ?_ (fun i x hi hx=>?_) (fun j o hm=>?_) (fun j zz=>?_)
        ·simp only[List.size_toArray];rw[Aet _ _ _ oV];simp at hvl⊢;omega
        ·rw[Avh,Agm hfit];rw[Aee oV]at hi;rw[hvl];rw[hln]at hi;split
         ·rename_i hlt;rw[if_pos hlt]at hi;have:=c3 i x hi hx;simpa using this
         ·rename_i hlt;rw[if_neg hlt]at hi;split
          ·rename_i hlt2;rw[if_pos hlt2]at hi;rw[<-e1];simp[hi]
          ·rename_i hlt2;rw[if_neg hlt2]at hi;have:=c3 i x hi hx;simpa using this
        ·rcases Vf hm with hm|hm
         ·exact h.lv.2 k b j o hb hm
         ·exact lvev y j o (e4 j o hm)
        ·intro e;rw[Avh,Agm hfit]at e;have hnw:∀ (i:Nat),cs.toList[i]?≠some (Value.int .u64 zz):=fun i hi=>by
          have:=h.gd.cl (ρ k) cs b.t (0,0) i zz c1 (by simpa using hi);rw[r1]at this;cases this
         split at e
         ·exact hnw _ e
         ·split at e
          ·exact I1 (e3 _ (by rw[e1];exact Ato e)) zz rfl
          ·exact hnw _ e
     ·cases he
    ·cases he
   ·cases he
  ·cases he
 ·rename_i t z f;split at he
  ·rename_i k off hz;split at he
   ·rename_i fo hf;simp only[Atd,Aun]at he;obtain⟨rfl,rfl⟩:=he;have hzv:=h.eval z (by rw[hz];simp);rw[hz]at hzv;refine⟨ρ,w,_,.inl ?_,h.put (y:=.pointer (some ⟨ρ k,off+fo,none⟩)) (fun _=>rfl) (fun k' o' e=>?_) hd⟩
    ·unfold Lq at hf;split at hf
     ·rename_i fs hfs;split at hf
      ·rename_i fd hfd;split at hf
       ·rename_i n hn;simp only[Atd]at hf;subst hf;simp[execOp,Instr.fieldAt,run_underlying hfs,hfd,Aw2,hzv,SV.den,fieldPlace,Be hn,Dp]
       ·cases hf
      ·cases hf
     ·cases hf
    ·simp only[SV.p.injEq]at e;rw[<-e.1];exact lvev z k off hz
   ·cases he
  ·cases he
 ·rename_i hn1 hn2 hn3 hn4 hn5 hn6 hn7;split at he
  ·rename_i hall;split at he
   ·rename_i y hy;simp only[Atd,Aun]at he;obtain⟨rfl,rfl⟩:=he;refine⟨ρ,w,y,.inl ?_,h.put (fun _=>rfl) mV hd⟩;rw[Od (o:=⟨dst,op,type,pos,after,guard⟩) h (fun cs b hsel=>?_) hall]
    ·exact Aks (o:=⟨dst,op,type,pos,after,guard⟩) hy w
    ·simp only at hsel;subst hsel;simp[pv]at hy
   ·cases he
  ·cases he
end sound
end
section
variable {a:Act}{d:Option Nat}{hw:Option (Nat×Blk)}{i name y:Nat}{m u:PH}{o:Oper}{s s':S}{w:World}{x:SV}{z:Operand}{ρ:Nat->Nat}
variable [Ca] [Df] [Pu]
def gv (s:S)(ops:Array Oper)(o:Oper):Option Bool :=
 match o.guard with
 |none=>some true
 |some (j,want)=>match ops[j]? with
  |some oj=>match oj.dst with
   |some d=>match s.tm d with
    |.v (.bool b)=>some (b==want)
    |.v (.tuple _)=>some false
    |_=>none
   |none=>none
  |none=>none
def Gh (s:S)(o:Oper):Bool:=match o.dst with|none=>true|some d=>A29 d s.n
def Apf (d:TypeId):Bool:=Auy d 3
def En:Op->Bool
 |.convert _ d _=>Apf d
 |.move _|.assign _|.pick ..|.alloc _|.box ..|.build ..|.load ..|.nilCheck _|.binOp ..|.unOp ..|.fieldAddr ..|.field ..|.indexAddr ..|.index ..|.slice ..|.extract ..|.makeFunc ..|.makeInterface ..=>true
 |.lookup ..=>true
 |.call { callee:=.builtin .len,.. }|.call { callee:=.builtin .cap,.. }|.call { callee:=.builtin .max,.. }|.call { callee:=.builtin .min,.. }=>true
 |_=>false
def Gq:Op->Bool
 |.convert _ d _=>!Apf d
 |.load ..|.lookup ..=>true
 |_=>false
def Ld:Op->Bool
 |.store ..=>true
 |.call { callee:=.builtin .append,.. }|.call { callee:=.builtin .copy,.. }=>true
 |_=>false
def bef (ops:Array Oper):Nat->Nat->Nat->Bool
 |0,_,_=>false
 |f+1,i,x=>match ops[i]? with
  |some o=>o.after.toList.any fun e=>Region.binds .any e&&(Auy e.on x||bef ops f e.on x)
  |none=>false
def Ass:Op->Bool
 |.call { callee:=.value _,.. }=>true
 |.mapUpdate ..|.insert ..=>true
 |_=>false
def Ar1 (ops:Array Oper)(y:Nat):Bool:=(At3 ops.size).all fun x=>Auy x y||bef ops ops.size y x
def Nb (ops:Array Oper)(y:Nat)(o:Op):Bool:=Ld o||(Ass o&&Ar1 ops y)
theorem Ahl {ops:Array Oper}{o:Op}(h:Ld o=true):Nb ops y o=true:=by unfold Nb;rw[h];rfl
theorem Ajs {ops:Array Oper}{o:Op}(h:Nb ops y o=false):Ld o=false:=by
 unfold Nb at h;cases hm:Ld o with
 |true=>grind
 |false=>rfl
def Nx (ops:Array Oper)(t:Nat):Bool:=ops.toList.all fun o=>match o.dst with|some d=>!Auy d t|none=>true
def isP:SV->Bool
 |.p _ _=>true
 |_=>false
def faB (ops:Array Oper)(s:S)(o:Oper):Bool:=o.guard.isNone&&match o.op with
 |.fieldAddr _ (.tmp b) _=>Nx ops b&&isP (s.tm b)
 |_=>false
def wrB (t:Nat)(o:Oper):Bool:=match o.dst with|some d=>Auy d t|none=>false
def Vw (ops:Array Oper)(s:S)(t:Nat):Bool:=ops.toList.any (wrB t)&&ops.toList.all fun o=>!wrB t o||faB ops s o
def Zx (ops:Array Oper)(s:S)(o:Oper):Bool:=match o.op with
 |.load _ (.tmp t)=>(Nx ops t&&isP (s.tm t))||Vw ops s t
 |_=>false
def Ja (ops:Array Oper)(s:S):Bool:=ops.toList.all fun o=>!Gq o.op||Zx ops s o
def Eq:Op->Bool
 |.alloc _|.box ..=>true
 |_=>false
def L7:Op->Bool
 |.select ..=>false
 |_=>true
theorem Jh {o:Op}(h:L7 o=true)(cs:Array SelectCase)(b:Bool):o≠.select cs b:=by rintro rfl;simp[L7]at h
def E3 (P:Program)(env:Operand->Value)(o:Oper)(w:World)(K:Value->World->Prop):Prop :=
 match (execOp env o).run P w with
 |.ok (.value v) w'=>K v w'
 |.ok .skip w'=>K undef w'
 |.ok (.enter f args) w'=>Calls P f args w' fun e w''=>∃ v,e=.returned v/\K v w''
 |_=>False
inductive Ob (P:Program)(id:Nat)(ops:Array Oper)(dr:Bool)(Fin:S->PH->PH->Prop):List Nat->S->PH->PH->Prop
 |nil {s:S} {u m:PH}:Fin s u m->Ob P id ops dr Fin [] s u m
 |auto {i:Nat} {l:List Nat} {s:S} {u m:PH} {o:Oper} {x:SV} {hw:Option (Nat×Blk)}:ops[i]?=some o->gv s ops o=some true->Gh s o=true->eff P (id*1000+i) s o.op=some (x,hw) ->
  Ob P id ops dr Fin l ((s.put o.dst x).setb hw) u m->Ob P id ops dr Fin (i::l) s u m
 |skip {i:Nat} {l:List Nat} {s:S} {u m:PH} {o:Oper}:ops[i]?=some o->gv s ops o=some false->Gh s o=true ->
  Ob P id ops dr Fin l (s.put o.dst (.v undef)) u m->Ob P id ops dr Fin (i::l) s u m
 |ask {i:Nat} {l:List Nat} {s:S} {u m:PH} {o:Oper} {v:Value}:ops[i]?=some o->gv s ops o=some true->Gh s o=true->Lm s o.op=true->L7 o.op=true->Eq o.op=false ->
  (∀ w,(Gq o.op=true\/dr=false->Ek u w/\(Pu.b=false\/dr=false->Ek m w))->(execOp (Lb s) o).run P w=.ok (.value v) w) ->
  Ob P id ops dr Fin l (s.put o.dst (.v v)) u m->Ob P id ops dr Fin (i::l) s u m
 |big {i:Nat} {l:List Nat} {s:S} {u m:PH} {o:Oper} {K:Value->PH->PH->Prop}:ops[i]?=some o->gv s ops o=some true->Gh s o=true->Lm s o.op=true->L7 o.op=true->En o.op=false ->
  (∀ v u' m',K v u' m'->PH.le m m'\/dr=false\/Nb ops i o.op=true\/Ja ops s=true\/Pu.b=true) ->
  (∀ w,B1 u m w->E3 P (Lb s) o w fun v w'=>∃ u' m',B1 u' m' w'/\B8 u m w u' m' w'/\K v u' m') ->
  (∀ v u' m',PH.le u u'->K v u' m'->Ob P id ops dr Fin l (s.put o.dst (.v v)) u' m')->Ob P id ops dr Fin (i::l) s u m
section sound
variable {P:Program} {id:Nat} {ops:Array Oper} {dr:Bool} {Fin:S->PH->PH->Prop} {c:Cx} {Q:Exit->Act->World->Prop}
theorem Mn (h:Rel c s u m ρ a w){b:Bool}(hg:gv s ops o=some b):Region.wanted o (yielded ops a.tmps)=b:=by
 unfold gv at hg;unfold Region.wanted;split at hg
 ·grind
 ·rename_i j want e;rw[e];split at hg
  ·rename_i oj hj;split at hg
   ·rename_i d hd;split at hg
    ·rename_i b' hb;have:=h.tm d (by rw[hb];simp);rw[hb]at this;simp[yielded,hj,hd,this]at hg⊢;exact hg
    ·rename_i vs hb;have:=h.tm d (by rw[hb];simp);rw[hb]at this;simp only[Atd]at hg;subst hg;simp[yielded,hj,hd,this,SV.den]
    ·cases hg
   ·cases hg
  ·grind
theorem Ya (h:Gh s o=true):∀ e,o.dst=some e->e<s.n:=by
 intro e he;unfold Gh at h;rw[he]at h;exact A0v▸h
theorem Wv {w w':World}{y:Value}{K:Act->World->Prop}(h:Asc P a o w y w')(hk:K (a.put o.dst y) w'):o.wp P a w K Q:=by
 unfold Oper.wp;rcases h with h|⟨h,rfl⟩<;>rw[h]<;>exact hk
theorem V0 {ops:Array Oper}(h:∀ t,Nx ops t=true->s'.tm t=s.tm t)(o:Oper):faB ops s' o=faB ops s o:=by
 unfold faB;split
 ·grind
 ·rfl
theorem K4 {ops:Array Oper}(h:∀ t,Nx ops t=true->s'.tm t=s.tm t)(t:Nat):Vw ops s' t=Vw ops s t:=by
 unfold Vw;simp only[V0 h]
theorem Aeu {ops:Array Oper}(h:∀ t,Nx ops t=true->s'.tm t=s.tm t)(o:Oper):Zx ops s' o=Zx ops s o:=by
 unfold Zx;split
 ·rename_i t' t hop;rw[K4 h];cases hn:Nx ops t with
  |false=>rfl
  |true=>rw[h t hn]
 ·rfl
theorem Xt {ops:Array Oper}(h:∀ t,Nx ops t=true->s'.tm t=s.tm t):Ja ops s'=Ja ops s:=by
 unfold Ja;simp only[Aeu h]
def ixB (o:Oper):Bool:=match o.op with
 |.indexAddr ..=>true
 |_=>false
def alB (ops:Array Oper)(t:Nat):Bool:=ops.toList.all fun o=>!wrB t o||(Eq o.op&&o.guard.isNone)
def Ahj (ops:Array Oper)(s:S)(t:Nat):Bool:=ops.toList.all fun o=>!wrB t o||ixB o||faB ops s o
theorem Acs {ops:Array Oper}(h:∀ t,Nx ops t=true->s'.tm t=s.tm t)(t:Nat):Ahj ops s' t=Ahj ops s t:=by
 unfold Ahj;simp only[V0 h]
structure Gc (ops:Array Oper)(s s':S):Prop where
 eq:∀ t,Nx ops t=true->s'.tm t=s.tm t
 pt:∀ t,Vw ops s t=true->isV (s.tm t)=false->isV (s'.tm t)=false
 nw:∀ t,alB ops t=true->isV (s.tm t)=false->isV (s'.tm t)=false
 ol:∀ t k off,Ahj ops s t=true->s'.tm t=.p k off->s.tm t=.p k off\/∃ b off',Nx ops b=true/\s.tm b=.p k off'
 fr:∀ t k off,alB ops t=true->s'.tm t=.p k off->s.tm t=.p k off\/s.hp k=none
 hm:∀ k,s.hp k≠none->s'.hp k≠none
theorem Gc.refl (ops:Array Oper)(s:S):Gc ops s s:=⟨fun _ _=>rfl,fun _ _ h=>h,fun _ _ h=>h,fun _ _ _ _ h=>.inl h,fun _ _ _ _ h=>.inl h,fun _ h=>h⟩
theorem Gc.trans {ops:Array Oper}{s s' s'':S}(h:Gc ops s s')(h':Gc ops s' s''):Gc ops s s'' :=
 ⟨fun t ht=>(h'.eq t ht).trans (h.eq t ht),fun t ht hv=>h'.pt t (by rw[K4 h.eq];exact ht) (h.pt t ht hv),fun t ht hv=>h'.nw t ht (h.nw t ht hv),
  fun t k off ht hp=>by
   rcases h'.ol t k off (by rw[Acs h.eq];exact ht) hp with e|⟨b,o2,e1,e2⟩
   ·exact h.ol t k off ht e
   ·exact .inr ⟨b,o2,e1,by rw[<-h.eq b e1];exact e2⟩,
  fun t k off ht hp=>by
   rcases h'.fr t k off ht hp with e|e
   ·exact h.fr t k off ht e
   ·refine .inr (Classical.byContradiction fun hn=>h.hm k hn e),fun k hk=>h'.hm k (h.hm k hk)⟩
structure Fit (ops:Array Oper)(s:S)(o:Oper)(x:SV):Prop where
 fa:faB ops s o=true->isV x=false
 al:Eq o.op=true->o.guard.isNone=true->isV x=false
 ol:ixB o=true\/faB ops s o=true->∀ k off,x=.p k off->∃ b off',Nx ops b=true/\s.tm b=.p k off'
 fr:Eq o.op=true->∀ k off,x=.p k off->s.hp k=none
theorem Y3 {ops:Array Oper}(ho:ops[i]?=some o):o∈ops.toList:=by grind
theorem Fh (ho:ops[i]?=some o)(x:SV)(hw:Option (Nat×Blk))(hx:Fit ops s o x):Gc ops s ((s.put o.dst x).setb hw):=by
 have wr:∀ {t:Nat} {q:Oper->Bool},(ops.toList.all fun o=>!wrB t o||q o)=true->o.dst=some t->q o=true:=fun {t q} ht hd=>by
  rw[Atx]at ht;have:=ht o (Y3 ho);have hwr:wrB t o=true:=by unfold wrB;rw[hd];simp
  rw[hwr]at this;simpa using this
 refine⟨fun t ht=>?_,fun t ht hv=>?_,fun t ht hv=>?_,fun t k off ht hp=>?_,fun t k off ht hp=>?_,fun k hk=>?_⟩
 ·rw[Es,Fd];intro hd;unfold Nx at ht;rw[Atx]at ht;have:=ht o (Y3 ho);rw[hd]at this;simp at this
 ·rw[Es];by_cases hd:o.dst=some t
  ·rw[hd,B7];unfold Vw at ht;rw[Atj]at ht;exact hx.fa (wr ht.2 hd)
  ·rw[Fd s _ _ hd];exact hv
 ·rw[Es];by_cases hd:o.dst=some t
  ·rw[hd,B7];have:=wr ht hd;rw[Atj]at this;exact hx.al this.1 this.2
  ·rw[Fd s _ _ hd];exact hv
 ·rw[Es]at hp;by_cases hd:o.dst=some t
  ·rw[hd,B7]at hp;have ht':(ops.toList.all fun o=>!wrB t o||(ixB o||faB ops s o))=true:=by unfold Ahj at ht;simpa only[Bool.or_assoc] using ht
   have:=wr ht' hd;rw[Av7]at this;exact .inr (hx.ol this k off hp)
  ·rw[Fd s _ _ hd]at hp;exact .inl hp
 ·rw[Es]at hp;by_cases hd:o.dst=some t
  ·rw[hd,B7]at hp;have:=wr ht hd;rw[Atj]at this;exact .inr (hx.fr this.1 k off hp)
  ·rw[Fd s _ _ hd]at hp;exact .inl hp
 ·rcases hw with _|⟨j,b⟩
  ·show (s.put o.dst x).hp k≠none;rw[C4];exact hk
  ·by_cases e:k=j
   ·subst e;rw[Bf];simp
   ·rw[A6 _ _ _ e,C4];exact hk
theorem Yb (h:faB ops s o=true):o.guard=none/\∃ T b f,o.op=.fieldAddr T (.tmp b) f/\isP (s.tm b)=true:=by
 unfold faB at h;rw[Atj]at h;obtain⟨h1,h2⟩:=h;refine⟨by simpa using h1,?_⟩;split at h2
 ·grind
 ·cases h2
theorem Aoo (he:eff P name s o.op=some (x,hw))(h:faB ops s o=true):isV x=false:=by
 obtain⟨_,T,b,f,hop,hp⟩:=Yb h;rw[hop]at he;unfold eff at he;simp only[show s.ev (.tmp b)=s.tm b from rfl]at he;cases hb:s.tm b with
 |junk=>grind
 |v y=>grind
 |p k off =>
  rw[hb]at he;simp only at he;split at he
  ·simp only[Atd,Aun]at he;rw[<-he.1];rfl
  ·cases he
theorem Apg (hg:gv s ops o=some false)(h:faB ops s o=true):False:=by
 obtain⟨h1,_⟩:=Yb h;unfold gv at hg;rw[h1]at hg;simp at hg
theorem Ao1 (hv:Lm s o.op=true)(h:faB ops s o=true):False:=by
 obtain⟨_,T,b,f,hop,hp⟩:=Yb h;unfold Lm at hv;rw[Atx]at hv;have:=hv (.tmp b) (by rw[hop];simp[Op.operands]);rw[show s.ev (.tmp b)=s.tm b from rfl]at this;cases hb:s.tm b with
 |junk=>rw[hb]at hp;cases hp
 |v y=>rw[hb]at hp;cases hp
 |p k off=>rw[hb]at this;cases this
theorem Amc {o:Op}(he:eff P name s o=some (x,hw))(ha:Eq o=true):x=.p name 0/\s.hp name=none:=by
 unfold Eq at ha;split at ha
 ·unfold eff at he;simp only at he;split at he
  ·grind
  ·cases he
 ·unfold eff at he;simp only at he;split at he
  ·grind
  ·cases he
 ·cases ha
theorem Fit.auto (he:eff P name s o.op=some (x,hw)):Fit ops s o x:=by
 refine⟨Aoo he,fun ha _=>by rw[(Amc he ha).1];rfl,fun h k off hx=>?_,fun ha k off hx=>?_⟩
 ·rcases h with h|h
  ·unfold ixB at h;split at h
   ·rename_i t a b hop;rw[hop]at he;unfold eff at he;simp only at he;split at he
    ·grind
    ·cases he
   ·cases h
  ·unfold faB at h;rw[Atj]at h;obtain⟨_,h⟩:=h;split at h
   ·rename_i T b f hop;rw[hop]at he;unfold eff at he;simp only[show s.ev (.tmp b)=s.tm b from rfl]at he;cases hb:s.tm b with
    |junk=>grind
    |v y=>grind
    |p k' off'=>grind
   ·cases h
 ·obtain⟨e1,e2⟩:=Amc he ha;rw[e1]at hx;cases hx;exact e2
theorem Fit.skip (hg:gv s ops o=some false):Fit ops s o (.v undef) :=
 ⟨fun h=>(Apg hg h).elim,fun _ h=>by
  unfold gv at hg;rw[show o.guard=none by simpa using h]at hg;simp at hg,fun _ k off e=>(by cases e),fun _ k off e=>(by cases e)⟩
theorem Fit.val (hv:Lm s o.op=true)(ha:Eq o.op=false)(y:Value):Fit ops s o (.v y) :=
 ⟨fun h=>(Ao1 hv h).elim,fun h=>(by rw[ha]at h;cases h),fun _ k off e=>(by cases e),fun _ k off e=>(by cases e)⟩
theorem Agi {o:Op}(h:En o=false):Eq o=false:=by
 cases o<;>first|rfl|(simp[En]at h)
theorem Ob.step {l:List Nat}(h:Ob P id ops dr Fin (i::l) s u m)(hr:Rel c s u m ρ a w) :
 wpOp P ops Q i (fun a' w'=>∃ s' u' m' ρ',Rel c s' u' m' ρ' a' w'/\Gc ops s s'/\Ob P id ops dr Fin l s' u' m') a w:=by
 cases h with
 |auto ho hg hd he hl =>
  simp only[wpOp,ho,Mn hr hg];obtain⟨ρ',w',y,h1,h2⟩:=Ahe (P:=P) hr he (Ya hd);exact .inl (Wv h1 ⟨_,_,_,_,h2,Fh ho _ _ (Fit.auto he),hl⟩)
 |skip ho hg hd hl =>
  simp only[wpOp,ho,Mn hr hg];exact⟨_,_,_,_,hr.put (x:=.v undef) (fun _=>rfl) mV (Ya hd),Fh ho _ none (Fit.skip hg),hl⟩
 |ask ho hg hd hv hs hal hw hl =>
  simp only[wpOp,ho,Mn hr hg];refine .inl (Wv (.inl ?_) ⟨_,_,_,_,hr.put (fun _=>rfl) mV (Ya hd),Fh ho _ none (Fit.val hv hal _),hl⟩);rw[Od hr (Jh hs) hv];exact hw w (fun _=>⟨hr.gd.pu,fun _=>hr.gd.pm⟩)
 |big ho hg hd hv hs hf hk hw hl =>
  rename_i o K;simp only[wpOp,ho,Mn hr hg];refine .inl ?_;have h1:=hw w hr.gd;have fin:∀ v w',(∃ u' m',B1 u' m' w'/\B8 u m w u' m' w'/\K v u' m')->∃ s' u' m' ρ',Rel c s' u' m' ρ' (a.put o.dst v) w'/\Gc ops s s'/\Ob P id ops dr Fin l s' u' m':=by
   rintro v w' ⟨u',m',g1,g2,g3⟩;refine⟨_,u',m',ρ,?_,Fh ho _ none (Fit.val hv (Agi hf) _),hl v u' m' (g2.le hr.gd.pu) g3⟩;refine Rel.put (x:=.v v) ?_ (fun _=>rfl) mV (Ya hd);refine⟨hr.sz,hr.tm,hr.df.of fun r e _ hu hm=>⟨by rw[g2.old _ (B0 e) hm];exact e,by rw[g2.us _ (B0 e)];exact hu,g2.ms _ (B0 e) hm⟩,fun k b hb=>?_,hr.inj,hr.lv,g1,hr.gr.trans g2⟩;obtain⟨e1,e2,e3,e4⟩:=hr.box k b hb;have hlt:ρ k<w.heap.size:=by obtain⟨cs,e,_⟩:=e1;exact B0 e
   refine⟨?_,e2,?_,?_⟩
   ·rw[g2.old _ hlt e4];exact e1
   ·rw[g2.us _ hlt];exact e3
   ·exact g2.ms _ hlt e4
  unfold E3 at h1;unfold Oper.wp;rw[Od hr (Jh hs) hv];split at h1
  ·rename_i v w' e;rw[e];exact fin _ _ h1
  ·rename_i w' e;rw[e];exact fin _ _ h1
  ·rename_i f args w' e;rw[e];refine Calls.mono h1 fun e' w'' he=>?_;obtain⟨v,rfl,h2⟩:=he;exact fin _ _ h2
  ·grind
theorem Ob.wpOps (hF:∀ s u m ρ a w,Fin s u m->Rel c s u m ρ a w->Q .normal a w):∀ {l:List Nat} {s:S} {u m:PH} {ρ:Nat->Nat} {a:Act} {w:World},Ob P id ops dr Fin l s u m->Rel c s u m ρ a w->Go.wpOps P ops Q l a w
 |[],s,u,m,ρ,a,w,h,hr=>by
  cases h with
  |nil h=>exact hF _ _ _ _ _ _ h hr
 |i::l,s,u,m,ρ,a,w,h,hr=>by
  rw[wpOps_cons];refine wpOp_mono (fun a' w' ⟨s',u',m',ρ',h1,_,h2⟩=>?_) (h.step (Q:=Q) hr);exact Ob.wpOps hF h2 h1
theorem Arq (h:∀ e,d=some e->z≠.tmp e):(s.put d x).ev z=s.ev z:=by
 cases z with
 |tmp t=>exact Fd s d x (fun e=>h t e rfl)
 |_=>rfl
theorem An5 {w:Option (Nat×Blk)}:(s.setb w).ev z=s.ev z:=by
 cases z with
 |tmp t=>show (s.setb w).tm t=s.tm t;rw[Es]
 |_=>rfl
theorem U0 {w:Option (Nat×Blk)}(h:∀ e,d=some e->e∉o.looksAt ops)(hz:z∈o.op.operands):((s.put d x).setb w).ev z=s.ev z:=by
 rw[An5];refine Arq fun e he hze=>h e he ?_;subst hze;exact List.mem_append_left _ (List.mem_filterMap.2 ⟨.tmp e,by simpa using hz,rfl⟩)
theorem Vj {w:Option (Nat×Blk)}(h:∀ e,d=some e->e∉o.looksAt ops):gv ((s.put d x).setb w) ops o=gv s ops o:=by
 unfold gv;cases hg:o.guard with
 |none=>rfl
 |some p =>
  obtain⟨j,want⟩:=p;simp only;cases hj:ops[j]? with
  |none=>rfl
  |some oj =>
   simp only;cases hd:oj.dst with
   |none=>rfl
   |some e =>
    simp only;rw[Es,Fd s d x (fun he=>h e he (by simp[Oper.looksAt,hg,hj,hd]))]
theorem I4 {o:Op}(h:∀ z∈o.operands,s'.ev z=s.ev z):∀ z∈o.operands,Lb s' z=Lb s z:=fun z hz=>by unfold Lb;rw[h z hz]
theorem Gk {o:Op}(h:∀ z∈o.operands,s'.ev z=s.ev z):Lm s' o=Lm s o:=by
 unfold Lm;rw[Bool.eq_iff_iff,Atx,Atx];constructor
 ·grind
 ·grind
theorem Ajt {e e':Operand->Value}{o:Op}(h:∀ z∈o.operands,e' z=e z):pv P e' o=pv P e o:=by
 unfold pv;split
 ·rename_i x i;rw[h x (by simp[Op.operands])]
 ·rename_i c x y;rw[h c (by simp[Op.operands]),h x (by simp[Op.operands]),h y (by simp[Op.operands])]
 ·rename_i fn first captured
  rw[A1t (xs:=first) fun x hx=>h x (by simp[Op.operands,hx]),A1t (xs:=captured) fun x hx=>h x (by simp[Op.operands,hx])]
 ·rename_i t x;rw[h x (by simp[Op.operands])]
 ·rename_i src dst x;rw[h x (by simp[Op.operands])]
 ·rename_i args ts;cases hx:args[0]? with
  |none=>rfl
  |some x =>
   have:x∈args:=by grind
   cases ht:ts[0]? with
   |none=>rfl
   |some t=>simp only;rw[h x (by simp[Op.operands,Call.operands,this])]
 ·rename_i x;rw[h x (by simp[Op.operands])]
 ·rename_i t ps;have:(ps.toList.map fun (p:Nat×Operand)=>(p.1,e' p.2))=ps.toList.map fun (p:Nat×Operand)=>(p.1,e p.2):=List.map_congr_left fun p hp=>by
   rw[h p.2 (by simp only[Op.operands,A0y,List.mem_map];exact⟨p,hp,rfl⟩)]
  rw[this]
 ·rename_i t x f;rw[h x (by simp[Op.operands])]
 ·rfl
theorem Wa {s s':S}{name:Nat}{o:Op}(h:∀ z∈o.operands,s'.ev z=s.ev z)(hn:Eq o=true->s'.hp name=s.hp name)
 (hp:(Gq o=true\/Ld o=true)->∀ z∈o.operands,∀ k off,s.ev z=.p k off->s'.hp k=s.hp k):eff P name s' o=eff P name s o:=by
 unfold eff;split
 ·rename_i x;rw[h x (by simp[Op.operands])]
 ·rename_i x;rw[h x (by simp[Op.operands])]
 ·rw[hn rfl]
 ·rename_i t x;rw[hn rfl,h x (by simp[Op.operands])]
 ·rename_i t x;rw[h x (by simp[Op.operands])];split
  ·rename_i k off hk;rw[hp (.inl rfl) x (by simp[Op.operands]) k off hk]
  ·rfl
 ·rename_i t x y;rw[h x (by simp[Op.operands]),h y (by simp[Op.operands])];split
  ·rename_i k off hk;rw[hp (.inr rfl) x (by simp[Op.operands]) k off hk]
  ·rfl
 ·rename_i t x f;rw[h x (by simp[Op.operands])]
 ·rw[Gk h,Ajt (I4 h)]
end sound
end
section
variable {hw:Option (Nat×Blk)}{name:Nat}{o:Op}{s:S}{x:SV}
variable [Ca] [Df] [Pu]
section swap
variable {P:Program} {id:Nat} {ops:Array Oper} {dr:Bool} {Fin:S->PH->PH->Prop}
theorem Ol {k:Nat}{b:Blk}(h:eff P name s o=some (x,some (k,b))) :
 (k=name/\s.hp name=none/\Ld o=false/\Gq o=false)\/(Ld o=true/\s.hp k≠none/\∃ z∈o.operands,∃ off,s.ev z=.p k off):=by
 unfold eff at h;split at h
 ·grind
 ·grind
 ·split at h
  ·split at h
   ·split at h
    ·split at h
     ·simp at h;exact .inl ⟨h.2.1.symm,by assumption,rfl,rfl⟩
     ·cases h
    ·cases h
   ·cases h
  ·cases h
 ·split at h
  ·split at h
   ·simp at h;exact .inl ⟨h.2.1.symm,by assumption,rfl,rfl⟩
   ·cases h
  ·cases h
 ·grind
 ·rename_i t z y;split at h
  ·rename_i k' off hz;split at h
   ·rename_i b' hb;split at h
    ·split at h
     ·rename_i l _ _ n _;cases hc:(Auy l.length n&&Ayb (off+n) b'.cells.length) with
      |false=>grind
      |true =>
       simp[hc]at h;obtain⟨_,rfl,_⟩:=h;exact .inr ⟨rfl,by rw[hb];simp,z,by simp[Op.operands],off,hz⟩
     ·cases h
    ·cases h
   ·cases h
  ·cases h
 ·grind
 ·grind
theorem Ah7 (h:eff P name s o=some (x,hw))(ha:Eq o=true):hw≠none:=by
 unfold eff at h;unfold Eq at ha;split at ha
 ·grind
 ·grind
 ·cases ha
theorem Pf (h:En o=true):Ld o=false:=by
 unfold Ld;split
 ·simp[En]at h
 ·simp[En]at h
 ·simp[En]at h
 ·rfl
theorem Ob.redo {x:Nat}{l:List Nat}{u m:PH}{ox:Oper}(h:Ob P id ops true Fin (x::l) s u m)(hx:ops[x]?=some ox)(hf:En ox.op=true) :
 ∃ vx hwx,Ob P id ops true Fin l ((s.put ox.dst vx).setb hwx) u m/\(∀ k b,hwx=some (k,b)->k=id*1000+x/\s.hp k=none/\Gq ox.op=false) /\
  ∀ (s':S) (u' m':PH) (L:List Nat),(∀ z∈ox.op.operands,s'.ev z=s.ev z)->gv s' ops ox=gv s ops ox->s'.n=s.n->(hwx≠none->s'.hp (id*1000+x)=s.hp (id*1000+x)) ->
   (Gq ox.op=true->∀ z∈ox.op.operands,∀ k off,s.ev z=.p k off->s'.hp k=s.hp k)->PH.le u u'->(Gq ox.op=true->PH.le m m'\/Pu.b=true\/∃ t tx,ox.op=.load t (.tmp tx)/\isV (s.tm tx)=false) ->
   Ob P id ops true Fin L ((s'.put ox.dst vx).setb hwx) u' m'->Ob P id ops true Fin (x::L) s' u' m':=by
 have dk:∀ (s':S),s'.n=s.n->Gh s ox=true->Gh s' ox=true:=fun s' hn hd=>by unfold Gh at hd⊢;rw[hn];exact hd
 cases h with
 |auto ho hg hd he hl =>
  rw[hx]at ho;obtain rfl:=Auq ho;refine⟨_,_,hl,fun k b hb=>?_,fun s' u' m' L h1 h2 h3 h4 h5 _ _ hL=>?_⟩
  ·subst hb;rcases Ol he with ⟨rfl,e,_,e'⟩|⟨e,_⟩
   ·grind
   ·rw[Pf hf]at e;cases e
  ·refine .auto hx (h2.trans hg) (dk s' h3 hd) ?_ hL;rw[Wa h1 (fun ha=>h4 (Ah7 he ha)) (fun hm=>?_),he];rcases hm with hm|hm
   ·grind
   ·rw[Pf hf]at hm;cases hm
 |skip ho hg hd hl =>
  rw[hx]at ho;obtain rfl:=Auq ho;refine⟨.v undef,none,hl,mV,fun s' u' m' L h1 h2 h3 h4 h5 _ _ hL=>.skip hx (h2.trans hg) (dk s' h3 hd) hL⟩
 |ask ho hg hd hv hs hal hw hl =>
  rw[hx]at ho;obtain rfl:=Auq ho;rename_i v;refine⟨.v v,none,hl,mV,fun s' u' m' L h1 h2 h3 h4 h5 h6 h7 hL=>.ask hx (h2.trans hg) (dk s' h3 hd) (by rw[Gk h1];exact hv) hs hal (fun w hp=>?_) hL⟩;rw[execOp_congr _ (Jh hs) (I4 h1)];refine hw w fun hload=>⟨fun g o hg=>(hp hload).1 g o (h6 g o hg),fun hpu g o hg=>?_⟩;rcases h7 (hload.resolve_right fV) with h7|h7|⟨t,tx,e1,e2⟩
  ·exact (hp hload).2 hpu g o (h7 g o hg)
  ·rcases hpu with hpu|hpu
   ·rw[h7]at hpu;cases hpu
   ·cases hpu
  ·unfold Lm at hv;rw[Atx]at hv;have:=hv (.tmp tx) (by rw[e1];simp[Op.operands]);rw[show s.ev (.tmp tx)=s.tm tx from rfl,e2]at this;cases this
 |big ho hg hd hv hs hf' hk hw hl=>grind
def Two (s:S)(ox oy:Oper):Prop:=∃ t tx t' ty v kx ox' ky oy',ox.op=.load t (.tmp tx)/\oy.op=.store t' (.tmp ty) v/\s.tm tx=.p kx ox'/\s.tm ty=.p ky oy'/\kx≠ky
def New (s:S)(ox oy:Oper):Prop:=∃ t tx t' ty v,ox.op=.load t (.tmp tx)/\oy.op=.store t' (.tmp ty) v/\isV (s.tm ty)=false/\∀ k off k' off',s.tm tx=.p k off->s.tm ty=.p k' off'->k≠k'
def Afn:Op->Bool
 |.call { callee:=.builtin .append,.. }|.call { callee:=.builtin .copy,.. }=>true
 |_=>false
def Own (s:S)(ox oy:Oper):Prop:=Afn oy.op=true/\∃ t tx,ox.op=.load t (.tmp tx)/\isV (s.tm tx)=false
theorem Ape (he:eff P name s o=some (x,hw))(h:Afn o=true):hw=none:=by
 unfold Afn at h;split at h
 ·unfold eff at he;simp only at he;split at he
  ·grind
  ·cases he
 ·unfold eff at he;simp only at he;split at he
  ·grind
  ·cases he
 ·cases h
theorem Ob.swap {x y:Nat}{l:List Nat}{s:S}{u m:PH}{ox oy:Oper}(hL:M2 s)(h:Ob P id ops true Fin (x::y::l) s u m)(hx:ops[x]?=some ox)(hy:ops[y]?=some oy)(hne:x≠y)
 (hf:En ox.op=true) (hap:Oper.apart ops ox oy=true) (hlm:Gq ox.op=true->Nb ops y oy.op=false\/Own s ox oy\/Two s ox oy\/New s ox oy) (hcalm:∀ t tx,ox.op=.load t (.tmp tx)->Vw ops s tx=true->isV (s.tm tx)=false):Ob P id ops true Fin (y::x::l) s u m:=by
 obtain⟨vx,hwx,h1,hn,redo⟩:=h.redo hx hf;obtain⟨a1,a2,a3⟩:=Oper.apart_spec hap;have hnm:id*1000+x≠id*1000+y:=oV
 have evy:∀ z∈oy.op.operands,((s.put ox.dst vx).setb hwx).ev z=s.ev z:=fun z hz=>U0 a1 hz;have gvy:gv ((s.put ox.dst vx).setb hwx) ops oy=gv s ops oy:=Vj a1;have lvx:∀ z:Operand,∀ k off,s.ev z=.p k off->s.hp k≠none:=by
  intro z k off hz;cases z with
  |tmp t=>exact hL.1 t k off hz
  |const v=>cases hz
  |global g=>cases hz
  |func f=>cases hz
 have hpx:∀ k,(∀ b,hwx≠some (k,b))->((s.put ox.dst vx).setb hwx).hp k=s.hp k:=by
  intro k hk;rcases hwx with _|⟨j,b⟩
  ·show (s.put ox.dst vx).hp k=s.hp k;rw[C4]
  ·rw[A6 _ _ _ (fun e=>hk b (by rw[e])),C4]
 have nmx:∀ k,s.hp k≠none->∀ b,hwx≠some (k,b):=fun k hk b e=>hk (hn k b e).2.1;have dky:Gh ((s.put ox.dst vx).setb hwx) oy=Gh s oy:=by unfold Gh;rw[Qa,V8]
 have comm:∀ (vy:SV) (hwy:Option (Nat×Blk)),(∀ k b,hwy=some (k,b)->∀ b',hwx≠some (k,b')) ->
  ((((s.put ox.dst vx).setb hwx).put oy.dst vy).setb hwy)=(((s.put oy.dst vy).setb hwy).put ox.dst vx).setb hwx:=by
  intro vy hwy hk;rw[Pk,Pk,Al0 s vx vy a2,Ag2];rintro k b k' b' e1 e2 rfl;exact hk k b' e2 b e1
 cases h1 with
 |auto ho hg hd he hl =>
  rw[hy]at ho;obtain rfl:=Auq ho;rename_i vy hwy;have he':eff P (id*1000+y) s oy.op=some (vy,hwy):=by
   rw[<-he];refine (Wa evy (fun _=>hpx _ (fun b e=>hnm.symm ((hn _ b e).1))) (fun _ z hz k off hk=>hpx k (nmx k (lvx z k off hk)))).symm
  have hdisj:∀ k b,hwy=some (k,b)->∀ b',hwx≠some (k,b'):=by
   intro k b e b' e';subst e;rcases Ol he' with ⟨rfl,_⟩|⟨_,hk,_⟩
   ·exact hnm.symm (hn _ b' e').1
   ·exact hk (hn k b' e').2.1
  refine .auto hy (by rw[<-gvy];exact hg) (by rw[<-dky];exact hd) he' ?_;have hpy:∀ k,(∀ b,hwy≠some (k,b))->((s.put oy.dst vy).setb hwy).hp k=s.hp k:=by
   intro k hk;rcases hwy with _|⟨j,b⟩
   ·show (s.put oy.dst vy).hp k=s.hp k;rw[C4]
   ·rw[A6 _ _ _ (fun e=>hk b (by rw[e])),C4]
  refine redo _ u m l (fun z hz=>U0 a3 hz) (Vj a3) (by rw[Qa,V8]) ?_ ?_ (PH.le_refl _) (fun _=>.inl (PH.le_refl _)) ?_
  ·intro hsome;by_cases hk:∃ b,hwy=some (id*1000+x,b)
   ·obtain⟨b,hb⟩:=hk;subst hb;rcases Ol he' with ⟨e,_⟩|⟨em,hk,z,hz,off,hzk⟩
    ·exact absurd e hnm
    ·rcases hwx with _|⟨j,b'⟩
     ·exact absurd rfl hsome
     ·obtain⟨rfl,e,_⟩:=hn j b' rfl;exact absurd e hk
   ·exact hpy _ (fun b e=>hk ⟨b,e⟩)
  ·intro hlo z hz k off hk;refine hpy k (fun b e=>?_);subst e;rcases Ol he' with ⟨rfl,e,_⟩|⟨em,_⟩
   ·exact lvx z _ off hk e
   ·rcases hlm hlo with h|⟨q0,_⟩|⟨t,tx,t',ty,v,kx,o1,ky,o2,q1,q2,q3,q4,q5⟩|⟨t,tx,t',ty,v,q1,q2,q3,q4⟩
    ·rw[Ajs h]at em;cases em
    ·cases Ape he' q0
    case inr.inr.inr =>
     rw[q1]at hz;simp only[Op.operands,A0y,Aub]at hz;subst hz;rw[q2]at he';cases hty:s.tm ty with
     |junk=>simp only[eff,show s.ev (.tmp ty)=s.tm ty from rfl,hty]at he';cases he'
     |v y=>simp only[eff,show s.ev (.tmp ty)=s.tm ty from rfl,hty]at he';cases he'
     |p ky o2 =>
      have hne:=q4 k off ky o2 hk hty;simp only[eff,show s.ev (.tmp ty)=s.tm ty from rfl,hty]at he';split at he'
      ·split at he'
       ·split at he'
        ·rename_i n _
         revert he'
         cases (Auy _ _&&Ayb _ _) with
         |false=>simp
         |true=>simp;intro _ e _;exact absurd e.symm hne
        ·cases he'
       ·cases he'
      ·cases he'
    ·rw[q1]at hz;simp only[Op.operands,A0y,Aub]at hz;subst hz;have:SV.p k off=.p kx o1:=hk.symm.trans q3;simp only[SV.p.injEq]at this;rw[q2]at he';have q4':s.ev (.tmp ty)=.p ky o2:=q4;simp only[eff,q4']at he';split at he'
     ·split at he'
      ·split at he'
       ·rename_i n _
        revert he'
        cases (Auy _ _&&Ayb _ _) with
        |false=>simp
        |true=>simp;intro _ e _;exact absurd (this.1.symm.trans e.symm) q5
       ·cases he'
      ·cases he'
     ·cases he'
  ·rw[<-comm vy hwy hdisj];exact hl
 |skip ho hg hd hl =>
  rw[hy]at ho;obtain rfl:=Auq ho;refine .skip hy (by rw[<-gvy];exact hg) (by rw[<-dky];exact hd) ?_;refine redo _ u m l (fun z hz=>U0 (w:=none) a3 hz) (Vj (w:=none) a3) (by rw[V8]) (fun _=>by rw[C4]) (fun _ _ _ _ _ _=>by rw[C4]) (PH.le_refl _) (fun _=>.inl (PH.le_refl _)) ?_;have:=comm (.v undef) none mV;rw[show (s.put oy.dst (.v undef))=(s.put oy.dst (.v undef)).setb none from rfl,<-this];exact hl
 |ask ho hg hd hv hs hal hw hl =>
  rw[hy]at ho;obtain rfl:=Auq ho;rename_i v;refine .ask (v:=v) hy (by rw[<-gvy];exact hg) (by rw[<-dky];exact hd) (by rw[<-Gk evy];exact hv) hs hal (fun w hp=>?_) ?_
  ·rw[<-execOp_congr _ (Jh hs) (I4 evy)];exact hw w hp
  ·refine redo _ u m l (fun z hz=>U0 (w:=none) a3 hz) (Vj (w:=none) a3) (by rw[V8]) (fun _=>by rw[C4]) (fun _ _ _ _ _ _=>by rw[C4]) (PH.le_refl _) (fun _=>.inl (PH.le_refl _)) ?_;have:=comm (.v v) none mV;rw[show (s.put oy.dst (.v v))=(s.put oy.dst (.v v)).setb none from rfl,<-this];exact hl
 |big ho hg hd hv hs hf' hk hw hl =>
  rw[hy]at ho;obtain rfl:=Auq ho;rename_i K;have hown:Ja ops ((s.put ox.dst vx).setb hwx)=Ja ops s:=Xt fun t ht=>by
   rw[Es,Fd];intro hd';unfold Nx at ht;rw[Atx]at ht;have:=ht ox (Y3 hx);rw[hd']at this;simp at this
  refine .big (K:=K) hy (by rw[<-gvy];exact hg) (by rw[<-dky];exact hd) (by rw[<-Gk evy];exact hv) hs hf' (by rw[<-hown];exact hk) (fun w hgd=>?_) (fun v u' m' hle hK=>?_)
  ·have:=hw w hgd;unfold E3 at this⊢;rw[<-execOp_congr _ (Jh hs) (I4 evy)];exact this
  ·refine redo _ u' m' l (fun z hz=>U0 (w:=none) a3 hz) (Vj (w:=none) a3) (by rw[V8]) (fun _=>by rw[C4]) (fun _ _ _ _ _ _=>by rw[C4]) hle (fun hlo=>?_) ?_
   ·rcases hk v u' m' hK with h|h|h|h|h
    ·exact .inl h
    ·cases h
    ·rcases hlm hlo with h'|⟨_,q0⟩|⟨t,tx,t',ty,v,kx,o1,ky,o2,q1,q2,q3,q4,q5⟩|⟨t,tx,t',ty,v,q1,q2,q3,q4⟩
     ·rw[h']at h;cases h
     ·exact .inr (.inr q0)
     case inr.inr.inr =>
      exfalso;rw[Gk evy]at hv;unfold Lm at hv;rw[Atx]at hv;have:=hv (.tmp ty) (by rw[q2];simp[Op.operands]);rw[show s.ev (.tmp ty)=s.tm ty from rfl]at this;cases hty:s.tm ty with
      |junk=>rw[hty]at this;cases this
      |v y=>rw[hty]at q3;cases q3
      |p k off=>rw[hty]at this;cases this
     ·exfalso;rw[Gk evy]at hv;unfold Lm at hv;rw[Atx]at hv;have:=hv (.tmp ty) (by rw[q2];simp[Op.operands]);rw[show s.ev (.tmp ty)=.p ky o2 from q4]at this;cases this
    rotate_left
    ·exact .inr (.inl h)
    ·right;right;rw[hown]at h;unfold Ja at h;rw[Atx]at h;have h2:=h ox (Y3 hx);rw[hlo]at h2;simp only[Ayc,Azw]at h2;unfold Zx at h2;split at h2
     ·rename_i t tx hop;refine⟨t,tx,hop,?_⟩;rw[Av7,Atj]at h2;rcases h2 with ⟨_,h2⟩|h2
      ·cases hb:s.tm tx with
       |junk=>rfl
       |v y=>rw[hb]at h2;cases h2
       |p k off=>rfl
      ·grind
     ·cases h2
   ·have:=comm (.v v) none mV;rw[show (s.put oy.dst (.v v))=(s.put oy.dst (.v v)).setb none from rfl,<-this];exact hl v u' m' hle hK
end swap
end
section
variable {ox oy:Oper}{s s':S}{x:Nat}
variable [Ca] [Df] [Pu]
section live
variable {P:Program}
theorem Alr {name:Nat}{o:Op}{x:SV}{hw:Option (Nat×Blk)}(h:eff P name s o=some (x,hw))(hL:M2 s)(d:Option Nat):M2 ((s.put d x).setb hw):=by
 have lvev:∀ (z:Operand) (k off:Nat),s.ev z=.p k off->s.hp k≠none:=by
  intro z k off hz;cases z with
  |tmp t=>exact hL.1 t k off hz
  |const v=>cases hz
  |global g=>cases hz
  |func f=>cases hz
 have key:∀ (x:SV) (hw:Option (Nat×Blk)),(∀ k off,x=.p k off->s.hp k≠none\/∃ b,hw=some (k,b))->(∀ j b,hw=some (j,b)->∀ k off,SV.p k off∈b.cells->s.hp k≠none)->M2 ((s.put d x).setb hw):=by
  intro x hw h1 h2;have hp:∀ k,s.hp k≠none->((s.put d x).setb hw).hp k≠none:=by
   intro k hk;rcases hw with _|⟨j,b⟩
   ·show (s.put d x).hp k≠none;rw[C4];exact hk
   ·by_cases e:k=j
    ·rw[e,Bf];simp
    ·rw[A6 _ _ _ e,C4];exact hk
  refine⟨fun e k off he=>?_,fun j b k off hj hm=>?_⟩
  ·rw[Es]at he;by_cases hde:d=some e
   ·subst hde;rw[B7]at he;rcases h1 k off he with h|⟨b,rfl⟩
    ·exact hp k h
    ·rw[Bf];simp
   ·rw[Fd _ _ _ hde]at he;exact hp k (hL.1 e k off he)
  ·rcases hw with _|⟨i,b'⟩
   ·change (s.put d x).hp j=some b at hj;rw[C4]at hj;exact hp k (hL.2 j b k off hj hm)
   ·by_cases e:j=i
    ·subst e;rw[Bf]at hj;obtain rfl:=Auq hj;exact hp k (h2 j b' rfl k off hm)
    ·rw[A6 _ _ _ e,C4]at hj;exact hp k (hL.2 j b k off hj hm)
 unfold eff at h;split at h
 ·rename_i z;simp at h;obtain⟨rfl,rfl⟩:=h;exact key _ _ (fun k off e=>.inl (lvev z k off e)) mV
 ·rename_i z;simp at h;obtain⟨rfl,rfl⟩:=h;exact key _ _ (fun k off e=>.inl (lvev z k off e)) mV
 ·split at h
  ·split at h
   ·split at h
    ·split at h
     ·rename_i l hl;simp at h;obtain⟨rfl,rfl⟩:=h;obtain⟨_,_,_,e4,_⟩:=Ew hl (fun _=>0);exact key _ _ (fun k off e=>.inr (by simp at e;exact⟨_,by rw[e.1]⟩)) (fun j b e k off hm=>by simp at e;obtain⟨_,rfl⟩:=e;cases e4 k off hm)
     ·cases h
    ·cases h
   ·cases h
  ·cases h
 ·rename_i t z;split at h
  ·split at h
   ·rename_i l hl;simp at h;obtain⟨rfl,rfl⟩:=h;obtain⟨_,_,_,e4,_⟩:=Ew hl (fun _=>0);exact key _ _ (fun k off e=>.inr (by simp at e;exact⟨_,by rw[e.1]⟩)) (fun j b e k off hm=>by simp at e;obtain⟨_,rfl⟩:=e;exact lvev z k off (e4 k off hm))
   ·cases h
  ·cases h
 ·split at h
  ·split at h
   ·rename_i k off hz b hb;split at h
    ·rename_i y hy;simp at h;obtain⟨rfl,rfl⟩:=h;have hmem:∀ k' o',y=.p k' o'->SV.p k' o'∈b.cells:=by
      unfold ldv at hy;split at hy
      ·grind
      ·grind
      ·cases hy
     exact key _ _ (fun k' o' e=>.inl (hL.2 _ b k' o' hb (hmem k' o' e))) mV
    ·cases h
   ·cases h
  ·cases h
 ·split at h
  ·rename_i k' off hz;split at h
   ·rename_i b' hb;split at h
    ·rename_i l hl;split at h
     ·rename_i n _;cases hc:(Auy l.length n&&Ayb (off+n) b'.cells.length) with
      |false=>grind
      |true =>
       simp[hc]at h;obtain⟨rfl,rfl⟩:=h;obtain⟨_,_,_,e4,_⟩:=Ew hl (fun _=>0);refine key _ _ mV (fun j b e k off hm=>?_);obtain⟨rfl,rfl⟩:=e;rcases Vf hm with hm|hm
       ·exact hL.2 k' b' k off hb hm
       ·grind
     ·cases h
    ·cases h
   ·cases h
  ·cases h
 ·grind
 ·grind
theorem Ui (hL:M2 s)(d:Option Nat)(v:Value):M2 (s.put d (.v v)):=by
 refine⟨fun e k off he=>?_,fun j b k off hj hm=>?_⟩
 ·rw[C4];by_cases hde:d=some e
  ·subst hde;rw[B7]at he;cases he
  ·rw[Fd _ _ _ hde]at he;exact hL.1 e k off he
 ·rw[C4]at hj⊢;exact hL.2 j b k off hj hm
end live
section drawn
variable {P:Program} {id:Nat} {ops:Array Oper} {Fin:S->PH->PH->Prop} {c:Cx} {Q:Exit->Act->World->Prop}
theorem Ob.mapTail {dr:Bool}{L L':List Nat}{u m:PH}(hL:M2 s)(h:Ob P id ops dr Fin (x::L) s u m)(f:∀ s' u m,M2 s'->Gc ops s s'->Ob P id ops dr Fin L s' u m->Ob P id ops dr Fin L' s' u m):Ob P id ops dr Fin (x::L') s u m:=by
 cases h with
 |auto ho hg hd he hl=>exact .auto ho hg hd he (f _ _ _ (Alr he hL _) (Fh ho _ _ (Fit.auto he)) hl)
 |skip ho hg hd hl=>exact .skip ho hg hd (f _ _ _ (Ui hL _ _) (Fh ho _ none (Fit.skip hg)) hl)
 |ask ho hg hd hv hs hal hw hl=>exact .ask ho hg hd hv hs hal hw (f _ _ _ (Ui hL _ _) (Fh ho _ none (Fit.val hv hal _)) hl)
 |big ho hg hd hv hs hf hk hw hl=>exact .big ho hg hd hv hs hf hk hw (fun v u' m' h1 h2=>f _ _ _ (Ui hL _ _) (Fh ho _ none (Fit.val hv (Agi hf) _)) (hl v u' m' h1 h2))
def Art (ops:Array Oper)(s:S)(ox oy:Oper):Bool :=
 match ox.op with
 |.load _ (.tmp tx)=>match oy.op with
  |.store _ (.tmp ty) _=>Nx ops tx&&Nx ops ty&&(match s.tm tx with
   |.p kx _=>match s.tm ty with|.p ky _=>!Auy kx ky|_=>false
   |_=>false)
  |_=>false
 |_=>false
theorem Aqr {ops:Array Oper}(h:Art ops s ox oy=true)(ha:Gc ops s s'):Two s' ox oy:=by
 unfold Art at h;split at h
 ·rename_i t tx e1;split at h
  ·rename_i t' ty v e2;simp only[Atj]at h;obtain⟨⟨h1,h2⟩,h3⟩:=h;split at h3
   ·rename_i kx o1 e3;split at h3
    ·rename_i ky o2 e4;refine⟨t,tx,t',ty,v,kx,o1,ky,o2,e1,e2,by rw[ha.eq tx h1];exact e3,by rw[ha.eq ty h2];exact e4,fun e=>?_⟩;rw[e]at h3;simp at h3
    ·cases h3
   ·cases h3
  ·cases h
 ·cases h
def Aqd (ops:Array Oper)(s:S)(ox oy:Oper):Bool :=
 match ox.op with
 |.load _ (.tmp tx)=>match oy.op with
  |.store _ (.tmp ty) _=>Ahj ops s tx&&alB ops ty&&(match s.tm ty with|.junk=>true|_=>false)
  |_=>false
 |_=>false
theorem Aqp {ops:Array Oper}(h:Aqd ops s ox oy=true)(ha:Gc ops s s')(hL:M2 s):New s' ox oy:=by
 unfold Aqd at h;split at h
 ·rename_i t tx e1;split at h
  ·rename_i t' ty v e2;simp only[Atj]at h;obtain⟨⟨h1,h2⟩,h3⟩:=h;have h4:s.tm ty=.junk:=by grind
   refine⟨t,tx,t',ty,v,e1,e2,ha.nw ty h2 (by rw[h4];rfl),fun k off k' off' q1 q2 e=>?_⟩;subst e;have o1:s.hp k≠none:=by
    rcases ha.ol tx k off h1 q1 with q|⟨b,o2,_,q⟩
    ·exact hL.1 _ _ _ q
    ·exact hL.1 _ _ _ q
   rcases ha.fr ty k off' h2 q2 with q|q
   ·grind
   ·grind
  ·cases h
 ·cases h
theorem Aqi {ops:Array Oper}(h:Zx ops s ox=true)(ha:Gc ops s s')(hc:∀ t tx,ox.op=.load t (.tmp tx)->Vw ops s' tx=true->isV (s'.tm tx)=false):∃ t tx,ox.op=.load t (.tmp tx)/\isV (s'.tm tx)=false:=by
 unfold Zx at h;split at h
 ·rename_i t tx hop;refine⟨t,tx,hop,?_⟩;rw[Av7,Atj]at h;rcases h with ⟨h1,h2⟩|h
  ·rw[ha.eq tx h1];cases hb:s.tm tx with
   |junk=>rfl
   |v y=>rw[hb]at h2;cases h2
   |p k off=>rfl
  ·exact hc t tx hop (by rw[K4 ha.eq];exact h)
 ·cases h
def Apt (ops:Array Oper)(s:S)(o:Oper):Bool:=match o.op with
 |.load _ (.tmp t)=>!(isV (s.tm t)&&Vw ops s t)
 |_=>true
def Abl (ops:Array Oper)(s:S)(x y:Nat):Bool :=
 match ops[x]? with
 |some ox=>match ops[y]? with
  |some oy=>En ox.op&&Oper.apart ops ox oy&&(!(Gq ox.op&&Nb ops y oy.op)||Art ops s ox oy||Aqd ops s ox oy||(Zx ops s ox&&Afn oy.op)) && !Auy x y&&Apt ops s ox
  |none=>false
 |none=>false
def dir (ops:Array Oper)(i x:Nat):Bool:=match ops[i]? with
 |some o=>o.after.toList.any fun e=>Region.binds .any e&&Auy e.on x
 |none=>false
def Hg (ops:Array Oper)(s:S)(x y:Nat):Bool:=!(dir ops x y) && !(Auy x y)&&(dir ops y x||Abl ops s x y||bef ops ops.size y x)
def Qk (ops:Array Oper)(s:S):List Nat->Bool
 |[]=>true
 |x::l=>l.all (Hg ops s x)&&Qk ops s l
def Kj (ops:Array Oper)(i:Nat):Bool:=match ops[i]? with
 |some o=>o.after.toList.all fun e=>!Region.binds .any e||(A29 e.on ops.size && !Auy e.on i)
 |none=>false
def Ajh (ops:Array Oper)(s:S)(T:List Nat):Bool :=
 Auy T.length ops.size&&(At3 ops.size).all (fun i=>T.contains i)&&T.all (fun i=>A29 i ops.size)&&Qk ops s T&&(At3 ops.size).all (Kj ops)
theorem G4 {ops:Array Oper}{s:S}:∀ {T:List Nat},Qk ops s T=true->T.Pairwise (fun x y=>Hg ops s x y=true)
 |[],_=>List.Pairwise.nil
 |x::l,h=>by
  simp only[Qk,Atj,Atx]at h;exact List.Pairwise.cons h.1 (G4 h.2)
def Acn (ops:Array Oper)(listed:Array Bool):Prop:=∀ i,listed.getD i false=true->∀ o,ops[i]?=some o->∀ e∈o.after,Region.binds .any e=true->listed.getD e.on false=true
theorem Kq {listed:Array Bool}(hc:Acn ops listed){x:Nat}:∀ (f i:Nat),(∀ o,ops[i]?=some o->∀ e∈o.after,Region.binds .any e=true->listed.getD e.on false=true)->bef ops f i x=true->listed.getD x false=true
 |0,i,_,h=>by simp[bef]at h
 |f+1,i,hi,h=>by
  unfold bef at h;cases ho:ops[i]? with
  |none=>simp[ho]at h
  |some o =>
   simp only[ho,Ax1,Atj,Av7]at h;obtain⟨e,he,hb,h⟩:=h;have hl:=hi o ho e (by simpa using he) hb;rcases h with h|h
   ·rw[<-Aug h];exact hl
   ·exact Kq hc f e.on (hc e.on hl) h
theorem T6 {listed:Array Bool}{i x:Nat}(hi:∀ o,ops[i]?=some o->∀ e∈o.after,Region.binds .any e=true->listed.getD e.on false=true)(h:dir ops i x=true):listed.getD x false=true:=by
 unfold dir at h;cases ho:ops[i]? with
 |none=>grind
 |some o =>
  simp only[ho,Ax1,Atj]at h;obtain⟨e,he,hb,h⟩:=h;rw[<-Aug h];exact hi o ho e (by simpa using he) hb
theorem Ob.bubble {s0:S}(hL0:M2 s0){i:Nat}{B:List Nat}:∀ (A:List Nat),(∀ x∈A,Abl ops s0 x i=true)->∀ {s:S} {u m:PH},M2 s->Gc ops s0 s->Ob P id ops true Fin (A++i::B) s u m->Ob P id ops true Fin (i::(A++B)) s u m
 |[],_,s,u,m,_,_,h=>h
 |x::A,hx,s,u,m,hL,hag,h=>by
  have h1:Ob P id ops true Fin (x::i::(A++B)) s u m:=h.mapTail hL fun s' u m hl ha hh=>Ob.bubble hL0 A (fun y hy=>hx y (List.mem_cons_of_mem _ hy)) hl (hag.trans ha) hh;have hs:=hx x mV;unfold Abl at hs;cases hox:ops[x]? with
  |none=>simp[hox]at hs
  |some ox =>
   cases hoy:ops[i]? with
   |none=>simp[hox,hoy]at hs
   |some oy =>
    simp only[hox,hoy,Atj,Av7,Avs,Bool.and_eq_false_iff]at hs;obtain⟨⟨⟨⟨e1,e2⟩,e3⟩,e4⟩,e5⟩:=hs;have hcm:∀ t tx,ox.op=.load t (.tmp tx)->Vw ops s tx=true->isV (s.tm tx)=false:=fun t tx hop hpt=>by
     rw[K4 hag.eq]at hpt;unfold Apt at e5;rw[hop]at e5;simp only[hpt,Bool.and_true,Avs]at e5;exact hag.pt tx hpt e5
    refine h1.swap hL hox hoy (fun e=>?_) e1 e2 (fun hl=>?_) hcm
    ·rw[e]at e4;simp at e4
    ·rcases e3 with (((e3|e3)|e3)|e3)|e3
     ·rw[hl]at e3;cases e3
     ·exact .inl e3
     ·exact .inr (.inr (.inl (Aqr e3 hag)))
     ·exact .inr (.inr (.inr (Aqp e3 hag hL0)))
     ·exact .inr (.inl ⟨e3.2,Aqi e3.1 hag hcm⟩)
theorem Ob.wpAny {s0:S}(hL0:M2 s0)(hE:(At3 ops.size).all (Kj ops)=true)(hF:∀ s u m ρ a w,Fin s u m->Rel c s u m ρ a w->Q .normal a w) :
 ∀ (n:Nat) (T:List Nat) (listed:Array Bool) {s:S} {u m:PH} {ρ:Nat->Nat} {a:Act} {w:World},T.length=n->listed.size=ops.size->(∀ i,i<ops.size->(listed.getD i true=false↔i∈T))->(∀ i∈T,i<ops.size)->T.Nodup->Acn ops listed ->
  T.Pairwise (fun x y=>Hg ops s0 x y=true)->Gc ops s0 s->Ob P id ops true Fin T s u m->Rel c s u m ρ a w->Go.wpAny P .any ops Q n listed a w:=by
 have ready_spec:∀ (listed:Array Bool) (i:Nat),i∈Region.ready .any ops listed↔i<ops.size/\listed.getD i true=false/\∃ o,ops[i]?=some o/\∀ e∈o.after,Region.binds .any e=true->listed.getD e.on false=true:=by
  intro listed i;simp only[Region.ready,List.mem_filter,List.mem_range,Atj,Avs];refine and_congr_right fun hi=>and_congr_right fun _=>?_;have ho:ops[i]?=some ops[i]:=Aup hi;rw[ho];simp only[Option.map_some,Awo,Array.all_eq_true',Atd,exists_eq_left',Av7,Avs];constructor
  ·intro h e he hb;rcases h e he with h|h
   ·rw[hb]at h;cases h
   ·exact h
  ·intro h e he;cases hb:Region.binds .any e with
   |false=>exact .inl rfl
   |true=>exact .inr (h e he hb)
 intro n;induction n with
 |zero =>
  intro T listed s u m ρ a w hlen hsz hT hTl hnd hcl hP hag hO hr;have:T = []:=List.eq_nil_of_length_eq_zero hlen;subst this;refine⟨?_,?_⟩
  ·rw[List.eq_nil_iff_forall_not_mem];intro i hi;obtain⟨h1,h2,_⟩:=(ready_spec listed i).1 hi;exact absurd ((hT i h1).1 h2) mV
  ·cases hO with
   |nil h=>exact hF _ _ _ _ _ _ h hr
 |succ n ih =>
  intro T listed s u m ρ a w hlen hsz hT hTl hnd hcl hP hag hO hr;refine⟨fun hnil=>?_,fun i hi=>?_⟩
  ·cases T with
   |nil=>simp at hlen
   |cons t T' =>
    exfalso;have ht:=hTl t mV;have:t∈Region.ready .any ops listed:=by
     refine (ready_spec listed t).2 ⟨ht,(hT t ht).2 mV,ops[t],Aup ht,fun e he hb=>?_⟩;rw[Atx]at hE;have hed:=hE t (by simpa using ht);unfold Kj at hed;rw[Aup ht]at hed;simp only[Atx]at hed;have:=hed e (by simpa using he);simp only[hb,Ayc,Azw,Atj,Avs]at this;have hlt:e.on<ops.size:=A0v▸this.1;have hne:e.on≠t:=fun h=>by rw[h]at this;simp at this
     cases hl:listed.getD e.on true with
     |true =>
      have h1:e.on<listed.size:=oV
      simp only[Aus,Aup h1,Awo]at hl⊢;exact hl
     |false =>
      have hm:=(hT e.on hlt).1 hl;rcases At6.1 hm with hm|hm
      ·exact absurd hm hne
      ·have:=List.rel_of_pairwise_cons hP hm;unfold Hg at this;simp only[Atj,Avs]at this;have hb':dir ops t e.on=true:=by
        unfold dir;rw[Aup ht];simp only[Ax1,Atj];exact⟨e,by simpa using he,hb,mV⟩
       rw[hb']at this;exact absurd this.1.1 mV
    rw[hnil]at this;cases this
  ·obtain⟨h1,h2,o,ho,hpre⟩:=(ready_spec listed i).1 hi;have hm:=(hT i h1).1 h2;obtain⟨A,B,rfl⟩:=List.append_of_mem hm;have hAB:(A++B).length=n:=by simp at hlen⊢;omega
   have hlt:i<listed.size:=oV
   have hsw:∀ x∈A,Abl ops s0 x i=true:=by
    intro x hx;have hp:=(List.pairwise_append.1 hP).2.2 x hx i mV;unfold Hg at hp;simp only[Atj,Av7]at hp;have hpi:∀ o',ops[i]?=some o'->∀ e∈o'.after,Region.binds .any e=true->listed.getD e.on false=true:=fun o' ho'=>by rw[ho]at ho';obtain rfl:=Auq ho';exact hpre
    have hno:listed.getD x false=true->False:=by
     intro hl;have hxl:=hTl x (by simp[hx]);have:=(hT x hxl).2 (by simp[hx]);have h3:x<listed.size:=oV
     simp only[Aus,Aup h3,Awo]at hl this;rw[this]at hl;cases hl
    rcases hp.2 with (h|h)|h
    ·exact (hno (T6 hpi h)).elim
    ·exact h
    ·exact (hno (Kq hcl ops.size i hpi h)).elim
   have hO':=Ob.bubble hL0 A hsw hr.lv hag hO;refine wpOp_mono (fun a' w' ⟨s',u',m',ρ',r1,ra,r2⟩=>?_) (hO'.step (Q:=Q) hr);have hnd':(A++B).Nodup/\i∉A++B:=by
    rw[List.nodup_append]at hnd⊢;simp only[Awr,At6,Ati]at hnd⊢;obtain⟨n1,⟨n2,n3⟩,n4⟩:=hnd;exact⟨⟨n1,n3,fun x hx y hy=>n4 x hx y (.inr hy)⟩,fun h=>h.elim (fun h=>n4 i h i (.inl rfl) rfl) n2⟩
   refine ih (A++B) _ hAB (by simpa using hsz) (fun j hj=>?_) (fun j hj=>hTl j ?_) hnd'.1 ?_ ?_ (hag.trans ra) r2 r1
   ·by_cases hji:j=i
    ·subst hji;simp only[Aus,Array.getElem?_setIfInBounds_self_of_lt hlt,Awo];exact⟨fun h=>absurd h mV,fun h=>absurd h hnd'.2⟩
    ·have:=hT j hj;simp only[Aus,Avk (fun h=>hji h.symm)]at this⊢;rw[this];simp[hji]
   ·simp only[Ati,At6]at hj⊢;rcases hj with h|h
    ·exact .inl h
    ·grind
   ·intro j hj o' ho' e he hb;have keep:∀ k,listed.getD k false=true->(listed.setIfInBounds i true).getD k false=true:=by
     intro k hk;by_cases hki:k=i
     ·grind
     ·simp only[Aus,Avk (fun h=>hki h.symm)]at hk⊢;exact hk
    by_cases hji:j=i
    ·grind
    ·refine keep _ (hcl j ?_ o' ho' e he hb);simp only[Aus,Avk (fun h=>hji h.symm)]at hj⊢;exact hj
   ·grind
end drawn
end
section
variable {T:List Nat}{c:Cx}{d:Deferred}{dl:List Deferred}{id:Nat}{m u:PH}{ops:Array Oper}{s:S}{t:Array Value}{w:World}{ρ:Nat->Nat}
variable [Ca] [Pu]
section based
variable [Df]
inductive KI where
 |code (c:Code)
 |blk (id:Nat)
 |reg (id:Nat) (ops:Array Oper) (dr:Bool) (l:List Nat)
 |lp (J:S->PH->PH->Prop)
def Aos (c:Cx)(Post:Value->PH->PH->Prop):Ending->World->Prop:=fun e w'=>∃ v u' m',e=.returned v/\B1 u' m' w'/\B8 c.u0 c.m0 c.w0 u' m' w'/\Post v u' m'
def Ak (P:Program)(f:FuncId)(args:List Value)(u m:PH)(Post:Value->PH->PH->Prop):Prop:=∀ w,B1 u m w->Calls P f args.toArray w (Aos ⟨w,u,m⟩ Post)
structure By where
 post:Value->PH->PH->Prop
 m0:PH
abbrev Am2 (P:Program)(fn:Func)(R:Ending->World->Prop):Exit->Act->World->Prop:=bodyPostM Fence.wide 1 P fn R
def Kk (P:Program)(fn:Func)(Post:By)(c:Cx):List KI->Exit->Act->World->Prop
 |[]=>Am2 P fn (Aos c Post.post)
 |.code x::k=>Exit.then (x.wp P (Kk P fn Post c k)) (Kk P fn Post c k)
 |.blk id::k=>Exit.inBlock id (Kk P fn Post c k)
 |.reg _ _ _ _::k=>Kk P fn Post c k
 |.lp J::k=>Exit.then (fun a w=>∃ s u m ρ,Rel c s u m ρ a w/\J s u m) (Kk P fn Post c k)
def Vv (P:Program)(fn:Func)(Post:By)(ks:List KI)(s:S)(u m:PH):Prop:=∀ c ρ a w,c.m0=Post.m0->Rel c s u m ρ a w->Kk P fn Post c ks .normal a w
def Sym (P:Program)(fn:Func)(Post:By)(ks:List KI)(s:S)(u m:PH):Prop :=
 match ks with
 |.reg id ops dr l::k=>Ob P id ops dr (Vv P fn Post k) l s u m
 |ks=>Vv P fn Post ks s u m
def Pv (id:Nat):List KI->Option (List KI)
 |.blk j::k=>cond (Auy j id) (some k) (Pv id k)
 |_::k=>Pv id k
 |[]=>none
def Akk (ops:Array Oper)(done:List Nat)(i:Nat):Bool:=match ops[i]? with
 |some o=>!(done.contains i)&&o.after.toList.all fun e=>!Region.binds .any e||done.contains e.on
 |none=>false
def U2 (ops:Array Oper):Nat->List Nat->List Nat
 |0,done=>done.reverse
 |f+1,done=>match (At3 ops.size).find? (fun i=>Akk ops done i&&(match ops[i]? with|some o=>En o.op|none=>false)) with
  |some i=>U2 ops f (i::done)
  |none=>match (At3 ops.size).find? (Akk ops done) with
   |some i=>U2 ops f (i::done)
   |none=>done.reverse
def Ap5 (ops:Array Oper):List Nat:=U2 ops ops.size []
def Gg:List KI->Bool
 |.reg ..::_=>false
 |_=>true
def one (P:Program)(ks:List KI)(s:S):Option (List KI×S) :=
 match ks with
 |.code .skip::k=>cond (Gg k) (some (k,s)) none
 |.code (.seq x y)::k=>some (.code x::.code y::k,s)
 |.code (.block id x)::k=>some (.code x::.blk id::k,s)
 |.code (.exit id)::k=>match Pv id k with|some k'=>cond (Gg k') (some (k',s)) none|none=>none
 |.code (.cond x y z)::k=>match s.ev x with
  |.v (.bool true)=>some (.code y::k,s)
  |.v (.bool false)=>some (.code z::k,s)
  |_=>none
 |.code (.region id ops false)::k=>some (.reg id ops false (At3 ops.size)::k,s)
 |.code (.region id ops true)::k=>cond (Ajh ops s (Ap5 ops)) (some (.reg id ops true (Ap5 ops)::k,s)) none
 |.blk _::k=>cond (Gg k) (some (k,s)) none
 |.reg _ _ _ []::k=>cond (Gg k) (some (k,s)) none
 |.reg id ops dr (i::l)::k=>match ops[i]? with
  |some o=>match Gh s o with
   |true=>match gv s ops o with
    |some true=>match eff P (id*1000+i) s o.op with
     |some (x,hw)=>some (.reg id ops dr l::k,(s.put o.dst x).setb hw)
     |none=>none
    |some false=>some (.reg id ops dr l::k,s.put o.dst (.v undef))
    |none=>none
   |false=>none
  |none=>none
 |_=>none
def run (P:Program):Nat->List KI×S->List KI×S
 |0,st=>st
 |n+1,st=>match one P st.1 st.2 with
  |some st'=>run P n st'
  |none=>st
end based
section sound
variable {P:Program} {fn:Func} {Post:By}
section based
variable [Df]
theorem Jm {c:Cx}{id:Nat}:∀ {k k':List KI},Pv id k=some k'->∀ {a:Act} {w:World},Kk P fn Post c k' .normal a w->Kk P fn Post c k (.exit id) a w
 |.blk j::k,k',h,a,w,hc=>by
  unfold Pv at h;cases hb:Auy j id with
  |true =>
   simp[hb]at h;subst h;have:=Aug hb;subst this;simp[Kk,Exit.inBlock];exact hc
  |false =>
   simp[hb]at h;have hne:id≠j:=fun e=>by subst e;simp at hb
   simp only[Kk,Exit.inBlock,if_neg hne];exact Jm h hc
 |.code x::k,k',h,a,w,hc=>by simp only[Pv]at h;simp only[Kk,Exit.then];exact Jm h hc
 |.reg _ _ _ _::k,k',h,a,w,hc=>by simp only[Pv]at h;simp only[Kk];exact Jm h hc
 |.lp J::k,k',h,a,w,hc=>by simp only[Pv]at h;simp only[Kk,Exit.then];exact Jm h hc
 |[],k',h,a,w,hc=>by simp[Pv]at h
theorem Kg {c:Cx}{a:Act}{w:World}(h:Am2 P fn (Aos c Post.post) .ret a w):∀ k:List KI,Kk P fn Post c k .ret a w
 |[]=>h
 |.blk j::k=>by simp only[Kk,Exit.inBlock];exact Kg h k
 |.code x::k=>by simp only[Kk,Exit.then];exact Kg h k
 |.reg _ _ _ _::k=>by simp only[Kk];exact Kg h k
 |.lp J::k=>by simp only[Kk,Exit.then];exact Kg h k
theorem Rel.drew {a:Act}(h:Rel c s u m ρ a w):Rel c s u m ρ a { w with drawn:=w.drawn+1 } :=
 ⟨h.sz,h.tm,h.df,h.box,h.inj,h.lv,⟨h.gd.pu,h.gd.pm,h.gd.ap,h.gd.cl⟩,⟨h.gr.sz,h.gr.old,h.gr.us,h.gr.ms,h.gr.io,fun f=>⟨(h.gr.dr f).tape,Nat.le_succ_of_le (h.gr.dr f).dr⟩⟩⟩
theorem Rel.shut (hr:Rel c s u m ρ { tmps:=t,defers:=d::dl } w)(hd:Acf d=true) :
 ∃ r w',d.target=.collected r/\(Instr.takeDeferred r).run P w=.ok [] w'/\Rel c s u m ρ { tmps:=t,defers:=dl } w':=by
 obtain⟨ds,h1,h2,h2',h3⟩:=hr.df;rw[List.filter_cons,if_pos hd]at h2;cases ds with
 |nil=>cases h2
 |cons r ds =>
  rw[List.map_cons,List.cons.injEq]at h2;obtain⟨rfl,h2⟩:=h2;obtain⟨e1,e2,e3,e4⟩:=h3 r List.mem_cons_self;have ho:∀ g,g≠r->(w.putObj r (.deferred none)).heap[g]?=w.heap[g]?:=fun g hg=>World.putObj_heap_other hg;have hs:(w.putObj r (.deferred none)).heap[r]?=some (.deferred none):=World.putObj_heap_same (B0 e1);refine⟨r,w.putObj r (.deferred none),rfl,run_takeDeferred e1,hr.sz,hr.tm,⟨ds,(Awr.1 h1).2,h2,h2',fun r' hr'=>?_⟩,fun k b hb=>?_,hr.inj,hr.lv,⟨fun g o hg=>?_,fun g o hg=>?_,hr.gd.ap,fun g cs' t' fr' j z hg hj=>?_⟩,⟨?_,fun g hg hm=>?_,hr.gr.us,hr.gr.ms,hr.gr.io,fun f=>⟨(hr.gr.dr f).tape,(hr.gr.dr f).dr⟩⟩⟩
  ·grind
  ·obtain⟨⟨cs,f1,f2,f3⟩,f4⟩:=hr.box k b hb;refine⟨⟨cs,?_,f2,f3⟩,f4⟩;rw[ho _ (fun e=>by rw[e,e1]at f1;cases f1)];exact f1
  ·rw[ho g (fun e=>by rw[e,e3]at hg;cases hg)];exact hr.gd.pu g o hg
  ·rw[ho g (fun e=>by rw[e,e4]at hg;cases hg)];exact hr.gd.pm g o hg
  ·rw[ho g (fun e=>by rw[e,hs]at hg;cases hg)]at hg;exact hr.gd.cl g cs' t' fr' j z hg hj
  ·grind
  ·rw[ho g oV];exact hr.gr.old g hg hm
end based
theorem Rel.marks (hr:Rel c s u m ρ { tmps:=t,defers:=d::dl } w):Acf d=true:=by
 obtain⟨_,_,_,h,_⟩:=hr.df;cases e:Acf d with
 |true=>rfl
 |false=>simp_all
theorem Rel.leaves {c:Cx}{R:Ending->World->Prop}{s:S}{u m:PH}{ρ:Nat->Nat}{t:Array Value}{v:Value}:∀ {dl:List Deferred} {w:World},Rel c s u m ρ { tmps:=t,defers:=dl } w ->
 (∀ w',Rel c s u m ρ { tmps:=t,defers:=[] } w'->(results fn t).run P w'=.ok v w'/\R (.returned v) w')->LeavesInM Fence.wide 1 P fn t R dl .returning w
 |[],w,hr,hv=>⟨v,(hv w hr).1,(hv w hr).2⟩
 |d::dl,w,hr,hv=>by
  obtain⟨r,w',h1,h2,h3⟩:=hr.shut (P:=P) hr.marks;exact⟨mV,.inl ⟨r,w',h1,h2,h3.leaves hv⟩⟩
theorem Rel.ends {c:Cx}{R:Ending->World->Prop}{s:S}{u m:PH}{ρ:Nat->Nat}{a:Act}{w:World}(hr:Rel c s u m ρ a w){v:Value}
 (hv:∀ w',Rel c s u m ρ { tmps:=a.tmps,defers:=[] } w'->(results fn a.tmps).run P w'=.ok v w'/\R (.returned v) w'):Am2 P fn R .ret a w/\Am2 P fn R .normal a w:=by
 have:=hr.leaves (P:=P) (fn:=fn) (R:=R) hv;exact⟨this,this⟩
section based
variable [Df]
theorem Sym.reg_seq {k:List KI}(h:Ob P id ops false (Vv P fn Post k) (At3 ops.size) s u m):Vv P fn Post (.code (.region id ops false)::k) s u m:=by
 intro c ρ a w hm0 hr;exact wp_region (h.wpOps (fun s u m ρ a w hf hr=>hf c ρ a w hm0 hr) hr)
theorem Ahr (h:Ajh ops s T=true):T.length=ops.size/\(∀ i,i<ops.size->i∈T)/\(∀ i∈T,i<ops.size)/\T.Nodup/\T.Pairwise (fun x y=>Hg ops s x y=true)/\(At3 ops.size).all (Kj ops)=true:=by
 unfold Ajh at h;simp only[Atj]at h;obtain⟨⟨⟨⟨h1,h2⟩,h3⟩,h4⟩,h5⟩:=h;rw[Atx]at h2 h3;refine⟨Aug h1,fun i hi=>by simpa using h2 i (by simpa using hi),fun i hi=>A0v▸h3 i hi,?_,G4 h4,h5⟩;refine (G4 h4).imp fun {x y} hxy e=>?_;unfold Hg at hxy;subst e;simp at hxy
theorem Sym.reg_draw (hm:P.follows .mixedOrders=true)(hB:Ajh ops s T=true){k:List KI}(h:Ob P id ops true (Vv P fn Post k) T s u m):Vv P fn Post (.code (.region id ops true)::k) s u m:=by
 intro c ρ a w hm0 hr;obtain⟨h1,h2,hlt,hnd,h3,h4⟩:=Ahr hB;refine wp_region_any hm ?_;rw[show ops.size=T.length from h1.symm];refine Ob.wpAny (c:=c) hr.lv h4 (fun s u m ρ a w hf hr=>hf c ρ a w hm0 hr) T.length T _ rfl (by simp[h1]) (fun i hi=>?_) hlt hnd (fun i hi=>?_) h3 (Gc.refl _ _) h hr.drew
 ·simp_all
 ·exfalso;simp only[Aus]at hi;by_cases hlt:i<T.length
  ·grind
  ·grind
theorem Sym.ofNo {ks:List KI}(hn:Gg ks=true):Sym P fn Post ks s u m=Vv P fn Post ks s u m:=by
 cases ks with
 |nil=>rfl
 |cons x k=>cases x<;>first|rfl|simp[Gg]at hn
theorem My (hm:P.follows .mixedOrders=true){ks ks':List KI}{s s':S}(h:one P ks s=some (ks',s'))(hk:Sym P fn Post ks' s' u m):Sym P fn Post ks s u m:=by
 unfold one at h;split at h
 ·rename_i k;cases hn:Gg k with
  |false=>grind
  |true =>
   simp[hn]at h;obtain⟨rfl,rfl⟩:=h;rw[Sym.ofNo hn]at hk;exact fun c ρ a w hm0 hr=>wp_skip (hk c ρ a w hm0 hr)
 ·simp at h;obtain⟨rfl,rfl⟩:=h;exact fun c ρ a w hm0 hr=>wp_seq (hk c ρ a w hm0 hr)
 ·simp at h;obtain⟨rfl,rfl⟩:=h;exact fun c ρ a w hm0 hr=>wp_block (hk c ρ a w hm0 hr)
 ·split at h
  ·rename_i k' hk';cases hn:Gg k' with
   |false=>grind
   |true =>
    simp[hn]at h;obtain⟨rfl,rfl⟩:=h;rw[Sym.ofNo hn]at hk;exact fun c ρ a w hm0 hr=>wp_exit (Jm hk' (hk c ρ a w hm0 hr))
  ·cases h
 ·rename_i x y z k;split at h
  ·rename_i hx;simp at h;obtain⟨rfl,rfl⟩:=h;exact fun c ρ a w hm0 hr=>wp_cond_true (by rw[hr.eval x (by rw[hx];simp),hx];rfl) (hk c ρ a w hm0 hr)
  ·rename_i hx;simp at h;obtain⟨rfl,rfl⟩:=h;exact fun c ρ a w hm0 hr=>wp_cond_false (by rw[hr.eval x (by rw[hx];simp),hx];rfl) (hk c ρ a w hm0 hr)
  ·cases h
 ·simp at h;obtain⟨rfl,rfl⟩:=h;exact Sym.reg_seq hk
 ·rename_i id ops k;cases hB:Ajh ops s (Ap5 ops) with
  |false=>grind
  |true =>
   simp[hB]at h;obtain⟨rfl,rfl⟩:=h;exact Sym.reg_draw hm hB hk
 ·rename_i id k;cases hn:Gg k with
  |false=>grind
  |true =>
   simp[hn]at h;obtain⟨rfl,rfl⟩:=h;rw[Sym.ofNo hn]at hk;exact fun c ρ a w hm0 hr=>hk c ρ a w hm0 hr
 ·rename_i k;cases hn:Gg k with
  |false=>grind
  |true =>
   simp[hn]at h;obtain⟨rfl,rfl⟩:=h;rw[Sym.ofNo hn]at hk;exact .nil hk
 ·split at h
  ·rename_i o ho;split at h
   ·rename_i hd;split at h
    ·rename_i hg;split at h
     ·rename_i x hw he;simp at h;obtain⟨rfl,rfl⟩:=h;exact .auto ho hg hd he hk
     ·cases h
    ·rename_i hg;simp at h;obtain⟨rfl,rfl⟩:=h;exact .skip ho hg hd hk
    ·cases h
   ·cases h
  ·cases h
 ·cases h
theorem V6 (hm:P.follows .mixedOrders=true){u m:PH}:∀ (n:Nat) (st:List KI×S),Sym P fn Post (run P n st).1 (run P n st).2 u m->Sym P fn Post st.1 st.2 u m
 |0,st,h=>h
 |n+1,st,h=>by
  unfold run at h;split at h
  ·rename_i st' he;obtain⟨ks',s'⟩:=st';exact My hm he (V6 hm n _ h)
  ·exact h
end based
end sound
end
section
variable {a:Act}{args:List Value}{c:Cx}{env:Operand->Value}{f:Nat}{o:Op}{op:BinOp}{s:S}{w:World}{x y:Value}{ρ:Nat->Nat}
variable [Ca] [Pu]
section based
variable [Df]
class A7 (P:Program):Prop where
 mx:P.follows .mixedOrders=true
 ti:P.underlying 3=some (.int .i64)
theorem Zf {P:Program}[h:A7 P]{d:TypeId}{x:TypeDesc}(hd:P.underlying d=some x)(hx:x≠.int .i64):Apf d=false:=by
 unfold Apf;cases e:Auy d 3 with
 |false=>rfl
 |true=>have:=Aug e;subst this;rw[h.ti]at hd;cases hd;exact absurd rfl hx
structure G (P:Program)(fn:Func)(Post:By)(st:List KI×S)(u m:PH):Prop where
 out:Sym P fn Post st.1 st.2 u m
def adv (P:Program)(st:List KI×S):List KI×S:=run P 3000 st
def ctl (P:Program):Nat->List KI×S->List KI×S
 |0,st=>st
 |n+1,st=>cond (Gg st.1) st (match one P st.1 st.2 with|some st'=>ctl P n st'|none=>st)
def nx (st:List KI×S)(v:Value):List KI×S :=
 match st.1 with
 |.reg id ops dr (i::l)::k=>match ops[i]? with
  |some o=>(.reg id ops dr l::k,st.2.put o.dst (.v v))
  |none=>st
 |_=>st
def Mj (P:Program)(t:TypeId):Option Nat:=match P.underlying t with|some (.slice e)=>szB P e|_=>none
def Kv (P:Program)(t:TypeId):Option (TypeId×Nat×Nat×Value) :=
 match P.underlying t with
 |some (.slice e)=>match P.info? e with
  |some i=>match i.zero with|some z=>some (e,i.size,i.bytes,z)|none=>none
  |none=>none
 |_=>none
def To (P:Program)(t:TypeId):Option (Option Nat) :=
 match Kw P t with
 |some true=>match szB P t with|some n=>some (some n)|none=>none
 |some false=>some none
 |none=>none
inductive Vr where
 |other
 |bin (op:BinOp) (x y:Value)
 |binT (op:BinOp) (t:Option TypeDesc) (x y:Value)
 |un (op:UnOp) (x:Value)
 |conv (src dst:Option TypeDesc) (x:Value)
 |index (t:Option TypeDesc) (x i:Value)
 |addr (sz:Option Nat) (x i:Value)
 |slice (sz:Option Nat) (x:Value) (lo hi mx:Option Value)
 |load (k:Option (Option Nat)) (a:Value)
 |store (sz:Option Nat) (a v:Value)
 |make (e:Option (TypeId×Nat×Nat×Value)) (l c:Value)
 |call (f:Nat) (args:List Value)
 |app (e:Option (TypeId×Nat×Nat×Value)) (same:Bool) (args:List Value)
 |blt (b:Builtin) (ts:List TypeId) (args:List Value)
 |build (t:TypeId) (parts:List (Nat×Value))
 |buildS (e:Option (TypeId×Nat×Nat×Value)) (n:Nat) (parts:List (Nat×Value))
 |field (t:TypeId) (x:Value) (f:Nat)
 |fieldA (t:TypeId) (x:Value) (f:Nat)
def A8 (P:Program)(env:Operand->Value):Op->Vr
 |.binOp op t x y _=>match env x with
  |.int k a=>.bin op (.int k a) (env y)
  |.string a=>.bin op (.string a) (env y)
  |z=>.binT op (P.underlying t) z (env y)
 |.unOp op _ x=>.un op (env x)
 |.convert s d x=>.conv (P.underlying s) (P.underlying d) (env x)
 |.index t x i=>.index (P.underlying t) (env x) (env i)
 |.indexAddr t x i=>.addr (Mj P t) (env x) (env i)
 |.slice t x lo hi mx=>.slice (Mj P t) (env x) (lo.map env) (hi.map env) (mx.map env)
 |.load t a=>.load (To P t) (env a)
 |.store t a v=>.store (szB P t) (env a) (env v)
 |.makeSlice t l c=>.make (Kv P t) (env l) (env c)
 |.build t ps=>.build t (ps.toList.map fun (i,x)=>(i,env x))
 |.buildSlice t n ps=>.buildS (Kv P t) n (ps.toList.map fun (i,x)=>(i,env x))
 |.field t x f=>.field t (env x) f
 |.fieldAddr t x f=>.fieldA t (env x) f
 |.call c=>match c.callee with
  |.value f=>match env f with
   |.func (.func n) first cap=>.call n (first.toList++c.args.toList.map env++cap.toList)
   |_=>.other
  |.builtin b=>match b with
   |.append=>match c.argTypes.toList with
    |[t,t']=>.app (Kv P t) (Auy t t') (c.args.toList.map env)
    |_=>.other
   |b=>.blt b c.argTypes.toList (c.args.toList.map env)
  |_=>.other
 |_=>.other
def Al (P:Program)(st:List KI×S):Vr :=
 match st.1 with
 |.reg _ ops _ (i::_)::_=>match ops[i]? with
  |some o=>match Gh st.2 o&&(Lm st.2 o.op&&L7 o.op) with
   |true=>match gv st.2 ops o with
    |some true=>A8 P (Lb st.2) o.op
    |_=>.other
   |false=>.other
  |none=>.other
 |_=>.other
def Ug (P:Program)(s:S):ResultVar->Option Value
 |.tmp t=>match s.tm t with|.v x=>some x|_=>none
 |.cell a t=>match s.tm a with
  |.p k off=>match s.hp k with
   |some b=>match ldv P t b.cells off with|some (.v y)=>some y|_=>none
   |none=>none
  |_=>none
def P4 (P:Program)(s:S):List ResultVar->Option (List Value)
 |[]=>some []
 |r::l=>match Ug P s r with
  |some x=>match P4 P s l with|some xs=>some (x::xs)|none=>none
  |none=>none
def Rs:List Value->Value
 |[x]=>x
 |l=>.tuple l.toArray
def Ap7 (P:Program)(fn:Func)(st:List KI×S):Option Value :=
 match st.1 with
 |.code .ret::_|[]=>match P4 P st.2 fn.results.toList with|some l=>some (Rs l)|none=>none
 |_=>none
end based
section rules
variable {P:Program} [A7 P] {fn:Func} {Post:By} {st:List KI×S} {u m:PH}
section based
variable [Df]
theorem G.stp (h:G P fn Post (adv P st) u m):G P fn Post st u m:=⟨V6 A7.mx 3000 st h.out⟩
theorem Jk:∀ (n:Nat) (st:List KI×S),Sym P fn Post (ctl P n st).1 (ctl P n st).2 u m->Sym P fn Post st.1 st.2 u m
 |0,st,h=>h
 |n+1,st,h=>by
  unfold ctl at h;cases hn:Gg st.1 with
  |true=>simp[hn]at h;exact h
  |false =>
   simp only[hn,cond_false]at h;split at h
   ·rename_i st' he;obtain⟨ks',s'⟩:=st';exact My A7.mx he (Jk n _ h)
   ·exact h
theorem Kp {V:Vr}(h:Al P st=V)(hV:V≠.other):∃ id ops dr i l k s o,st=(.reg id ops dr (i::l)::k,s)/\ops[i]?=some o/\gv s ops o=some true/\Gh s o=true/\Lm s o.op=true/\L7 o.op=true/\A8 P (Lb s) o.op=V /\
 ∀ v,nx st v=(.reg id ops dr l::k,s.put o.dst (.v v)):=by
 obtain⟨ks,s⟩:=st;unfold Al at h;simp only at h;split at h
 ·rename_i id ops dr i l k;split at h
  ·rename_i o ho;split at h
   ·rename_i hb;simp only[Atj]at hb;split at h
    ·rename_i hg;exact⟨id,ops,dr,i,l,k,s,o,rfl,ho,hg,hb.1,hb.2.1,hb.2.2,h,fun v=>by simp[nx,ho]⟩
    ·grind
   ·grind
  ·grind
 ·grind
theorem Ags {V:Vr}(h:A8 P env o=V)(hV:V≠.other):Eq o=false:=by
 cases o<;>first|rfl|(simp only[A8]at h;exact absurd h.symm hV)
theorem G.ask {V:Vr}{v:Value}(h:Al P (adv P st)=V)(hV:V≠.other)(hr:∀ env (o:Oper),A8 P env o.op=V->∀ w,(Gq o.op=true->Ek u w/\(Pu.b=false->Ek m w))->(execOp env o).run P w=.ok (.value v) w)
 (k:G P fn Post (nx (adv P st) v) u m):G P fn Post st u m:=by
 refine G.stp ?_;obtain⟨id,ops,dr,i,l,kk,s,o,e,ho,hg,hd,hv,hs,hview,hnx⟩:=Kp h hV;have k:=k.out;rw[hnx]at k;rw[e];exact⟨Ob.ask ho hg hd hv hs (Ags hview hV) (fun w hp=>hr _ o hview w fun h=>⟨(hp (.inl h)).1,fun hb=>(hp (.inl h)).2 (.inl hb)⟩) k⟩
theorem G.big {V:Vr}{K:Value->PH->PH->Prop}(h:Al P (adv P st)=V)(hV:V≠.other)(hf:∀ env op,A8 P env op=V->En op=false)(hk:(∀ v u' m',K v u' m'->PH.le m m')\/(∀ env op,A8 P env op=V->Ld op=true))
 (hr:∀ env (o:Oper),A8 P env o.op=V->∀ w,B1 u m w->E3 P env o w fun v w'=>∃ u' m',B1 u' m' w'/\B8 u m w u' m' w'/\K v u' m')
 (k:∀ v u' m',PH.le u u'->K v u' m'->G P fn Post (nx (adv P st) v) u' m'):G P fn Post st u m:=by
 refine G.stp ?_;obtain⟨id,ops,dr,i,l,kk,s,o,e,ho,hg,hd,hv,hs,hview,hnx⟩:=Kp h hV;rw[e];refine⟨?_⟩;refine Ob.big (K:=K) ho hg hd hv hs (hf _ _ hview) (fun v u' m' hK=>?_) (fun w hgd=>hr _ o hview w hgd) (fun v u' m' h1 h2=>?_)
 ·rcases hk with hk|hk
  ·grind
  ·exact .inr (.inr (.inl (Ahl (hk _ _ hview))))
 ·have:=(k v u' m' h1 h2).out;rw[hnx]at this;exact this
theorem Aja (h:A8 P env o=.bin op x y):∃ t X Y yt,o=.binOp op t X Y yt/\env X=x/\env Y=y:=by
 cases o<;>simp only[A8]at h<;>try cases h
 ·split at h
  ·rename_i hx;simp at h;obtain⟨rfl,rfl,rfl⟩:=h;exact⟨_,_,_,_,rfl,hx,rfl⟩
  ·rename_i hx;simp at h;obtain⟨rfl,rfl,rfl⟩:=h;exact⟨_,_,_,_,rfl,hx,rfl⟩
  ·cases h
 ·grind
theorem Ms {d:Option TypeDesc}(h:A8 P env o=.binT op d x y):∃ t X Y yt,o=.binOp op t X Y yt/\env X=x/\env Y=y/\P.underlying t=d:=by
 cases o<;>simp only[A8]at h<;>try cases h
 ·split at h
  ·cases h
  ·cases h
  ·simp at h;obtain⟨rfl,rfl,rfl,rfl⟩:=h;exact⟨_,_,_,_,rfl,rfl,rfl,rfl⟩
 ·grind
theorem W7 (h:A8 P env o=.call f args):∃ c F first cap,o=.call c/\c.callee=.value F/\env F=.func (.func f) first cap/\args=first.toList++c.args.toList.map env++cap.toList:=by
 cases o<;>simp only[A8]at h<;>try cases h
 ·grind
 split at h
 ·grind
 ·grind
 ·cases h
theorem G.bin {op:BinOp}{x y:Value}(v:Value)(h:Al P (adv P st)=.bin op x y)(hg:∀ t X Y w,(eqGuard op t X Y x y).run P w=.ok () w)(hr:∀ t w,(binOp op t x y).run P w=.ok v w)
 (k:G P fn Post (nx (adv P st) v) u m):G P fn Post st u m:=by
 refine G.ask h mV (fun env o hview w _=>?_) k;obtain⟨t,X,Y,yt,e,rfl,rfl⟩:=Aja hview;obtain⟨dst,opp,type,pos,after,guard⟩:=o;simp only at e;subst e;simp[execOp,hg,hr]
theorem Da {k:IntKind}{x y:Int}(t:TypeId)(X Y:Operand)(w:World):(eqGuard op t X Y (.int k x) (.int k y)).run P w=.ok () w:=by
 unfold eqGuard;split<;>simp
theorem Dq {z:Int}(h1:-9223372036854775808<=z)(h2:z<=9223372036854775807):IntKind.i64.wrap z=z:=by
 simp only[IntKind.wrap,IntKind.signed,IntKind.bits];simp;omega
theorem G.add (x y z:Int)(h:Al P (adv P st)=.bin .add (.int .i64 x) (.int .i64 y))(hz:x+y=z)(h1:-9223372036854775808<=z)(h2:z<=9223372036854775807)
 (k:G P fn Post (nx (adv P st) (.int .i64 z)) u m):G P fn Post st u m :=
 G.bin _ h Da (fun t w=>by simp[binOp,Op.intArith,hz,Dq h1 h2]) k
theorem G.sub (x y z:Int)(h:Al P (adv P st)=.bin .sub (.int .i64 x) (.int .i64 y))(hz:x-y=z)(h1:-9223372036854775808<=z)(h2:z<=9223372036854775807)
 (k:G P fn Post (nx (adv P st) (.int .i64 z)) u m):G P fn Post st u m :=
 G.bin _ h Da (fun t w=>by simp[binOp,Op.intArith,hz,Dq h1 h2]) k
theorem G.mul (x y z:Int)(h:Al P (adv P st)=.bin .mul (.int .i64 x) (.int .i64 y))(hz:x*y=z)(h1:-9223372036854775808<=z)(h2:z<=9223372036854775807)
 (k:G P fn Post (nx (adv P st) (.int .i64 z)) u m):G P fn Post st u m :=
 G.bin _ h Da (fun t w=>by simp[binOp,Op.intArith,hz,Dq h1 h2]) k
def Cj:BinOp->Int->Int->Bool
 |.eql,x,y=>decide (x=y)
 |.neq,x,y=>decide (x≠y)
 |.lss,x,y=>decide (x<y)
 |.leq,x,y=>decide (x<=y)
 |.gtr,x,y=>decide (x>y)
 |.geq,x,y=>decide (x≥y)
 |_,_,_=>false
def Apr:BinOp->Bool
 |.eql|.neq|.lss|.leq|.gtr|.geq=>true
 |_=>false
theorem G.cmpG (op:BinOp)(kk:IntKind)(x y:Int)(b:Bool)(h:Al P (adv P st)=.bin op (.int kk x) (.int kk y))(hop:Apr op=true)(hb:Cj op x y=b)
 (k:G P fn Post (nx (adv P st) (.bool b)) u m):G P fn Post st u m:=by
 refine G.bin _ h Da (fun t w=>?_) k;subst hb;cases op<;>simp[Apr]at hop<;>simp[binOp,Op.intCmp,Cj]
 ·grind
 ·grind
theorem G.eqlT (x y:Int)(h:Al P (adv P st)=.bin .eql (.int .i64 x) (.int .i64 y))(hb:x=y)(k:G P fn Post (nx (adv P st) (.bool true)) u m):G P fn Post st u m :=
 G.cmpG .eql .i64 x y true h rfl (by simp only[Cj,decide_eq_true_eq];exact hb) k
theorem G.eqlF (x y:Int)(h:Al P (adv P st)=.bin .eql (.int .i64 x) (.int .i64 y))(hb:¬ (x=y))(k:G P fn Post (nx (adv P st) (.bool false)) u m):G P fn Post st u m :=
 G.cmpG .eql .i64 x y false h rfl (by simp only[Cj,decide_eq_false_iff_not];exact hb) k
theorem G.neqT (x y:Int)(h:Al P (adv P st)=.bin .neq (.int .i64 x) (.int .i64 y))(hb:x≠y)(k:G P fn Post (nx (adv P st) (.bool true)) u m):G P fn Post st u m :=
 G.cmpG .neq .i64 x y true h rfl (by simp only[Cj,decide_eq_true_eq];exact hb) k
theorem G.neqF (x y:Int)(h:Al P (adv P st)=.bin .neq (.int .i64 x) (.int .i64 y))(hb:¬ (x≠y))(k:G P fn Post (nx (adv P st) (.bool false)) u m):G P fn Post st u m :=
 G.cmpG .neq .i64 x y false h rfl (by simp only[Cj,decide_eq_false_iff_not];exact hb) k
theorem G.lssT (x y:Int)(h:Al P (adv P st)=.bin .lss (.int .i64 x) (.int .i64 y))(hb:x<y)(k:G P fn Post (nx (adv P st) (.bool true)) u m):G P fn Post st u m :=
 G.cmpG .lss .i64 x y true h rfl (by simp only[Cj,decide_eq_true_eq];exact hb) k
theorem G.lssF (x y:Int)(h:Al P (adv P st)=.bin .lss (.int .i64 x) (.int .i64 y))(hb:¬ (x<y))(k:G P fn Post (nx (adv P st) (.bool false)) u m):G P fn Post st u m :=
 G.cmpG .lss .i64 x y false h rfl (by simp only[Cj,decide_eq_false_iff_not];exact hb) k
theorem G.leqT (x y:Int)(h:Al P (adv P st)=.bin .leq (.int .i64 x) (.int .i64 y))(hb:x<=y)(k:G P fn Post (nx (adv P st) (.bool true)) u m):G P fn Post st u m :=
 G.cmpG .leq .i64 x y true h rfl (by simp only[Cj,decide_eq_true_eq];exact hb) k
theorem G.leqF (x y:Int)(h:Al P (adv P st)=.bin .leq (.int .i64 x) (.int .i64 y))(hb:¬ (x<=y))(k:G P fn Post (nx (adv P st) (.bool false)) u m):G P fn Post st u m :=
 G.cmpG .leq .i64 x y false h rfl (by simp only[Cj,decide_eq_false_iff_not];exact hb) k
theorem G.gtrT (x y:Int)(h:Al P (adv P st)=.bin .gtr (.int .i64 x) (.int .i64 y))(hb:x>y)(k:G P fn Post (nx (adv P st) (.bool true)) u m):G P fn Post st u m :=
 G.cmpG .gtr .i64 x y true h rfl (by simp only[Cj,decide_eq_true_eq];exact hb) k
theorem G.gtrF (x y:Int)(h:Al P (adv P st)=.bin .gtr (.int .i64 x) (.int .i64 y))(hb:¬ (x>y))(k:G P fn Post (nx (adv P st) (.bool false)) u m):G P fn Post st u m :=
 G.cmpG .gtr .i64 x y false h rfl (by simp only[Cj,decide_eq_false_iff_not];exact hb) k
theorem G.geqT (x y:Int)(h:Al P (adv P st)=.bin .geq (.int .i64 x) (.int .i64 y))(hb:x≥y)(k:G P fn Post (nx (adv P st) (.bool true)) u m):G P fn Post st u m :=
 G.cmpG .geq .i64 x y true h rfl (by simp only[Cj,decide_eq_true_eq];exact hb) k
theorem G.geqF (x y:Int)(h:Al P (adv P st)=.bin .geq (.int .i64 x) (.int .i64 y))(hb:¬ (x≥y))(k:G P fn Post (nx (adv P st) (.bool false)) u m):G P fn Post st u m :=
 G.cmpG .geq .i64 x y false h rfl (by simp only[Cj,decide_eq_false_iff_not];exact hb) k
def Fn0 (P:Program)(f:FuncId)(args:List Value)(u:PH)(R:Value->PH->Prop):Prop:=Ak P f args u PH.mt (fun v u' m'=>m'=PH.mt/\R v u')
theorem Ek.mt (w:World):Ek PH.mt w:=fun _ _ h=>by cases h
theorem B1.noM (h:B1 u m w):B1 u PH.mt w:=⟨h.pu,Ek.mt w,fun _=>.inr rfl,h.cl⟩
theorem B1.frame {u':PH}{w w':World}(h:B1 u m w)(g:B1 u' PH.mt w')(gr:B8 u PH.mt w u' PH.mt w'):B1 u' m w'/\B8 u m w u' m w':=by
 refine⟨⟨g.pu,fun b o hb=>?_,fun b=>?_,g.cl⟩,⟨gr.sz,fun b hb _=>gr.old b hb rfl,gr.us,fun b _ hb=>hb,gr.io,gr.dr⟩⟩
 ·rw[gr.old b (h.pm.lt hb) rfl];exact h.pm b o hb
 ·cases hb:m b with
  |none=>grind
  |some o =>
   rw[gr.us b (h.pm.lt hb)];rcases h.ap b with e|e
   ·grind
   ·grind
theorem Kc {env:Operand->Value}{o:Oper}{f:Nat}{args:List Value}(hview:A8 P env o.op=.call f args)(hc:∀ args w,(callFunc f args).run P w=.ok (.enter f args) w)(w:World)(K:Value->World->Prop)
 (h:Calls P f args.toArray w fun e w'=>∃ v,e=.returned v/\K v w'):E3 P env o w K:=by
 obtain⟨c,F,first,cap,e,hcal,hF,rfl⟩:=W7 hview
 obtain⟨dst,opp,type,pos,after,guard⟩:=o;simp only at e;subst e;have:(execOp env ⟨dst,.call c,type,pos,after,guard⟩).run P w=.ok (.enter f ((first++c.args.map env)++cap)) w:=by
  simp[execOp,resolve,hcal,hF,Deferred.ofValue,invoke,hc]
 unfold E3;rw[this];have ea:(first.toList++c.args.toList.map env++cap.toList).toArray=(first++c.args.map env)++cap:=by grind
 rw[<-ea];exact h
theorem El (env:Operand->Value)(op:Op)(h:A8 P env op=.call f args):En op=false:=by
 obtain⟨c,F,first,cap,rfl,hcal,_⟩:=W7 h
 obtain⟨cal,a,t⟩:=c;simp only at hcal;subst hcal;rfl
theorem G.call0 (f:Nat)(args:List Value){R:Value->PH->Prop}(h:Al P (adv P st)=.call f args)(hc:∀ args w,(callFunc f args).run P w=.ok (.enter f args) w)(c:Fn0 P f args u R)
 (k:∀ v u',PH.le u u'->R v u'->G P fn Post (nx (adv P st) v) u' m):G P fn Post st u m:=by
 refine G.big (K:=fun v u' m'=>m'=m/\R v u') h mV El (.inl fun v u' m' hK=>by rw[hK.1];exact PH.le_refl _) (fun env o hview w hgd=>?_) (fun v u' m' h1 h2=>?_)
 ·refine Kc hview hc w _ (Calls.mono (c w hgd.noM) fun e w' he=>?_);obtain⟨v,u',m',e1,e2,e3,rfl,e4⟩:=he;obtain⟨g1,g2⟩:=hgd.frame e2 e3;exact⟨v,e1,u',m,g1,g2,rfl,e4⟩
 ·grind
def S.init (n:Nat)(args:List Value):S:={ n:=n,tm:=fun d=>match args[d]? with|some x=>.v x|none=>.junk,hp:=fun _=>none }
def Adt (fn:Func):Code:=match fn.body with|some c=>c|none=>.skip
def st0 (fn:Func)(args:List Value):List KI×S:=([.code (Adt fn)],S.init fn.ntmps args)
end based
theorem Ak.of {PostV:Value->PH->PH->Prop}{f:FuncId}(hf:P.funcs[f]?=some fn)(hb:fn.body.isSome=true)(hn:Ayb args.length fn.ntmps=true)(h:G P fn ⟨PostV,m⟩ (st0 fn args) u m):Ak P f args u m PostV:=by
 intro w hgd;have hn:=Azz hn;have hb':fn.body=some (Adt fn):=by unfold Adt;cases hc:fn.body with|none=>simp[hc]at hb|some c=>rfl
 refine callsIn_wide.1 (callsIn_of_wp_marks (n:=1) hf hb' trivial (wpIn_wide.2 ?_) rfl);have hr:Rel ⟨w,u,m⟩ (S.init fn.ntmps args) u m (fun _=>0) { tmps:=args.toArray++Array.replicate (fn.ntmps-args.toArray.size) undef,defers:=[] } w:=by
  refine⟨?_,fun d hd=>?_,Adl.nil _ _ _ _,fun k b hb=>?_,fun k j hk=>absurd rfl hk,⟨fun d k off hd=>?_,fun j b k off hj=>?_⟩,hgd,B8.refl _ _ _⟩
  ·simp[S.init];omega
  ·simp only[S.init]at hd⊢;split at hd
   ·rename_i x hx;have hlt:d<args.length:=by grind
    simp only[SV.den];rw[Array.getElem?_append_left (by simpa using hlt)];simpa using hx
   ·grind
  ·cases hb
  ·simp only[S.init]at hd;split at hd<;>cases hd
  ·cases hj
 exact h.out _ _ _ _ rfl hr
theorem Fn0.of {R:Value->PH->Prop}{f:FuncId}{args:List Value}(hf:P.funcs[f]?=some fn)(hb:fn.body.isSome=true)(hn:Ayb args.length fn.ntmps=true)(h:G P fn ⟨fun v u' m'=>m'=PH.mt/\R v u',PH.mt⟩ (st0 fn args) u PH.mt):Fn0 P f args u R :=
 Ak.of hf hb hn h
section based
variable [Df]
def K3 (t:Array Value):ResultVar->Sem Value
 |.tmp d=>pure (t.getD d undef)
 |.cell p ty=>do loadVar ty (<-asAddr (t.getD p undef))
theorem T9 (hr:Rel c s u m ρ a w){r:ResultVar}(h:Ug P s r=some x):(K3 a.tmps r).run P w=.ok x w:=by
 cases r with
 |tmp t =>
  simp only[Ug]at h;split at h
  ·rename_i y hy;simp at h;subst h;have:=hr.tm t (by rw[hy];simp);rw[hy]at this;simp[K3,this,SV.den]
  ·cases h
 |cell p t =>
  simp only[Ug]at h;split at h
  ·rename_i k off hp;split at h
   ·rename_i b hb;split at h
    ·rename_i y hy;simp at h;subst h;have:=hr.tm p (by rw[hp];simp);rw[hp]at this;obtain⟨h1,_,_⟩:=Aff (P:=P) (w:=w) (hr.box k b hb).1 hy;simp[K3,this];exact h1
    ·cases h
   ·cases h
  ·cases h
theorem Q8 (hr:Rel c s u m ρ a w){l:List Value}(h:P4 P s fn.results.toList=some l):(results fn a.tmps).run P w=.ok (Rs l) w:=by
 have key:∀ (rs:List ResultVar) (l:List Value),P4 P s rs=some l->(rs.mapM (K3 a.tmps)).run P w=.ok l w:=by
  intro rs;induction rs with
  |nil=>intro l h;simp[P4]at h;subst h;simp
  |cons r rs ih =>
   intro l h;unfold P4 at h;split at h
   ·rename_i x hx;split at h
    ·rename_i xs hxs;simp at h;subst h;rw[A1l];simp only[At4,T9 hr hx,Atf,ih xs hxs,Avt]
    ·cases h
   ·cases h
 have e:results fn a.tmps=(do let vs <-fn.results.mapM (K3 a.tmps);pure (if h:vs.size=1 then vs[0] else .tuple vs)):=by
  unfold results;rfl
 rw[e,<-Ays (xs:=fn.results),A0t];simp only[At4,A1g,key _ l h]
 match l with
 |[]=>rfl
 |[x]=>rfl
 |x::y::l=>rfl
end based
theorem G.ret (v:Value)(h:Ap7 P fn (adv P st)=some v)(hp:Post.post v u m):G P fn Post st u m:=by
 refine G.stp ?_;generalize adv P st=st' at h;obtain⟨ks,s⟩:=st';unfold Ap7 at h;simp only at h;split at h
 ·split at h
  ·rename_i l hl;simp at h;subst h;refine⟨?_⟩;intro c ρ a w hm0 hr;exact wp_ret (Kg (hr.ends fun w' hr'=>⟨Q8 (a:=⟨a.tmps,[]⟩) hr' hl,_,_,_,rfl,hr'.gd,hr'.gr,hp⟩).1 _)
  ·cases h
 ·split at h
  ·rename_i l hl;simp at h;subst h;refine⟨?_⟩;intro c ρ a w hm0 hr;exact (hr.ends fun w' hr'=>⟨Q8 (a:=⟨a.tmps,[]⟩) hr' hl,_,_,_,rfl,hr'.gd,hr'.gr,hp⟩).2
  ·cases h
 ·cases h
end rules
end
end Go.Proofs.YtnafchoihfnkeaaGreatDoor
