/- Parts of one proof, joined by a program. -/
import Derived.Orders
import Derived.KernelRfl
import Derived.Laws.CopyRow
import Derived.Laws.World
import Derived.Laws.Entries
import Derived.RangeFuncRecord
set_option linter.unusedVariables false
set_option linter.unusedSimpArgs false
set_option linter.unusedSectionVars false
set_option maxHeartbeats 16000000
namespace Go.Proofs.YtabiglokbnfciaaGreatDoor
section
variable {e g:Nat}{o:Obj}{w:World}
abbrev PH:=Nat→Option Obj
def PH.mt:PH:=fun _=>none
def D7 (x:PH)(w:World):Prop:=∀ g o,x g=some o→w.heap[g]?=some o
def Kl (x y:PH):Prop:=∀ g,x g=none∨y g=none
def PH.le (x y:PH):Prop:=∀ g o,x g=some o→y g=some o
def Yc (u:PH)(w:World):Prop:=∀ (g:Nat) (cs:Array Value) (t:TypeId) (fr:Nat×Nat) (j:Nat) (z:Int),w.heap[g]?=some (.cells cs t fr)→cs[j]?=some (.int .u64 z)→u g=some (.cells cs t fr)
structure Bw (u m:PH)(w:World):Prop where
 pu:D7 u w
 pm:D7 m w
 ap:Kl u m
 cl:Yc u w
class Ch where
 on:Prop
instance (priority:=low) Ch.no:Ch:=⟨False⟩
structure Lg (w w':World):Prop where
 tape:w'.tape=w.tape
 dr:w.drawn≤w'.drawn
theorem Lg.refl (w:World):Lg w w:=⟨rfl,Nat.le_refl _⟩
theorem Lg.trans {a b c:World}(h:Lg a b)(k:Lg b c):Lg a c:=⟨k.tape.trans h.tape,Nat.le_trans h.dr k.dr⟩
variable [Fl:Ch]
structure Bz (u m:PH)(w:World)(u' m':PH)(w':World):Prop where
 sz:w.heap.size≤w'.heap.size
 old:∀ g,g < w.heap.size→m g=none→w'.heap[g]?=w.heap[g]?
 us:∀ g,g < w.heap.size→u' g=u g
 ms:∀ g,g < w.heap.size→m g=none→m' g=none
 io:w'.os=w.os∧w'.output=w.output
 dr:Fl.on→Lg w w'
theorem Bu (h:w.heap[g]?=some o):g < w.heap.size:=by
 rcases Nat.lt_or_ge g w.heap.size with h' | h'
 ·exact h'
 ·simp [Array.getElem?_eq_none h'] at h
theorem D7.lt {x:PH}(h:D7 x w)(hg:x g=some o):g < w.heap.size:=Bu (h g o hg)
theorem D7.none {x:PH}{w:World}(h:D7 x w){g:Nat}(hg:w.heap.size≤g):x g=none:=by
 cases hx:x g with
 | none=>rfl
 | some o=>have:=h.lt hx; omega
theorem Bz.refl (u m:PH)(w:World):Bz u m w u m w:=⟨Nat.le_refl _,fun _ _ _=>rfl,fun _ _=>rfl,fun _ _ h=>h,⟨rfl,rfl⟩,fun _=>Lg.refl w⟩
theorem Bz.trans {u m u1 m1 u2 m2 : PH} {w w1 w2 : World} (h : Bz u m w u1 m1 w1) (k : Bz u1 m1 w1 u2 m2 w2) : Bz u m w u2 m2 w2 :=
  ⟨Nat.le_trans h.sz k.sz, fun g hg hm => (k.old g (Nat.lt_of_lt_of_le hg h.sz) (h.ms g hg hm)).trans (h.old g hg hm),
   fun g hg => (k.us g (Nat.lt_of_lt_of_le hg h.sz)).trans (h.us g hg), fun g hg hm => k.ms g (Nat.lt_of_lt_of_le hg h.sz) (h.ms g hg hm), ⟨k.io.1.trans h.io.1, k.io.2.trans h.io.2⟩, fun f => (h.dr f).trans (k.dr f)⟩
theorem Bz.le {u m u' m':PH}{w w':World}(h:Bz u m w u' m' w')(hp:D7 u w):PH.le u u' :=
 fun g o hg=>by rw [h.us g (hp.lt hg)]; exact hg
theorem PH.le_refl (u:PH):PH.le u u:=fun _ _ h=>h
theorem PH.le.trans {u v x:PH}(h:PH.le u v)(k:PH.le v x):PH.le u x:=fun g o hg=>k g o (h g o hg)
inductive SV where
 | junk
 | v (x:Value)
 | p (k off:Nat)
def SV.den (ρ:Nat→Nat):SV→Value
 | .junk=>undef
 | .v x=>x
 | .p k off=>.pointer (some ⟨ρ k,off,none⟩)
structure Blk where
 t:TypeId
 cells:List SV
structure S where
 n:Nat
 tm:Nat→SV
 hp:Nat→Option Blk
def S.put (s:S)(d:Option Nat)(x:SV):S :=
 match d with
 | none=>s
 | some d=>{ s with tm:=fun e=>cond (Nat.beq e d) x (s.tm e) }
def S.setb (s:S)(w:Option (Nat×Blk)):S :=
 match w with
 | none=>s
 | some (k,b)=>{ s with hp:=fun j=>cond (Nat.beq j k) (some b) (s.hp j) }
def S.ev (s:S):Operand→SV
 | .tmp t=>s.tm t
 | .const v=>.v v
 | .global g=>.v (.pointer (some ⟨g,0,none⟩))
 | .func f=>.v (.func (.func f) #[] #[])
theorem B2 (s:S)(d:Nat)(x:SV):(s.put (some d) x).tm d=x:=by simp [S.put]
theorem P6 (s:S)(d:Nat)(x:SV)(h:e≠d):(s.put (some d) x).tm e=s.tm e:=by
 have:Nat.beq e d=false:=by rw [← Bool.not_eq_true]; exact fun hh=>h (Nat.eq_of_beq_eq_true hh)
 simp [S.put,this]
theorem Eq (s:S)(d:Option Nat)(x:SV)(h:d≠some e):(s.put d x).tm e=s.tm e:=by
 cases d with
 | none=>rfl
 | some d=>exact P6 s d x (fun h'=>h (by rw [h']))
theorem Ct (s:S)(d:Option Nat)(x:SV):(s.put d x).hp=s.hp:=by cases d <;> rfl
theorem Ec (s:S)(w:Option (Nat×Blk)):(s.setb w).tm=s.tm:=by rcases w with _ | ⟨k,b⟩ <;> rfl
theorem Bg (s:S)(k:Nat)(b:Blk):(s.setb (some (k,b))).hp k=some b:=by simp [S.setb]
theorem A5 (s:S)(k:Nat)(b:Blk){j:Nat}(h:j≠k):(s.setb (some (k,b))).hp j=s.hp j:=by
 have:Nat.beq j k=false:=by rw [← Bool.not_eq_true]; exact fun hh=>h (Nat.eq_of_beq_eq_true hh)
 simp [S.setb,this]
theorem U0 (s:S)(d:Option Nat)(x:SV):(s.put d x).n=s.n:=by cases d <;> rfl
theorem Pg (s:S)(w:Option (Nat×Blk)):(s.setb w).n=s.n:=by rcases w with _ | ⟨k,b⟩ <;> rfl
theorem S.ext' {s t:S}(hn:s.n=t.n)(h:s.tm=t.tm)(k:s.hp=t.hp):s=t:=by cases s; cases t; simp_all
theorem Aj2 (s:S){d e:Option Nat}(x y:SV)(h:∀ k,d=some k→e≠some k):(s.put d x).put e y=(s.put e y).put d x:=by
 refine S.ext' (by simp only [U0]) (funext fun i=>?_) (by simp only [Ct]);by_cases hd:d=some i
 ·have he:e≠some i:=h i hd;subst hd;rw [Eq _ _ _ he,B2,B2]
 ·rw [Eq _ d x hd];by_cases he:e=some i
  ·subst he; rw [B2,B2]
  ·rw [Eq _ _ _ he,Eq _ _ _ he,Eq _ _ _ hd]
theorem N1 (s:S)(d:Option Nat)(x:SV)(w:Option (Nat×Blk)):(s.setb w).put d x=(s.put d x).setb w:=by
 cases d <;> rcases w with _ | ⟨k,b⟩ <;> rfl
theorem Afr (s:S)(w w':Option (Nat×Blk))(h:∀ k b k' b',w=some (k,b)→w'=some (k',b')→k≠k'):(s.setb w).setb w'=(s.setb w').setb w:=by
 rcases w with _ | ⟨k,b⟩
 ·rfl
 ·rcases w' with _ | ⟨k',b'⟩
  ·rfl
  ·have hne:=h k b k' b' rfl rfl;refine S.ext' rfl rfl (funext fun i=>?_);by_cases h1:i=k
   ·subst h1; rw [A5 _ _ _ hne,Bg,Bg]
   ·by_cases h2:i=k'
    ·subst h2; rw [Bg,A5 _ _ _ h1,Bg]
    ·rw [A5 _ _ _ h2,A5 _ _ _ h1,A5 _ _ _ h1,A5 _ _ _ h2]
def Aht (ρ:Nat→Nat)(b:Blk)(o:Option Obj):Prop :=
 ∃ cs:Array Value,o=some (.cells cs b.t (0,0))∧cs.size=b.cells.length∧∀ (i:Nat) (x:SV),b.cells[i]?=some x→x≠.junk→cs[i]?=some (x.den ρ)
structure Cx where
 w0:World
 u0:PH
 m0:PH
def Aoc (r:Nat):Deferred:={ target:=.collected r,args:=#[] }
def Aar (n0:Nat)(u m:PH)(w:World)(dl:List Deferred):Prop:=∃ ds:List Nat,ds.Nodup∧dl=ds.map Aoc∧∀ r∈ds,w.heap[r]?=some (.deferred (some []))∧n0≤r∧u r=none∧m r=none
theorem Aar.nil (n0:Nat)(u m:PH)(w:World):Aar n0 u m w []:=⟨[],.nil,rfl,fun r hr=>by cases hr⟩
theorem Aar.of {n0:Nat}{u m u' m':PH}{w w':World}{dl:List Deferred}(h:Aar n0 u m w dl)
  (hk:∀ r,w.heap[r]?=some (.deferred (some []))→n0≤r→u r=none→m r=none→w'.heap[r]?=some (.deferred (some []))∧u' r=none∧m' r=none):Aar n0 u' m' w' dl:=by
 obtain ⟨ds,h1,h2,h3⟩:=h;refine ⟨ds,h1,h2,fun r hr=>?_⟩;obtain ⟨e1,e2,e3,e4⟩:=h3 r hr;obtain ⟨f1,f2,f3⟩:=hk r e1 e2 e3 e4;exact ⟨f1,e2,f2,f3⟩
def Ks (s:S):Prop:=(∀ d k off,s.tm d=.p k off→s.hp k≠none)∧(∀ j b k off,s.hp j=some b→SV.p k off∈b.cells→s.hp k≠none)
structure Rel (c:Cx)(s:S)(u m:PH)(ρ:Nat→Nat)(a:Act)(w:World):Prop where
 sz:a.tmps.size=s.n
 tm:∀ d,s.tm d≠.junk→a.tmps[d]?=some ((s.tm d).den ρ)
 df:Aar c.w0.heap.size u m w a.defers
 box:∀ k b,s.hp k=some b→Aht ρ b (w.heap[ρ k]?)∧c.w0.heap.size≤ρ k∧u (ρ k)=none∧m (ρ k)=none
 inj:∀ k j,s.hp k≠none→s.hp j≠none→ρ k=ρ j→k=j
 lv:Ks s
 gd:Bw u m w
 gr:Bz c.u0 c.m0 c.w0 u m w
theorem Rel.eval {c:Cx}{s:S}{u m:PH}{ρ:Nat→Nat}{a:Act}{w:World}(h:Rel c s u m ρ a w)(x:Operand)(hx:s.ev x≠.junk):a.eval x=(s.ev x).den ρ:=by
 cases x with
 | tmp t=>have:=h.tm t hx; simp [Act.eval,S.ev,this]
 | const v=>rfl
 | global g=>rfl
 | func f=>rfl
end
section
variable {g:Nat}{v:Value}
variable [Ch]
def Be:Value→Bool
 | .agg _ | .tuple _=>false
 | .int .u64 _=>false
 | _=>true
theorem Hu (h:Be v=true):v.oneCell'=true:=by
 unfold Be at h; split at h <;> simp_all [Value.oneCell']
 all_goals (cases v <;> simp_all)
theorem If (h:Be v=true)(z:Int):v≠.int .u64 z:=by rintro rfl; simp [Be] at h
section rel
variable {c:Cx} {s:S} {u m:PH} {ρ:Nat→Nat} {a:Act} {w:World}
theorem Rel.put (h:Rel c s u m ρ a w){d:Option Nat}{x:SV}{y:Value}(hx:x≠.junk→y=x.den ρ)(hl:∀ k off,x=.p k off→s.hp k≠none)(hd:∀ e,d=some e→e < s.n) :
  Rel c (s.put d x) u m ρ (a.put d y) w:=by
 cases d with
 | none=>exact h
 | some d =>
  have hdn:=hd d rfl;have hsz:=h.sz;refine ⟨by simpa [Act.put,S.put] using h.sz,fun e he=>?_,by simpa [Act.put] using h.df,fun k b hb=>?_,fun k j hk hj=>?_,⟨fun e k off he=>?_,fun j b k off hj hm=>?_⟩,h.gd,h.gr⟩
  ·by_cases hed:e=d
   ·subst hed;rw [B2] at he ⊢;simp only [Act.put];rw [Array.getElem?_setIfInBounds_self];simp [show e < a.tmps.size by omega,hx he]
   ·rw [P6 _ _ _ hed] at he ⊢;simp only [Act.put];rw [Array.getElem?_setIfInBounds_ne (fun h=>hed h.symm)];exact h.tm e he
  ·rw [Ct] at hb; exact h.box k b hb
  ·rw [Ct] at hk hj; exact h.inj k j hk hj
  ·rw [Ct];by_cases hed:e=d
   ·subst hed; rw [B2] at he; exact hl k off he
   ·rw [P6 _ _ _ hed] at he; exact h.lv.1 e k off he
  ·rw [Ct] at hj ⊢; exact h.lv.2 j b k off hj hm
theorem A9 (w:World)(o:Obj)(h:g < w.heap.size):(w.alloc o).heap[g]?=w.heap[g]?:=by
 show (w.heap.push o)[g]?=_;rw [Array.getElem?_push,if_neg (Nat.ne_of_lt h)]
theorem B9 (w:World)(o:Obj):(w.alloc o).heap[w.heap.size]?=some o:=by
 show (w.heap.push o)[w.heap.size]?=_;rw [Array.getElem?_push,if_pos rfl]
theorem Bp (w:World)(o:Obj):(w.alloc o).heap.size=w.heap.size+1:=Array.size_push ..
theorem Bw.alloc (h:Bw u m w){cs:Array Value}{t:TypeId}{fr:Nat×Nat}(hw:∀ (j:Nat) (z:Int),cs[j]?≠some (.int .u64 z)):Bw u m (w.alloc (.cells cs t fr)):=by
 refine ⟨fun g o hg=>?_,fun g o hg=>?_,h.ap,fun g cs' t' fr' j z hg hj=>?_⟩
 ·rw [A9 _ _ (h.pu.lt hg)]; exact h.pu g o hg
 ·rw [A9 _ _ (h.pm.lt hg)]; exact h.pm g o hg
 ·have hlt:=Bu hg;rw [Bp] at hlt;by_cases hgs:g=w.heap.size
  ·subst hgs;rw [B9] at hg;simp only [Option.some.injEq,Obj.cells.injEq] at hg;obtain ⟨rfl,rfl,rfl⟩:=hg;exact absurd hj (hw j z)
  ·rw [A9 _ _ (by omega)] at hg;exact h.cl g cs' t' fr' j z hg hj
theorem Bz.alloc {u0 m0:PH}{w0:World}(h:Bz u0 m0 w0 u m w)(o:Obj):Bz u0 m0 w0 u m (w.alloc o) :=
 ⟨by rw [Bp]; have:=h.sz; omega,fun g hg hm=>by rw [A9 _ _ (Nat.lt_of_lt_of_le hg h.sz)]; exact h.old g hg hm,h.us,h.ms,h.io,fun f=>⟨(h.dr f).tape,(h.dr f).dr⟩⟩
theorem Xq {ρ:Nat→Nat}{k g:Nat}{x:SV}(hx:∀ off,x≠.p k off):x.den (fun j=>if j=k then g else ρ j)=x.den ρ:=by
 cases x with
 | junk=>rfl
 | v x=>rfl
 | p j off =>
  have:j≠k:=fun e=>hx off (by rw [e]);simp [SV.den,this]
theorem Rel.alloc (h:Rel c s u m ρ a w){k:Nat}(hk:s.hp k=none){b:Blk}{cs:Array Value}(hlen:cs.size=b.cells.length)(hcs:∀ (i:Nat) (x:SV),b.cells[i]?=some x→x≠.junk→cs[i]?=some (x.den ρ))
  (hl:∀ j off,SV.p j off∈b.cells→s.hp j≠none) (hw:∀ (j:Nat) (z:Int),cs[j]?≠some (.int .u64 z)) :
  Rel c (s.setb (some (k,b))) u m (fun j=>if j=k then w.heap.size else ρ j) a (w.alloc (.cells cs b.t)):=by
 have hne:∀ j b',s.hp j=some b'→j≠k:=fun j b' hj e=>by rw [e,hk] at hj; cases hj
 have hne':∀ j,s.hp j≠none→j≠k:=fun j hj e=>hj (by rw [e,hk]);have hlt:∀ j,s.hp j≠none→ρ j < w.heap.size:=fun j hj=>by
  cases hb:s.hp j with
  | none=>exact absurd hb hj
  | some b'=>obtain ⟨⟨cs',e,_⟩,_⟩:=h.box j b' hb; exact Bu e
 refine ⟨by rw [Pg]; exact h.sz,fun d hd=>?_,h.df.of fun r e _ hu hm=>⟨by rw [A9 _ _ (Bu e)]; exact e,hu,hm⟩,fun j b' hb=>?_,fun i j hi hj he=>?_,⟨fun d j off hd=>?_,fun i b' j off hi hm=>?_⟩,h.gd.alloc hw,h.gr.alloc _⟩
 ·rw [Ec] at hd ⊢;rw [h.tm d hd,Xq (fun off e=>h.lv.1 d k off e hk)]
 ·by_cases hjk:j=k
  ·subst hjk;rw [Bg] at hb;simp only [Option.some.injEq] at hb;subst hb;simp only [if_true];refine ⟨⟨cs,by rw [B9],hlen,fun i x hi hx=>?_⟩,h.gr.sz,?_,?_⟩
   ·rw [hcs i x hi hx,Xq (fun off e=>?_)];exact hl j off (e ▸ List.mem_of_getElem? hi) hk
   ·exact h.gd.pu.none (Nat.le_refl _)
   ·exact h.gd.pm.none (Nat.le_refl _)
  ·rw [A5 _ _ _ hjk] at hb;simp only [if_neg hjk];obtain ⟨⟨cs',e1,e2,e3⟩,r⟩:=h.box j b' hb;refine ⟨⟨cs',by rw [A9 _ _ (Bu e1)]; exact e1,e2,fun i x hi hx=>?_⟩,r⟩;rw [e3 i x hi hx,Xq (fun off e=>h.lv.2 j b' k off hb (e ▸ List.mem_of_getElem? hi) hk)]
 ·by_cases hik:i=k
  ·by_cases hjk:j=k
   ·rw [hik,hjk]
   ·rw [A5 _ _ _ hjk] at hj;simp only [hik,if_true,if_neg hjk] at he;have:=hlt j hj; omega
  ·rw [A5 _ _ _ hik] at hi;by_cases hjk:j=k
   ·simp only [hjk,if_true,if_neg hik] at he;have:=hlt i hi; omega
   ·rw [A5 _ _ _ hjk] at hj;simp only [if_neg hik,if_neg hjk] at he;exact h.inj i j hi hj he
 ·rw [Ec] at hd;have:=h.lv.1 d j off hd;rw [A5 _ _ _ (hne' j this)]; exact this
 ·by_cases hjk:j=k
  ·rw [hjk,Bg]; simp
  ·rw [A5 _ _ _ hjk];by_cases hik:i=k
   ·subst hik;rw [Bg] at hi;simp only [Option.some.injEq] at hi;subst hi;exact hl j off hm
   ·rw [A5 _ _ _ hik] at hi;exact h.lv.2 i b' j off hi hm
theorem Rel.store (h:Rel c s u m ρ a w){k:Nat}{b b':Blk}(hk:s.hp k=some b)(ht:b'.t=b.t){cs:Array Value}(hlen:cs.size=b'.cells.length)(hcs:∀ (i:Nat) (x:SV),b'.cells[i]?=some x→x≠.junk→cs[i]?=some (x.den ρ))
  (hl:∀ j off,SV.p j off∈b'.cells→s.hp j≠none) (hw:∀ (j:Nat) (z:Int),cs[j]?≠some (.int .u64 z)) :
  Rel c (s.setb (some (k,b'))) u m ρ a (w.setRow (ρ k) cs):=by
 obtain ⟨⟨cs0,e0,_,_⟩,r0,r1,r2⟩:=h.box k b hk;have hother:∀ g,g≠ρ k→(w.setRow (ρ k) cs).heap[g]?=w.heap[g]?:=fun g hg=>setRow_other w (ρ k) g cs hg;have hsame:(w.setRow (ρ k) cs).heap[ρ k]?=some (.cells cs b.t (0,0)):=setRow_heap w (ρ k) cs0 cs _ _ e0;refine ⟨by rw [Pg]; exact h.sz,fun d hd=>by rw [Ec] at hd ⊢; exact h.tm d hd,h.df.of fun r e _ hu hm=>⟨by rw [hother _ (fun e'=>by rw [e',e0] at e; cases e)]; exact e,hu,hm⟩,fun j b1 hb=>?_,fun i j hi hj he=>?_,⟨fun d j off hd=>?_,fun i b1 j off hi hm=>?_⟩,⟨?_,?_,h.gd.ap,?_⟩,⟨?_,?_,h.gr.us,h.gr.ms,h.gr.io,fun f=>⟨(h.gr.dr f).tape,(h.gr.dr f).dr⟩⟩⟩
 ·by_cases hjk:j=k
  ·subst hjk;rw [Bg] at hb;simp only [Option.some.injEq] at hb;subst hb;exact ⟨⟨cs,by rw [hsame,ht],hlen,hcs⟩,r0,r1,r2⟩
  ·rw [A5 _ _ _ hjk] at hb;have hne:ρ j≠ρ k:=fun e=>hjk (h.inj j k (by rw [hb]; simp) (by rw [hk]; simp) e);rw [hother _ hne];exact h.box j b1 hb
 ·have h1:∀ i,(s.setb (some (k,b'))).hp i≠none→s.hp i≠none:=fun i hi=>by
   by_cases hik:i=k
   ·rw [hik,hk]; simp
   ·rw [A5 _ _ _ hik] at hi; exact hi
  exact h.inj i j (h1 i hi) (h1 j hj) he
 ·rw [Ec] at hd;by_cases hjk:j=k
  ·rw [hjk,Bg]; simp
  ·rw [A5 _ _ _ hjk]; exact h.lv.1 d j off hd
 ·by_cases hjk:j=k
  ·rw [hjk,Bg]; simp
  ·rw [A5 _ _ _ hjk];by_cases hik:i=k
   ·subst hik;rw [Bg] at hi;simp only [Option.some.injEq] at hi;subst hi;exact hl j off hm
   ·rw [A5 _ _ _ hik] at hi;exact h.lv.2 i b1 j off hi hm
 ·intro g o hg;rw [hother g (fun e=>by rw [e,r1] at hg; cases hg)]; exact h.gd.pu g o hg
 ·intro g o hg;rw [hother g (fun e=>by rw [e,r2] at hg; cases hg)]; exact h.gd.pm g o hg
 ·intro g cs' t' fr' j z hg hj;by_cases hgk:g=ρ k
  ·rw [hgk,hsame] at hg;simp only [Option.some.injEq,Obj.cells.injEq] at hg;obtain ⟨rfl,_,_⟩:=hg;exact absurd hj (hw j z)
  ·rw [hother g hgk] at hg;exact h.gd.cl g cs' t' fr' j z hg hj
 ·rw [setRow_size]; exact h.gr.sz
 ·intro g hg hm;rw [hother g (by omega)]; exact h.gr.old g hg hm
end rel
end
section
section fill
theorem Up (off:Nat):∀ (l:List Value) (k:Nat) (cells:Array Value),off+k+l.length≤cells.size →
  (((l.zipIdx k).foldl (fun (cs:Array Value) (p:Value×Nat)=>cs.setIfInBounds (off+p.2) p.1) cells).toList)=cells.toList.take (off+k)++l++cells.toList.drop (off+k+l.length)
 | [],k,cells,h=>by simp
 | v::l,k,cells,h=>by
  have ih:=Up off l (k+1) (cells.setIfInBounds (off+k) v) (by simp at h ⊢; omega);simp only [List.zipIdx_cons,List.foldl_cons];rw [ih];simp only [Array.toList_setIfInBounds,List.length_cons];have hlt:off+k < cells.toList.length:=by simp at h ⊢; omega
  have e1:(cells.toList.set (off+k) v).take (off+(k+1))=cells.toList.take (off+k)++[v]:=by
   rw [show off+(k+1)=off+k+1 by omega,List.take_add_one,List.take_set_of_le (Nat.le_refl _),List.getElem?_set_self hlt];rfl
  have e2:(cells.toList.set (off+k) v).drop (off+(k+1)+l.length)=cells.toList.drop (off+k+(l.length+1)):=by
   rw [List.drop_set_of_lt (by omega)]; congr 1; omega
  rw [e1,e2]; simp
theorem Vi (place:Nat→Option (Nat×Nat))(cells:Array Value)(i off size:Nat)(v:Value)(rest:List (Nat×Value))(hp:place i=some (off,size))(hs:v.cells.size=size)(hf:off+size≤cells.size) :
  Instr.fill place cells ((i,v)::rest)=Instr.fill place (cells.toList.take off++v.cells.toList++cells.toList.drop (off+size)).toArray rest:=by
 have e:v.cells.zipIdx.foldl (fun (cs:Array Value) (p:Value×Nat)=>cs.setIfInBounds (off+p.2) p.1) cells=(cells.toList.take off++v.cells.toList++cells.toList.drop (off+size)).toArray:=by
  apply Array.ext';have:=Up off v.cells.toList 0 cells (by simp; omega);simp only [Nat.add_zero,Array.length_toList,hs] at this;rw [← this,← Array.foldl_toList,Array.toList_zipIdx]
 rw [Instr.fill.eq_2];simp only [hp];rw [if_neg (by simp [hs]; omega),← e]
def N4 (P:Program):List Field→Option (List (Nat×Nat))
 | []=>some []
 | f::l=>match P.info? f.type with
  | some i=>match N4 P l with | some r=>some ((f.offset,i.size)::r) | none=>none
  | none=>none
def Aag (pl:List (Nat×Nat)):List Value→List (Nat×Value)→Option (List Value)
 | cells,[]=>some cells
 | cells,(i,v)::r=>match pl[i]? with
  | some (off,size)=>cond (Nat.beq v.cells.size size && Nat.ble (off+size) cells.length) (Aag pl (cells.take off++v.cells.toList++cells.drop (off+size)) r) none
  | none=>none
theorem Th (pl:List (Nat×Nat)):∀ (ps:List (Nat×Value)) (cells:List Value) (r:List Value),Aag pl cells ps=some r→Instr.fill (fun i=>pl[i]?) cells.toArray ps=some r.toArray
 | [],cells,r,h=>by simp [Aag] at h; simp [Instr.fill,h]
 | (i,v)::ps,cells,r,h=>by
  unfold Aag at h;split at h
  ·rename_i off size hp;cases hc:(Nat.beq v.cells.size size && Nat.ble (off+size) cells.length) with
   | false=>simp [hc] at h
   | true =>
    simp only [hc,cond_true] at h;simp only [Bool.and_eq_true] at hc;rw [Vi _ _ i off size v ps hp (Nat.eq_of_beq_eq_true hc.1) (by simpa using Nat.le_of_ble_eq_true hc.2)];exact Th pl ps _ r h
  ·cases h
theorem Tj {P:Program}{w:World}:∀ (l:List Field) (r:List (Nat×Nat)),N4 P l=some r→(l.mapM (fun f=>do pure (f.offset,← sizeOf f.type)):Sem (List (Nat×Nat))).run P w=.ok r w
 | [],r,h=>by simp [N4] at h; subst h; simp
 | f::l,r,h=>by
  unfold N4 at h;split at h
  ·rename_i i hi;split at h
   ·rename_i r' hr;simp at h; subst h;rw [List.mapM_cons];have ih:=Tj (P:=P) (w:=w) l r' hr;simp only [Sem.run_bind,sizeOf,typeInfo,run_program,Result.andThen_ok,hi,Sem.run_pure] at ih ⊢;rw [ih];rfl
   ·cases h
  ·cases h
end fill
end
section
variable {b:Blk}{g i:Nat}{l:List SV}{o:Oper}{t:TypeId}{x:SV}
variable [Ch]
def Y1:List SV→Option (List Value)
 | []=>some []
 | .v x::l=>match Y1 l with | some r=>some (x::r) | none=>none
 | _=>none
def J9 (P:Program)(t:TypeId):Option Bool :=
 match P.underlying t with
 | some (.struct _) | some (.array _ _)=>some true
 | some _=>some false
 | none=>none
def szB (P:Program)(t:TypeId):Option Nat:=match P.info? t with | some i=>some i.size | none=>none
def ldv (P:Program)(t:TypeId)(cells:List SV)(off:Nat):Option SV :=
 match J9 P t with
 | some true =>
  match szB P t with
  | some n=>match Y1 ((cells.drop off).take n) with
   | some l=>cond (Nat.beq l.length n) (some (.v (.agg l.toArray))) none
   | none=>none
  | none=>none
 | some false=>match cells[off]? with
  | some (.v x)=>some (.v x)
  | some (.p k o)=>some (.p k o)
  | _=>none
 | none=>none
def Ib:SV→Option (List SV)
 | .v x=>cond (x.cells.toList.all Be) (some (x.cells.toList.map .v)) none
 | .p k off=>some [.p k off]
 | .junk=>none
def Lk (l:List SV)(off:Nat)(r:List SV):List SV:=l.take off++r++l.drop (off+r.length)
def Lp (P:Program)(t:TypeId)(f:Nat):Option Nat :=
 match P.underlying t with
 | some (.struct fs)=>match fs[f]? with
  | some fd=>match szB P fd.type with
   | some (_+1)=>some fd.offset
   | _=>none
  | none=>none
 | _=>none
def Kg (s:S)(x:Operand):Value:=match s.ev x with | .v y=>y | _=>undef
def isV:SV→Bool | .v _=>true | _=>false
def Kq (s:S)(o:Op):Bool:=o.operands.toList.all fun x=>isV (s.ev x)
def pv (P:Program)(env:Operand→Value)(o:Op):Option Value :=
 match o with
 | .extract x i=>match env x with | .tuple vs=>vs[i]? | _=>none
 | .pick c a b=>match env c with | .bool true=>some (env a) | .bool false=>some (env b) | _=>none
 | .makeFunc fn first captured=>some (.func fn (first.map env) (captured.map env))
 | .unOp .not _ x=>match env x with | .bool b=>some (.bool !b) | _=>none
 | .convert src dst x=>match P.underlying src with
  | some .string=>match P.underlying dst with
   | some .string=>match env x with | .string y=>some (.string y) | _=>none
   | _=>none
  | _=>none
 | .call { callee:=.builtin .len,args:=args,argTypes:=ts } =>
  match args[0]?,ts[0]? with
  | some x,some t=>match P.underlying t with
   | some (.slice _)=>match env x with | .slice _ n _=>some (.int .i64 n) | _=>none
   | some .string=>match env x with | .string y=>some (.int .i64 y.size) | _=>none
   | _=>none
  | _,_=>none
 | .nilCheck x=>match env x with | .pointer (some a)=>some (.pointer (some a)) | _=>none
 | .build t ps=>match P.info? t with
  | some i=>match i.zero with
   | some z=>match P.underlying t with
    | some (.struct fs)=>match N4 P fs.toList with
     | some pl=>match Aag pl z.cells.toList (ps.toList.map fun (i,x)=>(i,env x)) with | some l=>some (.agg l.toArray) | none=>none
     | none=>none
    | _=>none
   | none=>none
  | none=>none
 | .field t x f=>match P.underlying t with
  | some (.struct fs)=>match fs[f]? with
   | some fd=>match J9 P fd.type with
    | some false=>match env x with | .agg cs=>cs[fd.offset]? | _=>none
    | some true=>match szB P fd.type with
     | some n=>match env x with | .agg cs=>some (.agg (cs.extract fd.offset (fd.offset+n))) | _=>none
     | none=>none
    | none=>none
   | none=>none
  | _=>none
 | _=>none
def eff (P:Program)(name:Nat)(s:S)(o:Op):Option (SV×Option (Nat×Blk)) :=
 match o with
 | .move x=>some (s.ev x,none)
 | .assign x=>some (s.ev x,none)
 | .alloc t=>match P.info? t with
  | some i=>match i.zero with
   | some z=>match s.hp name with
    | none=>match Ib (.v z) with
     | some l=>some (.p name 0,some (name,⟨t,l⟩))
     | none=>none
    | some _=>none
   | none=>none
  | none=>none
 | .box t x=>match s.hp name with
  | none=>match Ib (s.ev x) with
   | some l=>some (.p name 0,some (name,⟨t,l⟩))
   | none=>none
  | some _=>none
 | .load t x=>match s.ev x with
  | .p k off=>match s.hp k with
   | some b=>match ldv P t b.cells off with | some y=>some (y,none) | none=>none
   | none=>none
  | _=>none
 | .store t x y=>match s.ev x with
  | .p k off=>match s.hp k with
   | some b=>match Ib (s.ev y) with
    | some l=>match szB P t with
     | some n=>cond (Nat.beq l.length n && Nat.ble (off+n) b.cells.length) (some (.v undef,some (k,⟨b.t,Lk b.cells off l⟩))) none
     | none=>none
    | none=>none
   | none=>none
  | _=>none
 | .fieldAddr t x f=>match s.ev x with
  | .p k off=>match Lp P t f with | some fo=>some (.p k (off+fo),none) | none=>none
  | _=>none
 | o=>match Kq s o with
  | true=>match pv P (Kg s) o with | some y=>some (.v y,none) | none=>none
  | false=>none
section sound
variable {P:Program} {c:Cx} {s:S} {u m:PH} {ρ:Nat→Nat} {a:Act} {w:World}
theorem Vt:∀ {l:List SV} {r:List Value},Y1 l=some r→l=r.map .v
 | [],r,h=>by simp [Y1] at h; simp [h]
 | .v x::l,r,h=>by
  unfold Y1 at h;cases hl:Y1 l with
  | none=>simp [hl] at h
  | some r'=>simp [hl] at h; subst h; simp [← Vt hl]
 | .junk::l,r,h=>by simp [Y1] at h
 | .p k off::l,r,h=>by simp [Y1] at h
theorem Dj {b:Bool}(h:J9 P t=some b)(w:World):(isAgg t).run P w=.ok b w:=by
 unfold J9 at h;unfold isAgg;cases hd:P.underlying t with
 | none=>simp [hd] at h
 | some d=>simp only [Sem.run_bind,run_underlying hd,Result.andThen_ok]; cases d <;> simp_all
theorem Bf {n:Nat}(h:szB P t=some n)(w:World):(sizeOf t).run P w=.ok n w:=by
 unfold szB at h;unfold sizeOf typeInfo;cases hi:P.info? t with
 | none=>simp [hi] at h
 | some i=>simp [hi] at h ⊢; exact h
theorem Db (g off j:Nat):(⟨g,off,none⟩:Addr).add j=⟨g,off+j,none⟩:=by unfold Addr.add; split <;> simp_all
theorem Tl {o:Option Obj}(h:Aht ρ b o)(hg:w.heap[g]?=o)(hi:b.cells[i]?=some x)(hx:x≠.junk):w.cell? ⟨g,i,none⟩=some (x.den ρ):=by
 obtain ⟨cs,e,_,e3⟩:=h;simp [World.cell?,hg,e,e3 i x hi hx]
theorem Adu {g off:Nat}{y:SV}(h:Aht ρ b (w.heap[g]?))(hy:ldv P t b.cells off=some y) :
  (loadVar t ⟨g,off,none⟩).run P w=.ok (y.den ρ) w∧y≠.junk∧(∀ k o,y=.p k o→SV.p k o∈b.cells):=by
 unfold ldv at hy;unfold loadVar;split at hy
 ·rename_i ha;split at hy
  ·rename_i n hn;split at hy
   ·rename_i l hl;cases hlen:Nat.beq l.length n with
    | false=>simp [hlen] at hy
    | true =>
     simp [hlen] at hy;subst hy;have hln:l.length=n:=Nat.eq_of_beq_eq_true hlen;have hv:=Vt hl;have hcells:∀ j v,l[j]?=some v→w.cell? ((⟨g,off,none⟩:Addr).add j)=some v:=by
      intro j v hj;rw [Db];have h1:((b.cells.drop off).take n)[j]?=some (.v v):=by rw [hv]; simp [hj]
      rw [List.getElem?_take] at h1;split at h1
      ·rw [List.getElem?_drop] at h1;exact Tl h rfl h1 (by simp)
      ·cases h1
     have:=run_loadCells_list (P:=P) w ⟨g,off,none⟩ l hcells;refine ⟨?_,by simp,by simp⟩;simp only [Sem.run_bind,Dj ha,Result.andThen_ok,if_true,Bf hn];rw [← hln,this];rfl
   ·cases hy
  ·cases hy
 ·rename_i ha;split at hy
  ·rename_i x hx;simp at hy; subst hy;have:=Tl h rfl hx (by simp);exact ⟨by simp [Dj ha,this],by simp,by simp⟩
  ·rename_i k o hx;simp at hy; subst hy;have:=Tl h rfl hx (by simp);exact ⟨by simp [Dj ha,this],by simp,fun k' o' e=>by simp at e; obtain ⟨rfl,rfl⟩:=e; exact List.mem_of_getElem? hx⟩
  ·cases hy
 ·cases hy
theorem Ea (h:Ib x=some l)(ρ:Nat→Nat) :
  l.map (·.den ρ)=(x.den ρ).cells.toList∧(∀ y∈l,y≠.junk)∧(∀ v∈l.map (SV.den ρ),Be v=true)∧(∀ k o,SV.p k o∈l→x=.p k o)∧x≠.junk:=by
 cases x with
 | junk=>simp [Ib] at h
 | v x =>
  unfold Ib at h;cases hc:x.cells.toList.all Be with
  | false=>simp [hc] at h
  | true =>
   simp only [hc,cond_true,Option.some.injEq] at h;subst h;refine ⟨by simp [SV.den,Function.comp_def],by simp,?_,by simp,by simp⟩;intro v hv;simp [SV.den] at hv;rw [List.all_eq_true] at hc;exact hc v (by simpa using hv)
 | p k off =>
  simp [Ib] at h;subst h;refine ⟨by simp [SV.den,Value.cells],by simp,by simp [SV.den,Be],?_,by simp⟩;intro k' o' hm;simp at hm;rw [hm.1,hm.2]
theorem Af4 {v:List Value}(ρ:Nat→Nat)(h:l.map (·.den ρ)=v)(hi:l[i]?=some x):v.toArray[i]?=some (x.den ρ):=by
 subst h; simp [hi]
theorem Alr {l:List Value}(h:∀ v∈l,Be v=true)(j:Nat)(z:Int):l.toArray[j]?≠some (.int .u64 z):=by
 intro e;rw [List.getElem?_toArray] at e;exact If (h _ (List.mem_of_getElem? e)) z rfl
theorem R2 (t:TypeId)(v:Value):(newVar t v).run P w=.ok ⟨w.heap.size,0,none⟩ (w.alloc (.cells v.cells t)):=by
 simp [newVar,newRow,World.alloc_eq]
theorem Rel.box_new (h:Rel c s u m ρ a w){k:Nat}(hk:s.hp k=none)(hl:Ib x=some l)(hx:∀ j off,x=.p j off→s.hp j≠none)(t:TypeId){d:Option Nat}(hd:∀ e,d=some e→e < s.n) :
  ∃ ρ',Rel c ((s.put d (.p k 0)).setb (some (k,⟨t,l⟩))) u m ρ' (a.put d (.pointer (some ⟨w.heap.size,0,none⟩))) (w.alloc (.cells (x.den ρ).cells t)):=by
 obtain ⟨e1,e2,e3,e4,_⟩:=Ea hl ρ;have h1:=h.alloc (k:=k) (b:=⟨t,l⟩) (cs:=(x.den ρ).cells) hk (by rw [← Array.length_toList,← e1]; simp)
  (fun i y hi _=>by have:=Af4 ρ e1 hi; simpa using this) (fun j off hm=>hx j off (e4 j off hm))
  (fun j z=>by have:=Alr e3 j z; rw [e1] at this; simpa using this)
 refine ⟨fun j=>if j=k then w.heap.size else ρ j,?_⟩;rw [← N1];refine h1.put (fun _=>by simp [SV.den]) (fun j off e=>?_) (by rw [Pg]; exact hd);simp only [SV.p.injEq] at e;rw [← e.1,Bg]; simp
theorem Mv (h:Rel c s u m ρ a w)(hs:∀ cs b,o.op≠.select cs b)(hv:Kq s o.op=true):execOp a.eval o=execOp (Kg s) o:=by
 refine execOp_congr o hs fun x hx=>?_;unfold Kq at hv;rw [List.all_eq_true] at hv;have:=hv x (by simpa using hx);unfold isV at this;split at this
 ·rename_i y hy;rw [h.eval x (by rw [hy]; simp),hy]; simp [SV.den,Kg,hy]
 ·cases this
theorem Agg {env:Operand→Value}{y:Value}(h:pv P env o.op=some y)(w:World):(execOp env o).run P w=.ok (.value y) w:=by
 obtain ⟨dst,op,type,pos,after,guard⟩:=o;unfold pv at h;simp only at h;split at h
 ·rename_i x i;split at h
  ·rename_i vs hvs;simp [execOp,Instr.extract,hvs,h]
  ·cases h
 ·rename_i c x y';split at h
  ·rename_i hc; simp at h; subst h; simp [execOp,hc,asBool]
  ·rename_i hc; simp at h; subst h; simp [execOp,hc,asBool]
  ·cases h
 ·simp at h; subst h; simp [execOp,Instr.makeFunc]
 ·rename_i t x;split at h
  ·rename_i b hb; simp at h; subst h; simp [execOp,Op.unary,hb]
  ·cases h
 ·rename_i src dst' x;split at h
  ·rename_i h1;split at h
   ·rename_i h2;split at h
    ·rename_i z hz; simp at h; subst h; simp [execOp,convert,run_underlying h1,run_underlying h2,hz]
    ·cases h
   ·cases h
  ·cases h
 ·rename_i args ts;split at h
  ·rename_i x t hx ht;have hx':(args.map env)[0]?=some (env x):=by simp [hx]
   split at h
   ·rename_i e hu;split at h
    ·rename_i hz;simp at h; subst h;simp [execOp,resolve,invoke,builtin,Builtin.len_,hx',ht,run_underlying hu,hz,goInt]
    ·cases h
   ·rename_i hu;split at h
    ·rename_i hz;simp at h; subst h;simp [execOp,resolve,invoke,builtin,Builtin.len_,hx',ht,run_underlying hu,hz,goInt]
    ·cases h
   ·cases h
  ·cases h
 ·rename_i x;split at h
  ·rename_i z hz; simp at h; subst h; simp [execOp,hz]
  ·cases h
 ·rename_i t ps;split at h
  ·rename_i i hi;split at h
   ·rename_i z hz;split at h
    ·rename_i fs hu;split at h
     ·rename_i pl hpl;split at h
      ·rename_i l hl;simp at h; subst h;have h1:=Th pl _ _ _ hl;have h2:=Tj (w:=w) fs.toList pl hpl;have e:(ps.map fun (p:Nat×Operand)=>(p.1,env p.2)).toList=ps.toList.map fun (p:Nat×Operand)=>(p.1,env p.2):=by simp
       simp only [execOp,Instr.build,zeroValue,typeInfo,Sem.run_bind,Sem.run_map,run_program,Result.andThen_ok,hi,hz,Sem.run_pure,run_underlying hu];rw [← Array.toArray_toList (xs:=fs),List.mapM_toArray];simp only [Sem.run_map,h2,Result.andThen_ok,List.getElem?_toArray];simp only [Array.toArray_toList] at h1;rw [e,h1];rfl
      ·cases h
     ·cases h
    ·cases h
   ·cases h
  ·cases h
 ·rename_i t x f;split at h
  ·rename_i fs hu;split at h
   ·rename_i fd hf;split at h
    ·rename_i ha;split at h
     ·rename_i cs hx;simp [execOp,Instr.field,run_underlying hu,hf,asAgg,hx,part,Dj ha,h]
     ·cases h
    ·rename_i ha;split at h
     ·rename_i n hn;split at h
      ·rename_i cs hx;simp at h; subst h;simp [execOp,Instr.field,run_underlying hu,hf,asAgg,hx,part,Dj ha,Bf hn]
      ·cases h
     ·cases h
    ·cases h
   ·cases h
  ·cases h
 ·cases h
end sound
end
section
variable {l r:List SV}{off:Nat}{x:SV}
variable [Ch]
section sound
variable {P:Program} {c:Cx} {s:S} {u m:PH} {ρ:Nat→Nat} {a:Act} {w:World}
def Aph (P:Program)(a:Act)(o:Oper)(w:World)(y:Value)(w':World):Prop :=
 (execOp a.eval o).run P w=.ok (.value y) w'∨((execOp a.eval o).run P w=.ok .skip w'∧y=undef)
theorem Abi (l r:List SV)(off:Nat)(h:off+r.length≤l.length):(Lk l off r).length=l.length:=by
 unfold Lk; simp; omega
theorem Ss (h:x∈Lk l off r):x∈l∨x∈r:=by
 unfold Lk at h;rcases List.mem_append.1 h with h | h
 ·rcases List.mem_append.1 h with h | h
  ·exact .inl (List.mem_of_mem_take h)
  ·exact .inr h
 ·exact .inl (List.mem_of_mem_drop h)
theorem Aap (h:off+r.length≤l.length)(i:Nat):(Lk l off r)[i]?=if i < off then l[i]? else if i < off+r.length then r[i - off]? else l[i]?:=by
 unfold Lk;rw [List.append_assoc,List.getElem?_append];simp only [List.length_take,Nat.min_eq_left (show off≤l.length by omega)];split
 ·rw [List.getElem?_take,if_pos (by assumption)]
 ·rw [List.getElem?_append];by_cases h2:i < off+r.length
  ·rw [if_pos (by omega),if_pos h2]
  ·rw [if_neg (by omega),if_neg h2,List.getElem?_drop]; congr 1; omega
theorem Ada {cs:List Value}{r:List Value}(h:off+r.length≤cs.length)(i:Nat):(cs.take off++r++cs.drop (off+r.length))[i]?=if i < off then cs[i]? else if i < off+r.length then r[i - off]? else cs[i]?:=by
 rw [List.append_assoc,List.getElem?_append];simp only [List.length_take,Nat.min_eq_left (show off≤cs.length by omega)];split
 ·rw [List.getElem?_take,if_pos (by assumption)]
 ·rw [List.getElem?_append];by_cases h2:i < off+r.length
  ·rw [if_pos (by omega),if_pos h2]
  ·rw [if_neg (by omega),if_neg h2,List.getElem?_drop]; congr 1; omega
theorem Afn (h:Rel c s u m ρ a w){name:Nat}{o:Oper}{hw:Option (Nat×Blk)}(he:eff P name s o.op=some (x,hw))(hd:∀ e,o.dst=some e→e < s.n) :
  ∃ ρ' w' y,Aph P a o w y w'∧Rel c ((s.put o.dst x).setb hw) u m ρ' (a.put o.dst y) w':=by
 obtain ⟨dst,op,type,pos,after,guard⟩:=o;simp only at he hd ⊢;have mv:∀ z:Operand,∃ ρ' w' y,(Result.ok (Next.value (a.eval z)) w=Result.ok (Next.value y) w')∧Rel c (s.put dst (s.ev z)) u m ρ' (a.put dst y) w':=by
  intro z;refine ⟨ρ,w,a.eval z,rfl,h.put (fun hz=>h.eval z hz) (fun k off hz=>?_) hd⟩;cases z with
  | tmp t=>exact h.lv.1 t k off hz
  | const v=>cases hz
  | global g=>cases hz
  | func f=>cases hz
 have lvev:∀ (z:Operand) (k off:Nat),s.ev z=.p k off→s.hp k≠none:=by
  intro z k off hz;cases z with
  | tmp t=>exact h.lv.1 t k off hz
  | const v=>cases hz
  | global g=>cases hz
  | func f=>cases hz
 unfold eff at he;split at he
 ·rename_i z;simp only [Option.some.injEq,Prod.mk.injEq] at he;obtain ⟨rfl,rfl⟩:=he;obtain ⟨ρ',w',y,e,r⟩:=mv z;exact ⟨ρ',w',y,.inl (by simpa [execOp] using e),r⟩
 ·rename_i z;simp only [Option.some.injEq,Prod.mk.injEq] at he;obtain ⟨rfl,rfl⟩:=he;obtain ⟨ρ',w',y,e,r⟩:=mv z;exact ⟨ρ',w',y,.inl (by simpa [execOp] using e),r⟩
 ·rename_i t;split at he
  ·rename_i i hi;split at he
   ·rename_i z hz;split at he
    ·rename_i hn;split at he
     ·rename_i l hl;simp only [Option.some.injEq,Prod.mk.injEq] at he;obtain ⟨rfl,rfl⟩:=he;obtain ⟨ρ',r⟩:=h.box_new hn hl (by simp) t hd;refine ⟨ρ',_,_,.inl ?_,r⟩;simp [execOp,Instr.alloc,zeroValue,typeInfo,hi,hz,R2,SV.den]
     ·cases he
    ·cases he
   ·cases he
  ·cases he
 ·rename_i t z;split at he
  ·rename_i hn;split at he
   ·rename_i l hl;simp only [Option.some.injEq,Prod.mk.injEq] at he;obtain ⟨rfl,rfl⟩:=he;obtain ⟨ρ',r⟩:=h.box_new hn hl (fun j off hz=>lvev z j off hz) t hd;refine ⟨ρ',_,_,.inl ?_,r⟩;have hz:=h.eval z (Ea hl ρ).2.2.2.2;simp [execOp,Instr.box,R2,hz]
   ·cases he
  ·cases he
 ·rename_i t z;split at he
  ·rename_i k off hz;split at he
   ·rename_i b hb;split at he
    ·rename_i y hy;simp only [Option.some.injEq,Prod.mk.injEq] at he;obtain ⟨rfl,rfl⟩:=he;obtain ⟨h1,h2,h3⟩:=Adu (P:=P) (w:=w) (h.box k b hb).1 hy;have hzv:=h.eval z (by rw [hz]; simp);rw [hz] at hzv;refine ⟨ρ,w,y.den ρ,.inl ?_,h.put (fun _=>rfl) (fun k' o' e=>h.lv.2 k b k' o' hb (h3 k' o' e)) hd⟩;simp [execOp,Instr.loadAt,Instr.sureAddr,hzv,SV.den,h1]
    ·cases he
   ·cases he
  ·cases he
 ·rename_i t z y;split at he
  ·rename_i k off hz;split at he
   ·rename_i b hb;split at he
    ·rename_i l hl;split at he
     ·rename_i n hn;cases hc:(Nat.beq l.length n && Nat.ble (off+n) b.cells.length) with
      | false=>simp [hc] at he
      | true =>
       simp only [hc,cond_true,Option.some.injEq,Prod.mk.injEq] at he;obtain ⟨rfl,rfl⟩:=he;simp only [Bool.and_eq_true] at hc;have hln:l.length=n:=Nat.eq_of_beq_eq_true hc.1;have hle:off+n≤b.cells.length:=Nat.le_of_ble_eq_true hc.2;obtain ⟨e1,e2,e3,e4,e5⟩:=Ea hl ρ;have hzv:=h.eval z (by rw [hz]; simp);rw [hz] at hzv;have hyv:=h.eval y e5;obtain ⟨⟨cs,c1,c2,c3⟩,r0,r1,r2⟩:=h.box k b hb;have hvl:((s.ev y).den ρ).cells.toList.length=n:=by rw [← e1]; simpa using hln
       have hst:=run_storeCells_at P (ρ k) off b.t ((s.ev y).den ρ).cells.toList 0 cs w c1 (by omega) (fun v hv=>Hu (e3 v (by rw [e1]; exact hv)));have hfit:off+((s.ev y).den ρ).cells.toList.length≤cs.toList.length:=by simp at hvl ⊢; omega
       refine ⟨ρ,w.setRow (ρ k) (cs.toList.take off++((s.ev y).den ρ).cells.toList++cs.toList.drop (off+((s.ev y).den ρ).cells.toList.length)).toArray,undef,.inr ⟨?_,rfl⟩,?_⟩
       ·have hsz:((s.ev y).den ρ).cells.size=n:=by simpa using hvl
        have hzv':a.eval z=.pointer (some ⟨ρ k,off,none⟩):=hzv;simp only [execOp,Instr.storeAt,Instr.sureAddr,hzv',hyv,storeVar,Sem.run_bind,Sem.run_pure,Result.andThen_ok,Bf hn,hsz,ne_eq,not_true_eq_false,if_false];simp only [Nat.add_zero] at hst;simp [hst]
       ·rw [← N1];refine Rel.put (x:=.v undef) ?_ (fun _=>rfl) (by simp) (by rw [Pg]; exact hd);refine h.store (b':=⟨b.t,Lk b.cells off l⟩) hb rfl ?_ (fun i x hi hx=>?_) (fun j o hm=>?_) (fun j zz=>?_)
        ·simp only [List.size_toArray]; rw [Abi _ _ _ (by omega)];simp at hvl ⊢; omega
        ·rw [List.getElem?_toArray,Ada hfit];rw [Aap (by omega)] at hi;rw [hvl];rw [hln] at hi;split
         ·rename_i hlt;rw [if_pos hlt] at hi;have:=c3 i x hi hx;simpa using this
         ·rename_i hlt;rw [if_neg hlt] at hi;split
          ·rename_i hlt2;rw [if_pos hlt2] at hi;rw [← e1]; simp [hi]
          ·rename_i hlt2;rw [if_neg hlt2] at hi;have:=c3 i x hi hx;simpa using this
        ·rcases Ss hm with hm | hm
         ·exact h.lv.2 k b j o hb hm
         ·exact lvev y j o (e4 j o hm)
        ·intro e;rw [List.getElem?_toArray,Ada hfit] at e;have hnw:∀ (i:Nat),cs.toList[i]?≠some (Value.int .u64 zz):=fun i hi=>by
          have:=h.gd.cl (ρ k) cs b.t (0,0) i zz c1 (by simpa using hi);rw [r1] at this; cases this
         split at e
         ·exact hnw _ e
         ·split at e
          ·exact If (e3 _ (by rw [e1]; exact List.mem_of_getElem? e)) zz rfl
          ·exact hnw _ e
     ·cases he
    ·cases he
   ·cases he
  ·cases he
 ·rename_i t z f;split at he
  ·rename_i k off hz;split at he
   ·rename_i fo hf;simp only [Option.some.injEq,Prod.mk.injEq] at he;obtain ⟨rfl,rfl⟩:=he;have hzv:=h.eval z (by rw [hz]; simp);rw [hz] at hzv;refine ⟨ρ,w,_,.inl ?_,h.put (y:=.pointer (some ⟨ρ k,off+fo,none⟩)) (fun _=>rfl) (fun k' o' e=>?_) hd⟩
    ·unfold Lp at hf;split at hf
     ·rename_i fs hfs;split at hf
      ·rename_i fd hfd;split at hf
       ·rename_i n hn;simp only [Option.some.injEq] at hf;subst hf;simp [execOp,Instr.fieldAt,run_underlying hfs,hfd,Instr.sureAddr,hzv,SV.den,fieldPlace,Bf hn,Db]
       ·cases hf
      ·cases hf
     ·cases hf
    ·simp only [SV.p.injEq] at e;rw [← e.1]; exact lvev z k off hz
   ·cases he
  ·cases he
 ·rename_i hn1 hn2 hn3 hn4 hn5 hn6 hn7;split at he
  ·rename_i hall;split at he
   ·rename_i y hy;simp only [Option.some.injEq,Prod.mk.injEq] at he;obtain ⟨rfl,rfl⟩:=he;refine ⟨ρ,w,y,.inl ?_,h.put (fun _=>rfl) (by simp) hd⟩;rw [Mv (o:=⟨dst,op,type,pos,after,guard⟩) h (fun cs b hsel=>?_) hall]
    ·exact Agg (o:=⟨dst,op,type,pos,after,guard⟩) hy w
    ·simp only at hsel; subst hsel; simp [pv] at hy
   ·cases he
  ·cases he
end sound
end
section
variable {a:Act}{d:Option Nat}{hw:Option (Nat×Blk)}{i name y:Nat}{m u:PH}{o:Oper}{s s':S}{w:World}{x:SV}{z:Operand}{ρ:Nat→Nat}
variable [Ch]
def gv (s:S)(ops:Array Oper)(o:Oper):Option Bool :=
 match o.guard with
 | none=>some true
 | some (j,want)=>match ops[j]? with
  | some oj=>match oj.dst with
   | some d=>match s.tm d with
    | .v (.bool b)=>some (b == want)
    | .v (.tuple _)=>some false
    | _=>none
   | none=>none
  | none=>none
def Fu (s:S)(o:Oper):Bool:=match o.dst with | none=>true | some d=>Nat.blt d s.n
def Alc (d:TypeId):Bool:=Nat.beq d 3
def Dy:Op→Bool
 | .convert _ d _=>Alc d
 | .move _ | .assign _ | .pick .. | .alloc _ | .box .. | .build .. | .load .. | .nilCheck _ | .binOp .. | .unOp .. | .fieldAddr .. | .field .. | .indexAddr .. | .index .. | .slice .. | .extract .. | .makeFunc .. | .makeInterface ..=>true
 | .lookup ..=>true
 | .call { callee:=.builtin .len,.. } | .call { callee:=.builtin .cap,.. } | .call { callee:=.builtin .max,.. } | .call { callee:=.builtin .min,.. }=>true
 | _=>false
def F8:Op→Bool
 | .convert _ d _=>!Alc d
 | .load .. | .lookup ..=>true
 | _=>false
def Kj:Op→Bool
 | .store ..=>true
 | .call { callee:=.builtin .append,.. } | .call { callee:=.builtin .copy,.. }=>true
 | _=>false
def bef (ops:Array Oper):Nat→Nat→Nat→Bool
 | 0,_,_=>false
 | f+1,i,x=>match ops[i]? with
  | some o=>o.after.toList.any fun e=>Region.binds .any e && (Nat.beq e.on x || bef ops f e.on x)
  | none=>false
def Apz:Op→Bool
 | .call { callee:=.value _,.. }=>true
 | .mapUpdate .. | .insert ..=>true
 | _=>false
def Aps (ops:Array Oper)(y:Nat):Bool:=(List.range ops.size).all fun x=>Nat.beq x y || bef ops ops.size y x
def Ot (ops:Array Oper)(y:Nat)(o:Op):Bool:=Kj o || (Apz o && Aps ops y)
theorem Afq {ops:Array Oper}{o:Op}(h:Kj o=true):Ot ops y o=true:=by unfold Ot; rw [h]; rfl
theorem Aic {ops:Array Oper}{o:Op}(h:Ot ops y o=false):Kj o=false:=by
 unfold Ot at h;cases hm:Kj o with
 | true=>rw [hm] at h; simp at h
 | false=>rfl
def Md (ops:Array Oper)(t:Nat):Bool:=ops.toList.all fun o=>match o.dst with | some d=>!Nat.beq d t | none=>true
def isP:SV→Bool
 | .p _ _=>true
 | _=>false
def faB (ops:Array Oper)(s:S)(o:Oper):Bool:=o.guard.isNone && match o.op with
 | .fieldAddr _ (.tmp b) _=>Md ops b && isP (s.tm b)
 | _=>false
def wrB (t:Nat)(o:Oper):Bool:=match o.dst with | some d=>Nat.beq d t | none=>false
def T9 (ops:Array Oper)(s:S)(t:Nat):Bool:=ops.toList.any (wrB t) && ops.toList.all fun o=>!wrB t o || faB ops s o
def X8 (ops:Array Oper)(s:S)(o:Oper):Bool:=match o.op with
 | .load _ (.tmp t)=>(Md ops t && isP (s.tm t)) || T9 ops s t
 | _=>false
def Kd (ops:Array Oper)(s:S):Bool:=ops.toList.all fun o=>!F8 o.op || X8 ops s o
def Eb:Op→Bool
 | .alloc _ | .box ..=>true
 | _=>false
def K8:Op→Bool
 | .select ..=>false
 | _=>true
theorem I3 {o:Op}(h:K8 o=true)(cs:Array SelectCase)(b:Bool):o≠.select cs b:=by rintro rfl; simp [K8] at h
def D5 (P:Program)(env:Operand→Value)(o:Oper)(w:World)(K:Value→World→Prop):Prop :=
 match (execOp env o).run P w with
 | .ok (.value v) w'=>K v w'
 | .ok .skip w'=>K undef w'
 | .ok (.enter f args) w'=>Calls P f args w' fun e w''=>∃ v,e=.returned v∧K v w''
 | _=>False
inductive Ob (P:Program)(id:Nat)(ops:Array Oper)(dr:Bool)(Fin:S→PH→PH→Prop):List Nat→S→PH→PH→Prop
 | nil {s:S} {u m:PH}:Fin s u m→Ob P id ops dr Fin [] s u m
 | auto {i:Nat} {l:List Nat} {s:S} {u m:PH} {o:Oper} {x:SV} {hw:Option (Nat×Blk)}:ops[i]?=some o→gv s ops o=some true→Fu s o=true→eff P (id*1000+i) s o.op=some (x,hw) →
   Ob P id ops dr Fin l ((s.put o.dst x).setb hw) u m→Ob P id ops dr Fin (i::l) s u m
 | skip {i:Nat} {l:List Nat} {s:S} {u m:PH} {o:Oper}:ops[i]?=some o→gv s ops o=some false→Fu s o=true →
   Ob P id ops dr Fin l (s.put o.dst (.v undef)) u m→Ob P id ops dr Fin (i::l) s u m
 | ask {i:Nat} {l:List Nat} {s:S} {u m:PH} {o:Oper} {v:Value}:ops[i]?=some o→gv s ops o=some true→Fu s o=true→Kq s o.op=true→K8 o.op=true→Eb o.op=false →
   (∀ w,(F8 o.op=true→D7 u w∧D7 m w)→(execOp (Kg s) o).run P w=.ok (.value v) w) →
   Ob P id ops dr Fin l (s.put o.dst (.v v)) u m→Ob P id ops dr Fin (i::l) s u m
 | big {i:Nat} {l:List Nat} {s:S} {u m:PH} {o:Oper} {K:Value→PH→PH→Prop}:ops[i]?=some o→gv s ops o=some true→Fu s o=true→Kq s o.op=true→K8 o.op=true→Dy o.op=false →
   (∀ v u' m',K v u' m'→PH.le m m'∨dr=false∨Ot ops i o.op=true∨Kd ops s=true) →
   (∀ w,Bw u m w→D5 P (Kg s) o w fun v w'=>∃ u' m',Bw u' m' w'∧Bz u m w u' m' w'∧K v u' m') →
   (∀ v u' m',PH.le u u'→K v u' m'→Ob P id ops dr Fin l (s.put o.dst (.v v)) u' m')→Ob P id ops dr Fin (i::l) s u m
section sound
variable {P:Program} {id:Nat} {ops:Array Oper} {dr:Bool} {Fin:S→PH→PH→Prop} {c:Cx} {Q:Exit→Act→World→Prop}
theorem Lu (h:Rel c s u m ρ a w){b:Bool}(hg:gv s ops o=some b):Region.wanted o (yielded ops a.tmps)=b:=by
 unfold gv at hg;unfold Region.wanted;split at hg
 ·rename_i e; rw [e]; simpa using hg
 ·rename_i j want e;rw [e];split at hg
  ·rename_i oj hj;split at hg
   ·rename_i d hd;split at hg
    ·rename_i b' hb;have:=h.tm d (by rw [hb]; simp);rw [hb] at this;simp [yielded,hj,hd,this,SV.den] at hg ⊢;exact hg
    ·rename_i vs hb;have:=h.tm d (by rw [hb]; simp);rw [hb] at this;simp only [Option.some.injEq] at hg;subst hg;simp [yielded,hj,hd,this,SV.den]
    ·cases hg
   ·cases hg
  ·cases hg
theorem Wt (h:Fu s o=true):∀ e,o.dst=some e→e < s.n:=by
 intro e he;unfold Fu at h;rw [he] at h;exact Nat.blt_eq ▸ h
theorem Vc {w w':World}{y:Value}{K:Act→World→Prop}(h:Aph P a o w y w')(hk:K (a.put o.dst y) w'):o.wp P a w K Q:=by
 unfold Oper.wp;rcases h with h | ⟨h,rfl⟩ <;> rw [h] <;> exact hk
theorem Vj {ops:Array Oper}(h:∀ t,Md ops t=true→s'.tm t=s.tm t)(o:Oper):faB ops s' o=faB ops s o:=by
 unfold faB;split
 ·rename_i b f hop;cases hn:Md ops b with
  | false=>rfl
  | true=>rw [h b hn]
 ·rfl
theorem Ka {ops:Array Oper}(h:∀ t,Md ops t=true→s'.tm t=s.tm t)(t:Nat):T9 ops s' t=T9 ops s t:=by
 unfold T9;simp only [Vj h]
theorem Aaw {ops:Array Oper}(h:∀ t,Md ops t=true→s'.tm t=s.tm t)(o:Oper):X8 ops s' o=X8 ops s o:=by
 unfold X8;split
 ·rename_i t' t hop;rw [Ka h];cases hn:Md ops t with
  | false=>rfl
  | true=>rw [h t hn]
 ·rfl
theorem W5 {ops:Array Oper}(h:∀ t,Md ops t=true→s'.tm t=s.tm t):Kd ops s'=Kd ops s:=by
 unfold Kd;simp only [Aaw h]
def ixB (o:Oper):Bool:=match o.op with
 | .indexAddr ..=>true
 | _=>false
def alB (ops:Array Oper)(t:Nat):Bool:=ops.toList.all fun o=>!wrB t o || (Eb o.op && o.guard.isNone)
def Aet (ops:Array Oper)(s:S)(t:Nat):Bool:=ops.toList.all fun o=>!wrB t o || ixB o || faB ops s o
theorem Abc {ops:Array Oper}(h:∀ t,Md ops t=true→s'.tm t=s.tm t)(t:Nat):Aet ops s' t=Aet ops s t:=by
 unfold Aet;simp only [Vj h]
structure Ei (ops:Array Oper)(s s':S):Prop where
 eq:∀ t,Md ops t=true→s'.tm t=s.tm t
 pt:∀ t,T9 ops s t=true→isV (s.tm t)=false→isV (s'.tm t)=false
 nw:∀ t,alB ops t=true→isV (s.tm t)=false→isV (s'.tm t)=false
 ol:∀ t k off,Aet ops s t=true→s'.tm t=.p k off→s.tm t=.p k off∨∃ b off',Md ops b=true∧s.tm b=.p k off'
 fr:∀ t k off,alB ops t=true→s'.tm t=.p k off→s.tm t=.p k off∨s.hp k=none
 hm:∀ k,s.hp k≠none→s'.hp k≠none
theorem Ei.refl (ops:Array Oper)(s:S):Ei ops s s:=⟨fun _ _=>rfl,fun _ _ h=>h,fun _ _ h=>h,fun _ _ _ _ h=>.inl h,fun _ _ _ _ h=>.inl h,fun _ h=>h⟩
theorem Ei.trans {ops : Array Oper} {s s' s'' : S} (h : Ei ops s s') (h' : Ei ops s' s'') : Ei ops s s'' :=
  ⟨fun t ht => (h'.eq t ht).trans (h.eq t ht), fun t ht hv => h'.pt t (by rw [Ka h.eq]; exact ht) (h.pt t ht hv), fun t ht hv => h'.nw t ht (h.nw t ht hv),
   fun t k off ht hp => by
    rcases h'.ol t k off (by rw [Abc h.eq]; exact ht) hp with e | ⟨b, o2, e1, e2⟩
    · exact h.ol t k off ht e
    · exact .inr ⟨b, o2, e1, by rw [← h.eq b e1]; exact e2⟩,
   fun t k off ht hp => by
    rcases h'.fr t k off ht hp with e | e
    · exact h.fr t k off ht e
    · refine .inr (Classical.byContradiction fun hn => h.hm k hn e), fun k hk => h'.hm k (h.hm k hk)⟩
structure Fit (ops:Array Oper)(s:S)(o:Oper)(x:SV):Prop where
 fa:faB ops s o=true→isV x=false
 al:Eb o.op=true→o.guard.isNone=true→isV x=false
 ol:ixB o=true∨faB ops s o=true→∀ k off,x=.p k off→∃ b off',Md ops b=true∧s.tm b=.p k off'
 fr:Eb o.op=true→∀ k off,x=.p k off→s.hp k=none
theorem Wc {ops:Array Oper}(ho:ops[i]?=some o):o∈ops.toList:=by obtain ⟨hlt,rfl⟩:=Array.getElem?_eq_some_iff.1 ho; simp
theorem E4 (ho:ops[i]?=some o)(x:SV)(hw:Option (Nat×Blk))(hx:Fit ops s o x):Ei ops s ((s.put o.dst x).setb hw):=by
 have wr:∀ {t:Nat} {q:Oper→Bool},(ops.toList.all fun o=>!wrB t o || q o)=true→o.dst=some t→q o=true:=fun {t q} ht hd=>by
  rw [List.all_eq_true] at ht;have:=ht o (Wc ho);have hwr:wrB t o=true:=by unfold wrB; rw [hd]; simp
  rw [hwr] at this;simpa using this
 refine ⟨fun t ht=>?_,fun t ht hv=>?_,fun t ht hv=>?_,fun t k off ht hp=>?_,fun t k off ht hp=>?_,fun k hk=>?_⟩
 ·rw [Ec,Eq];intro hd;unfold Md at ht;rw [List.all_eq_true] at ht;have:=ht o (Wc ho);rw [hd] at this;simp at this
 ·rw [Ec];by_cases hd:o.dst=some t
  ·rw [hd,B2];unfold T9 at ht;rw [Bool.and_eq_true] at ht;exact hx.fa (wr ht.2 hd)
  ·rw [Eq s _ _ hd]; exact hv
 ·rw [Ec];by_cases hd:o.dst=some t
  ·rw [hd,B2];have:=wr ht hd;rw [Bool.and_eq_true] at this;exact hx.al this.1 this.2
  ·rw [Eq s _ _ hd]; exact hv
 ·rw [Ec] at hp;by_cases hd:o.dst=some t
  ·rw [hd,B2] at hp;have ht':(ops.toList.all fun o=>!wrB t o || (ixB o || faB ops s o))=true:=by unfold Aet at ht; simpa only [Bool.or_assoc] using ht
   have:=wr ht' hd;rw [Bool.or_eq_true] at this;exact .inr (hx.ol this k off hp)
  ·rw [Eq s _ _ hd] at hp; exact .inl hp
 ·rw [Ec] at hp;by_cases hd:o.dst=some t
  ·rw [hd,B2] at hp;have:=wr ht hd;rw [Bool.and_eq_true] at this;exact .inr (hx.fr this.1 k off hp)
  ·rw [Eq s _ _ hd] at hp; exact .inl hp
 ·rcases hw with _ | ⟨j,b⟩
  ·show (s.put o.dst x).hp k≠none; rw [Ct]; exact hk
  ·by_cases e:k=j
   ·subst e; rw [Bg]; simp
   ·rw [A5 _ _ _ e,Ct]; exact hk
theorem W1 (h:faB ops s o=true):o.guard=none∧∃ T b f,o.op=.fieldAddr T (.tmp b) f∧isP (s.tm b)=true:=by
 unfold faB at h;rw [Bool.and_eq_true] at h;obtain ⟨h1,h2⟩:=h;refine ⟨by simpa using h1,?_⟩;split at h2
 ·rename_i T b f hop;rw [Bool.and_eq_true] at h2;exact ⟨_,_,_,hop,h2.2⟩
 ·cases h2
theorem Al2 (he:eff P name s o.op=some (x,hw))(h:faB ops s o=true):isV x=false:=by
 obtain ⟨_,T,b,f,hop,hp⟩:=W1 h;rw [hop] at he;unfold eff at he;simp only [show s.ev (.tmp b)=s.tm b from rfl] at he;cases hb:s.tm b with
 | junk=>rw [hb] at hp; cases hp
 | v y=>rw [hb] at hp; cases hp
 | p k off =>
  rw [hb] at he;simp only at he;split at he
  ·simp only [Option.some.injEq,Prod.mk.injEq] at he;rw [← he.1]; rfl
  ·cases he
theorem Al8 (hg:gv s ops o=some false)(h:faB ops s o=true):False:=by
 obtain ⟨h1,_⟩:=W1 h;unfold gv at hg;rw [h1] at hg;simp at hg
theorem Akg (hv:Kq s o.op=true)(h:faB ops s o=true):False:=by
 obtain ⟨_,T,b,f,hop,hp⟩:=W1 h;unfold Kq at hv;rw [List.all_eq_true] at hv;have:=hv (.tmp b) (by rw [hop]; simp [Op.operands]);rw [show s.ev (.tmp b)=s.tm b from rfl] at this;cases hb:s.tm b with
 | junk=>rw [hb] at hp; cases hp
 | v y=>rw [hb] at hp; cases hp
 | p k off=>rw [hb] at this; cases this
theorem Ai4 {o:Op}(he:eff P name s o=some (x,hw))(ha:Eb o=true):x=.p name 0∧s.hp name=none:=by
 unfold Eb at ha;split at ha
 ·unfold eff at he;simp only at he;split at he
  ·split at he
   ·split at he
    ·rename_i hn;split at he
     ·simp at he; exact ⟨he.1.symm,hn⟩
     ·cases he
    ·cases he
   ·cases he
  ·cases he
 ·unfold eff at he;simp only at he;split at he
  ·rename_i hn;split at he
   ·simp at he; exact ⟨he.1.symm,hn⟩
   ·cases he
  ·cases he
 ·cases ha
theorem Fit.auto (he:eff P name s o.op=some (x,hw)):Fit ops s o x:=by
 refine ⟨Al2 he,fun ha _=>by rw [(Ai4 he ha).1]; rfl,fun h k off hx=>?_,fun ha k off hx=>?_⟩
 ·subst hx;rcases h with h | h
  ·unfold ixB at h;split at h
   ·rename_i t a b hop;rw [hop] at he;unfold eff at he;simp only at he;split at he
    ·split at he
     ·simp at he
     ·cases he
    ·cases he
   ·cases h
  ·have h0:=h;unfold faB at h;rw [Bool.and_eq_true] at h;obtain ⟨_,h⟩:=h;split at h
   ·rename_i T b f hop;rw [Bool.and_eq_true] at h;rw [hop] at he;unfold eff at he;simp only [show s.ev (.tmp b)=s.tm b from rfl] at he;cases hb:s.tm b with
    | junk=>rw [hb] at he; cases he
    | v y=>rw [hb] at he; cases he
    | p k' off' =>
     rw [hb] at he;simp only at he;split at he
     ·simp at he;exact ⟨b,off',h.1,by rw [hb,he.1.1]⟩
     ·cases he
   ·cases h
 ·obtain ⟨e1,e2⟩:=Ai4 he ha;rw [e1] at hx;cases hx;exact e2
theorem Fit.skip (hg:gv s ops o=some false):Fit ops s o (.v undef) :=
 ⟨fun h=>(Al8 hg h).elim,fun _ h=>by
  unfold gv at hg;rw [show o.guard=none by simpa using h] at hg;simp at hg,fun _ k off e=>(by cases e),fun _ k off e=>(by cases e)⟩
theorem Fit.val (hv:Kq s o.op=true)(ha:Eb o.op=false)(y:Value):Fit ops s o (.v y) :=
 ⟨fun h=>(Akg hv h).elim,fun h=>(by rw [ha] at h; cases h),fun _ k off e=>(by cases e),fun _ k off e=>(by cases e)⟩
theorem Ado {o:Op}(h:Dy o=false):Eb o=false:=by
 cases o <;> first | rfl | (simp [Dy] at h)
theorem Ob.step {l:List Nat}(h:Ob P id ops dr Fin (i::l) s u m)(hr:Rel c s u m ρ a w) :
  wpOp P ops Q i (fun a' w'=>∃ s' u' m' ρ',Rel c s' u' m' ρ' a' w'∧Ei ops s s'∧Ob P id ops dr Fin l s' u' m') a w:=by
 cases h with
 | auto ho hg hd he hl =>
  simp only [wpOp,ho,Lu hr hg,if_true];obtain ⟨ρ',w',y,h1,h2⟩:=Afn (P:=P) hr he (Wt hd);exact .inl (Vc h1 ⟨_,_,_,_,h2,E4 ho _ _ (Fit.auto he),hl⟩)
 | skip ho hg hd hl =>
  simp only [wpOp,ho,Lu hr hg,if_false,Bool.false_eq_true];exact ⟨_,_,_,_,hr.put (x:=.v undef) (fun _=>rfl) (by simp) (Wt hd),E4 ho _ none (Fit.skip hg),hl⟩
 | ask ho hg hd hv hs hal hw hl =>
  simp only [wpOp,ho,Lu hr hg,if_true];refine .inl (Vc (.inl ?_) ⟨_,_,_,_,hr.put (fun _=>rfl) (by simp) (Wt hd),E4 ho _ none (Fit.val hv hal _),hl⟩);rw [Mv hr (I3 hs) hv];exact hw w (fun _=>⟨hr.gd.pu,hr.gd.pm⟩)
 | big ho hg hd hv hs hf hk hw hl =>
  rename_i o K;simp only [wpOp,ho,Lu hr hg,if_true];refine .inl ?_;have h1:=hw w hr.gd;have fin:∀ v w',(∃ u' m',Bw u' m' w'∧Bz u m w u' m' w'∧K v u' m')→∃ s' u' m' ρ',Rel c s' u' m' ρ' (a.put o.dst v) w'∧Ei ops s s'∧Ob P id ops dr Fin l s' u' m':=by
   rintro v w' ⟨u',m',g1,g2,g3⟩;refine ⟨_,u',m',ρ,?_,E4 ho _ none (Fit.val hv (Ado hf) _),hl v u' m' (g2.le hr.gd.pu) g3⟩;refine Rel.put (x:=.v v) ?_ (fun _=>rfl) (by simp) (Wt hd);refine ⟨hr.sz,hr.tm,hr.df.of fun r e _ hu hm=>⟨by rw [g2.old _ (Bu e) hm]; exact e,by rw [g2.us _ (Bu e)]; exact hu,g2.ms _ (Bu e) hm⟩,fun k b hb=>?_,hr.inj,hr.lv,g1,hr.gr.trans g2⟩;obtain ⟨e1,e2,e3,e4⟩:=hr.box k b hb;have hlt:ρ k < w.heap.size:=by obtain ⟨cs,e,_⟩:=e1; exact Bu e
   refine ⟨?_,e2,?_,?_⟩
   ·rw [g2.old _ hlt e4]; exact e1
   ·rw [g2.us _ hlt]; exact e3
   ·exact g2.ms _ hlt e4
  unfold D5 at h1;unfold Oper.wp;rw [Mv hr (I3 hs) hv];split at h1
  ·rename_i v w' e; rw [e]; exact fin _ _ h1
  ·rename_i w' e; rw [e]; exact fin _ _ h1
  ·rename_i f args w' e;rw [e];refine Calls.mono h1 fun e' w'' he=>?_;obtain ⟨v,rfl,h2⟩:=he;exact fin _ _ h2
  ·exact h1.elim
theorem Ob.wpOps (hF:∀ s u m ρ a w,Fin s u m→Rel c s u m ρ a w→Q .normal a w):∀ {l:List Nat} {s:S} {u m:PH} {ρ:Nat→Nat} {a:Act} {w:World},Ob P id ops dr Fin l s u m→Rel c s u m ρ a w→Go.wpOps P ops Q l a w
 | [],s,u,m,ρ,a,w,h,hr=>by
  cases h with
  | nil h=>exact hF _ _ _ _ _ _ h hr
 | i::l,s,u,m,ρ,a,w,h,hr=>by
  rw [wpOps_cons];refine wpOp_mono (fun a' w' ⟨s',u',m',ρ',h1,_,h2⟩=>?_) (h.step (Q:=Q) hr);exact Ob.wpOps hF h2 h1
theorem Anw (h:∀ e,d=some e→z≠.tmp e):(s.put d x).ev z=s.ev z:=by
 cases z with
 | tmp t=>exact Eq s d x (fun e=>h t e rfl)
 | _=>rfl
theorem Aks {w:Option (Nat×Blk)}:(s.setb w).ev z=s.ev z:=by
 cases z with
 | tmp t=>show (s.setb w).tm t=s.tm t; rw [Ec]
 | _=>rfl
theorem Tu {w:Option (Nat×Blk)}(h:∀ e,d=some e→e∉o.looksAt ops)(hz:z∈o.op.operands):((s.put d x).setb w).ev z=s.ev z:=by
 rw [Aks];refine Anw fun e he hze=>h e he ?_;subst hze;exact List.mem_append_left _ (List.mem_filterMap.2 ⟨.tmp e,by simpa using hz,rfl⟩)
theorem Sk {w:Option (Nat×Blk)}(h:∀ e,d=some e→e∉o.looksAt ops):gv ((s.put d x).setb w) ops o=gv s ops o:=by
 unfold gv;cases hg:o.guard with
 | none=>rfl
 | some p =>
  obtain ⟨j,want⟩:=p;simp only;cases hj:ops[j]? with
  | none=>rfl
  | some oj =>
   simp only;cases hd:oj.dst with
   | none=>rfl
   | some e =>
    simp only;rw [Ec,Eq s d x (fun he=>h e he (by simp [Oper.looksAt,hg,hj,hd]))]
theorem H8 {o:Op}(h:∀ z∈o.operands,s'.ev z=s.ev z):∀ z∈o.operands,Kg s' z=Kg s z:=fun z hz=>by unfold Kg; rw [h z hz]
theorem Fx {o:Op}(h:∀ z∈o.operands,s'.ev z=s.ev z):Kq s' o=Kq s o:=by
 unfold Kq;rw [Bool.eq_iff_iff,List.all_eq_true,List.all_eq_true];constructor
 ·intro k z hz; have:=k z hz; rw [h z (by simpa using hz)] at this; exact this
 ·intro k z hz; rw [h z (by simpa using hz)]; exact k z hz
theorem Ag8 {e e':Operand→Value}{o:Op}(h:∀ z∈o.operands,e' z=e z):pv P e' o=pv P e o:=by
 unfold pv;split
 ·rename_i x i; rw [h x (by simp [Op.operands])]
 ·rename_i c x y; rw [h c (by simp [Op.operands]),h x (by simp [Op.operands]),h y (by simp [Op.operands])]
 ·rename_i fn first captured
  rw [Array.map_congr_left (xs:=first) fun x hx=>h x (by simp [Op.operands,hx]),Array.map_congr_left (xs:=captured) fun x hx=>h x (by simp [Op.operands,hx])]
 ·rename_i t x; rw [h x (by simp [Op.operands])]
 ·rename_i src dst x; rw [h x (by simp [Op.operands])]
 ·rename_i args ts;cases hx:args[0]? with
  | none=>rfl
  | some x =>
   have:x∈args:=by obtain ⟨hlt,rfl⟩:=Array.getElem?_eq_some_iff.1 hx; exact Array.getElem_mem hlt
   cases ht:ts[0]? with
   | none=>rfl
   | some t=>simp only; rw [h x (by simp [Op.operands,Call.operands,this])]
 ·rename_i x; rw [h x (by simp [Op.operands])]
 ·rename_i t ps;have:(ps.toList.map fun (p:Nat×Operand)=>(p.1,e' p.2))=ps.toList.map fun (p:Nat×Operand)=>(p.1,e p.2):=List.map_congr_left fun p hp=>by
   rw [h p.2 (by simp only [Op.operands,List.mem_toArray,List.mem_map]; exact ⟨p,hp,rfl⟩)]
  rw [this]
 ·rename_i t x f; rw [h x (by simp [Op.operands])]
 ·rfl
theorem Um {s s':S}{name:Nat}{o:Op}(h:∀ z∈o.operands,s'.ev z=s.ev z)(hn:Eb o=true→s'.hp name=s.hp name)
  (hp:(F8 o=true∨Kj o=true)→∀ z∈o.operands,∀ k off,s.ev z=.p k off→s'.hp k=s.hp k):eff P name s' o=eff P name s o:=by
 unfold eff;split
 ·rename_i x; rw [h x (by simp [Op.operands])]
 ·rename_i x; rw [h x (by simp [Op.operands])]
 ·rw [hn rfl]
 ·rename_i t x; rw [hn rfl,h x (by simp [Op.operands])]
 ·rename_i t x;rw [h x (by simp [Op.operands])];split
  ·rename_i k off hk; rw [hp (.inl rfl) x (by simp [Op.operands]) k off hk]
  ·rfl
 ·rename_i t x y;rw [h x (by simp [Op.operands]),h y (by simp [Op.operands])];split
  ·rename_i k off hk; rw [hp (.inr rfl) x (by simp [Op.operands]) k off hk]
  ·rfl
 ·rename_i t x f; rw [h x (by simp [Op.operands])]
 ·rw [Fx h,Ag8 (H8 h)]
end sound
end
section
variable {hw:Option (Nat×Blk)}{name:Nat}{o:Op}{s:S}{x:SV}
variable [Ch]
section swap
variable {P:Program} {id:Nat} {ops:Array Oper} {dr:Bool} {Fin:S→PH→PH→Prop}
theorem Nm {k:Nat}{b:Blk}(h:eff P name s o=some (x,some (k,b))) :
  (k=name∧s.hp name=none∧Kj o=false∧F8 o=false)∨(Kj o=true∧s.hp k≠none∧∃ z∈o.operands,∃ off,s.ev z=.p k off):=by
 unfold eff at h;split at h
 ·simp at h
 ·simp at h
 ·split at h
  ·split at h
   ·split at h
    ·split at h
     ·simp at h; exact .inl ⟨h.2.1.symm,by assumption,rfl,rfl⟩
     ·cases h
    ·cases h
   ·cases h
  ·cases h
 ·split at h
  ·split at h
   ·simp at h; exact .inl ⟨h.2.1.symm,by assumption,rfl,rfl⟩
   ·cases h
  ·cases h
 ·split at h
  ·split at h
   ·split at h <;> simp at h
   ·cases h
  ·cases h
 ·rename_i t z y;split at h
  ·rename_i k' off hz;split at h
   ·rename_i b' hb;split at h
    ·split at h
     ·rename_i l _ _ n _;cases hc:(Nat.beq l.length n && Nat.ble (off+n) b'.cells.length) with
      | false=>simp [hc] at h
      | true =>
       simp [hc] at h;obtain ⟨_,rfl,_⟩:=h;exact .inr ⟨rfl,by rw [hb]; simp,z,by simp [Op.operands],off,hz⟩
     ·cases h
    ·cases h
   ·cases h
  ·cases h
 ·split at h
  ·split at h <;> simp at h
  ·cases h
 ·split at h
  ·split at h <;> simp at h
  ·cases h
theorem Afb (h:eff P name s o=some (x,hw))(ha:Eb o=true):hw≠none:=by
 unfold eff at h;unfold Eb at ha;split at ha
 ·simp only at h;split at h
  ·split at h
   ·split at h
    ·split at h
     ·simp at h; rw [← h.2]; simp
     ·cases h
    ·cases h
   ·cases h
  ·cases h
 ·simp only at h;split at h
  ·split at h
   ·simp at h; rw [← h.2]; simp
   ·cases h
  ·cases h
 ·cases ha
theorem Oy (h:Dy o=true):Kj o=false:=by
 unfold Kj;split
 ·simp [Dy] at h
 ·simp [Dy] at h
 ·simp [Dy] at h
 ·rfl
theorem Ob.redo {x:Nat}{l:List Nat}{u m:PH}{ox:Oper}(h:Ob P id ops dr Fin (x::l) s u m)(hx:ops[x]?=some ox)(hf:Dy ox.op=true) :
  ∃ vx hwx,Ob P id ops dr Fin l ((s.put ox.dst vx).setb hwx) u m∧(∀ k b,hwx=some (k,b)→k=id*1000+x∧s.hp k=none∧F8 ox.op=false) ∧
   ∀ (s':S) (u' m':PH) (L:List Nat),(∀ z∈ox.op.operands,s'.ev z=s.ev z)→gv s' ops ox=gv s ops ox→s'.n=s.n→(hwx≠none→s'.hp (id*1000+x)=s.hp (id*1000+x)) →
    (F8 ox.op=true→∀ z∈ox.op.operands,∀ k off,s.ev z=.p k off→s'.hp k=s.hp k)→PH.le u u'→(F8 ox.op=true→PH.le m m'∨∃ t tx,ox.op=.load t (.tmp tx)∧isV (s.tm tx)=false) →
    Ob P id ops dr Fin L ((s'.put ox.dst vx).setb hwx) u' m'→Ob P id ops dr Fin (x::L) s' u' m':=by
 have dk:∀ (s':S),s'.n=s.n→Fu s ox=true→Fu s' ox=true:=fun s' hn hd=>by unfold Fu at hd ⊢; rw [hn]; exact hd
 cases h with
 | auto ho hg hd he hl =>
  rw [hx] at ho;obtain rfl:=Option.some.inj ho;refine ⟨_,_,hl,fun k b hb=>?_,fun s' u' m' L h1 h2 h3 h4 h5 _ _ hL=>?_⟩
  ·subst hb;rcases Nm he with ⟨rfl,e,_,e'⟩ | ⟨e,_⟩
   ·exact ⟨rfl,e,e'⟩
   ·rw [Oy hf] at e; cases e
  ·refine .auto hx (h2.trans hg) (dk s' h3 hd) ?_ hL;rw [Um h1 (fun ha=>h4 (Afb he ha)) (fun hm=>?_),he];rcases hm with hm | hm
   ·exact h5 hm
   ·rw [Oy hf] at hm; cases hm
 | skip ho hg hd hl =>
  rw [hx] at ho;obtain rfl:=Option.some.inj ho;refine ⟨.v undef,none,hl,by simp,fun s' u' m' L h1 h2 h3 h4 h5 _ _ hL=>.skip hx (h2.trans hg) (dk s' h3 hd) hL⟩
 | ask ho hg hd hv hs hal hw hl =>
  rw [hx] at ho;obtain rfl:=Option.some.inj ho;rename_i v;refine ⟨.v v,none,hl,by simp,fun s' u' m' L h1 h2 h3 h4 h5 h6 h7 hL=>.ask hx (h2.trans hg) (dk s' h3 hd) (by rw [Fx h1]; exact hv) hs hal (fun w hp=>?_) hL⟩;rw [execOp_congr _ (I3 hs) (H8 h1)];refine hw w fun hload=>⟨fun g o hg=>(hp hload).1 g o (h6 g o hg),fun g o hg=>?_⟩;rcases h7 hload with h7 | ⟨t,tx,e1,e2⟩
  ·exact (hp hload).2 g o (h7 g o hg)
  ·exfalso;unfold Kq at hv;rw [List.all_eq_true] at hv;have:=hv (.tmp tx) (by rw [e1]; simp [Op.operands]);rw [show s.ev (.tmp tx)=s.tm tx from rfl,e2] at this;cases this
 | big ho hg hd hv hs hf' hk hw hl =>
  rw [hx] at ho;obtain rfl:=Option.some.inj ho;rw [hf] at hf'; cases hf'
def Two (s:S)(ox oy:Oper):Prop:=∃ t tx t' ty v kx ox' ky oy',ox.op=.load t (.tmp tx)∧oy.op=.store t' (.tmp ty) v∧s.tm tx=.p kx ox'∧s.tm ty=.p ky oy'∧kx≠ky
def New (s:S)(ox oy:Oper):Prop:=∃ t tx t' ty v,ox.op=.load t (.tmp tx)∧oy.op=.store t' (.tmp ty) v∧isV (s.tm ty)=false∧∀ k off k' off',s.tm tx=.p k off→s.tm ty=.p k' off'→k≠k'
def Adj:Op→Bool
 | .call { callee:=.builtin .append,.. } | .call { callee:=.builtin .copy,.. }=>true
 | _=>false
def Own (s:S)(ox oy:Oper):Prop:=Adj oy.op=true∧∃ t tx,ox.op=.load t (.tmp tx)∧isV (s.tm tx)=false
theorem Akc (he:eff P name s o=some (x,hw))(h:Adj o=true):hw=none:=by
 unfold Adj at h;split at h
 ·unfold eff at he;simp only at he;split at he
  ·split at he
   ·simp at he; exact he.2.symm
   ·cases he
  ·cases he
 ·unfold eff at he;simp only at he;split at he
  ·split at he
   ·simp at he; exact he.2.symm
   ·cases he
  ·cases he
 ·cases h
theorem Ob.swap {x y:Nat}{l:List Nat}{s:S}{u m:PH}{ox oy:Oper}(hL:Ks s)(h:Ob P id ops true Fin (x::y::l) s u m)(hx:ops[x]?=some ox)(hy:ops[y]?=some oy)(hne:x≠y)
  (hf:Dy ox.op=true) (hap:Oper.apart ops ox oy=true) (hlm:F8 ox.op=true→Ot ops y oy.op=false∨Own s ox oy∨Two s ox oy∨New s ox oy) (hcalm:∀ t tx,ox.op=.load t (.tmp tx)→T9 ops s tx=true→isV (s.tm tx)=false):Ob P id ops true Fin (y::x::l) s u m:=by
 obtain ⟨vx,hwx,h1,hn,redo⟩:=h.redo hx hf;obtain ⟨a1,a2,a3⟩:=Oper.apart_spec hap;have hnm:id*1000+x≠id*1000+y:=by omega
 have evy:∀ z∈oy.op.operands,((s.put ox.dst vx).setb hwx).ev z=s.ev z:=fun z hz=>Tu a1 hz;have gvy:gv ((s.put ox.dst vx).setb hwx) ops oy=gv s ops oy:=Sk a1;have lvx:∀ z:Operand,∀ k off,s.ev z=.p k off→s.hp k≠none:=by
  intro z k off hz;cases z with
  | tmp t=>exact hL.1 t k off hz
  | const v=>cases hz
  | global g=>cases hz
  | func f=>cases hz
 have hpx:∀ k,(∀ b,hwx≠some (k,b))→((s.put ox.dst vx).setb hwx).hp k=s.hp k:=by
  intro k hk;rcases hwx with _ | ⟨j,b⟩
  ·show (s.put ox.dst vx).hp k=s.hp k; rw [Ct]
  ·rw [A5 _ _ _ (fun e=>hk b (by rw [e])),Ct]
 have nmx:∀ k,s.hp k≠none→∀ b,hwx≠some (k,b):=fun k hk b e=>hk (hn k b e).2.1;have dky:Fu ((s.put ox.dst vx).setb hwx) oy=Fu s oy:=by unfold Fu; rw [Pg,U0]
 have comm:∀ (vy:SV) (hwy:Option (Nat×Blk)),(∀ k b,hwy=some (k,b)→∀ b',hwx≠some (k,b')) →
   ((((s.put ox.dst vx).setb hwx).put oy.dst vy).setb hwy)=(((s.put oy.dst vy).setb hwy).put ox.dst vx).setb hwx:=by
  intro vy hwy hk;rw [N1,N1,Aj2 s vx vy a2,Afr];rintro k b k' b' e1 e2 rfl;exact hk k b' e2 b e1
 cases h1 with
 | auto ho hg hd he hl =>
  rw [hy] at ho;obtain rfl:=Option.some.inj ho;rename_i vy hwy;have he':eff P (id*1000+y) s oy.op=some (vy,hwy):=by
   rw [← he];refine (Um evy (fun _=>hpx _ (fun b e=>hnm.symm ((hn _ b e).1))) (fun _ z hz k off hk=>hpx k (nmx k (lvx z k off hk)))).symm
  have hdisj:∀ k b,hwy=some (k,b)→∀ b',hwx≠some (k,b'):=by
   intro k b e b' e';subst e;rcases Nm he' with ⟨rfl,_⟩ | ⟨_,hk,_⟩
   ·exact hnm.symm (hn _ b' e').1
   ·exact hk (hn k b' e').2.1
  refine .auto hy (by rw [← gvy]; exact hg) (by rw [← dky]; exact hd) he' ?_;have hpy:∀ k,(∀ b,hwy≠some (k,b))→((s.put oy.dst vy).setb hwy).hp k=s.hp k:=by
   intro k hk;rcases hwy with _ | ⟨j,b⟩
   ·show (s.put oy.dst vy).hp k=s.hp k; rw [Ct]
   ·rw [A5 _ _ _ (fun e=>hk b (by rw [e])),Ct]
  refine redo _ u m l (fun z hz=>Tu a3 hz) (Sk a3) (by rw [Pg,U0]) ?_ ?_ (PH.le_refl _) (fun _=>.inl (PH.le_refl _)) ?_
  ·intro hsome;by_cases hk:∃ b,hwy=some (id*1000+x,b)
   ·obtain ⟨b,hb⟩:=hk;subst hb;rcases Nm he' with ⟨e,_⟩ | ⟨em,hk,z,hz,off,hzk⟩
    ·exact absurd e hnm
    ·rcases hwx with _ | ⟨j,b'⟩
     ·exact absurd rfl hsome
     ·obtain ⟨rfl,e,_⟩:=hn j b' rfl;exact absurd e hk
   ·exact hpy _ (fun b e=>hk ⟨b,e⟩)
  ·intro hlo z hz k off hk;refine hpy k (fun b e=>?_);subst e;rcases Nm he' with ⟨rfl,e,_⟩ | ⟨em,_⟩
   ·exact lvx z _ off hk e
   ·rcases hlm hlo with h | ⟨q0,_⟩ | ⟨t,tx,t',ty,v,kx,o1,ky,o2,q1,q2,q3,q4,q5⟩ | ⟨t,tx,t',ty,v,q1,q2,q3,q4⟩
    ·rw [Aic h] at em; cases em
    ·cases Akc he' q0
    case inr.inr.inr =>
     rw [q1] at hz;simp only [Op.operands,List.mem_toArray,List.mem_singleton] at hz;subst hz;rw [q2] at he';cases hty:s.tm ty with
     | junk=>simp only [eff,show s.ev (.tmp ty)=s.tm ty from rfl,hty] at he'; cases he'
     | v y=>simp only [eff,show s.ev (.tmp ty)=s.tm ty from rfl,hty] at he'; cases he'
     | p ky o2 =>
      have hne:=q4 k off ky o2 hk hty;simp only [eff,show s.ev (.tmp ty)=s.tm ty from rfl,hty] at he';split at he'
      ·split at he'
       ·split at he'
        ·rename_i n _
         revert he'
         cases (Nat.beq _ _ && Nat.ble _ _) with
         | false=>simp
         | true=>simp; intro _ e _; exact absurd e.symm hne
        ·cases he'
       ·cases he'
      ·cases he'
    ·rw [q1] at hz;simp only [Op.operands,List.mem_toArray,List.mem_singleton] at hz;subst hz;have:SV.p k off=.p kx o1:=hk.symm.trans q3;simp only [SV.p.injEq] at this;rw [q2] at he';have q4':s.ev (.tmp ty)=.p ky o2:=q4;simp only [eff,q4'] at he';split at he'
     ·split at he'
      ·split at he'
       ·rename_i n _
        revert he'
        cases (Nat.beq _ _ && Nat.ble _ _) with
        | false=>simp
        | true=>simp; intro _ e _; exact absurd (this.1.symm.trans e.symm) q5
       ·cases he'
      ·cases he'
     ·cases he'
  ·rw [← comm vy hwy hdisj]; exact hl
 | skip ho hg hd hl =>
  rw [hy] at ho;obtain rfl:=Option.some.inj ho;refine .skip hy (by rw [← gvy]; exact hg) (by rw [← dky]; exact hd) ?_;refine redo _ u m l (fun z hz=>Tu (w:=none) a3 hz) (Sk (w:=none) a3) (by rw [U0]) (fun _=>by rw [Ct]) (fun _ _ _ _ _ _=>by rw [Ct]) (PH.le_refl _) (fun _=>.inl (PH.le_refl _)) ?_;have:=comm (.v undef) none (by simp);rw [show (s.put oy.dst (.v undef))=(s.put oy.dst (.v undef)).setb none from rfl,← this]; exact hl
 | ask ho hg hd hv hs hal hw hl =>
  rw [hy] at ho;obtain rfl:=Option.some.inj ho;rename_i v;refine .ask (v:=v) hy (by rw [← gvy]; exact hg) (by rw [← dky]; exact hd) (by rw [← Fx evy]; exact hv) hs hal (fun w hp=>?_) ?_
  ·rw [← execOp_congr _ (I3 hs) (H8 evy)]; exact hw w hp
  ·refine redo _ u m l (fun z hz=>Tu (w:=none) a3 hz) (Sk (w:=none) a3) (by rw [U0]) (fun _=>by rw [Ct]) (fun _ _ _ _ _ _=>by rw [Ct]) (PH.le_refl _) (fun _=>.inl (PH.le_refl _)) ?_;have:=comm (.v v) none (by simp);rw [show (s.put oy.dst (.v v))=(s.put oy.dst (.v v)).setb none from rfl,← this]; exact hl
 | big ho hg hd hv hs hf' hk hw hl =>
  rw [hy] at ho;obtain rfl:=Option.some.inj ho;rename_i K;have hown:Kd ops ((s.put ox.dst vx).setb hwx)=Kd ops s:=W5 fun t ht=>by
   rw [Ec,Eq];intro hd';unfold Md at ht;rw [List.all_eq_true] at ht;have:=ht ox (Wc hx);rw [hd'] at this;simp at this
  refine .big (K:=K) hy (by rw [← gvy]; exact hg) (by rw [← dky]; exact hd) (by rw [← Fx evy]; exact hv) hs hf' (by rw [← hown]; exact hk) (fun w hgd=>?_) (fun v u' m' hle hK=>?_)
  ·have:=hw w hgd;unfold D5 at this ⊢;rw [← execOp_congr _ (I3 hs) (H8 evy)]; exact this
  ·refine redo _ u' m' l (fun z hz=>Tu (w:=none) a3 hz) (Sk (w:=none) a3) (by rw [U0]) (fun _=>by rw [Ct]) (fun _ _ _ _ _ _=>by rw [Ct]) hle (fun hlo=>?_) ?_
   ·rcases hk v u' m' hK with h | h | h | h
    ·exact .inl h
    ·cases h
    ·rcases hlm hlo with h' | ⟨_,q0⟩ | ⟨t,tx,t',ty,v,kx,o1,ky,o2,q1,q2,q3,q4,q5⟩ | ⟨t,tx,t',ty,v,q1,q2,q3,q4⟩
     ·rw [h'] at h; cases h
     ·exact .inr q0
     case inr.inr.inr =>
      exfalso;rw [Fx evy] at hv;unfold Kq at hv;rw [List.all_eq_true] at hv;have:=hv (.tmp ty) (by rw [q2]; simp [Op.operands]);rw [show s.ev (.tmp ty)=s.tm ty from rfl] at this;cases hty:s.tm ty with
      | junk=>rw [hty] at this; cases this
      | v y=>rw [hty] at q3; cases q3
      | p k off=>rw [hty] at this; cases this
     ·exfalso;rw [Fx evy] at hv;unfold Kq at hv;rw [List.all_eq_true] at hv;have:=hv (.tmp ty) (by rw [q2]; simp [Op.operands]);rw [show s.ev (.tmp ty)=.p ky o2 from q4] at this;cases this
    ·right;rw [hown] at h;unfold Kd at h;rw [List.all_eq_true] at h;have h2:=h ox (Wc hx);rw [hlo] at h2;simp only [Bool.not_true,Bool.false_or] at h2;unfold X8 at h2;split at h2
     ·rename_i t tx hop;refine ⟨t,tx,hop,?_⟩;rw [Bool.or_eq_true,Bool.and_eq_true] at h2;rcases h2 with ⟨_,h2⟩ | h2
      ·cases hb:s.tm tx with
       | junk=>rfl
       | v y=>rw [hb] at h2; cases h2
       | p k off=>rfl
      ·exact hcalm t tx hop h2
     ·cases h2
   ·have:=comm (.v v) none (by simp);rw [show (s.put oy.dst (.v v))=(s.put oy.dst (.v v)).setb none from rfl,← this]; exact hl v u' m' hle hK
end swap
end
section
variable {ox oy:Oper}{s s':S}{x:Nat}
variable [Ch]
section live
variable {P:Program}
theorem Ahe {name:Nat}{o:Op}{x:SV}{hw:Option (Nat×Blk)}(h:eff P name s o=some (x,hw))(hL:Ks s)(d:Option Nat):Ks ((s.put d x).setb hw):=by
 have lvev:∀ (z:Operand) (k off:Nat),s.ev z=.p k off→s.hp k≠none:=by
  intro z k off hz;cases z with
  | tmp t=>exact hL.1 t k off hz
  | const v=>cases hz
  | global g=>cases hz
  | func f=>cases hz
 have key:∀ (x:SV) (hw:Option (Nat×Blk)),(∀ k off,x=.p k off→s.hp k≠none∨∃ b,hw=some (k,b))→(∀ j b,hw=some (j,b)→∀ k off,SV.p k off∈b.cells→s.hp k≠none)→Ks ((s.put d x).setb hw):=by
  intro x hw h1 h2;have hp:∀ k,s.hp k≠none→((s.put d x).setb hw).hp k≠none:=by
   intro k hk;rcases hw with _ | ⟨j,b⟩
   ·show (s.put d x).hp k≠none; rw [Ct]; exact hk
   ·by_cases e:k=j
    ·rw [e,Bg]; simp
    ·rw [A5 _ _ _ e,Ct]; exact hk
  refine ⟨fun e k off he=>?_,fun j b k off hj hm=>?_⟩
  ·rw [Ec] at he;by_cases hde:d=some e
   ·subst hde;rw [B2] at he;rcases h1 k off he with h | ⟨b,rfl⟩
    ·exact hp k h
    ·rw [Bg]; simp
   ·rw [Eq _ _ _ hde] at he;exact hp k (hL.1 e k off he)
  ·rcases hw with _ | ⟨i,b'⟩
   ·change (s.put d x).hp j=some b at hj;rw [Ct] at hj;exact hp k (hL.2 j b k off hj hm)
   ·by_cases e:j=i
    ·subst e;rw [Bg] at hj;obtain rfl:=Option.some.inj hj;exact hp k (h2 j b' rfl k off hm)
    ·rw [A5 _ _ _ e,Ct] at hj;exact hp k (hL.2 j b k off hj hm)
 unfold eff at h;split at h
 ·rename_i z;simp at h; obtain ⟨rfl,rfl⟩:=h;exact key _ _ (fun k off e=>.inl (lvev z k off e)) (by simp)
 ·rename_i z;simp at h; obtain ⟨rfl,rfl⟩:=h;exact key _ _ (fun k off e=>.inl (lvev z k off e)) (by simp)
 ·split at h
  ·split at h
   ·split at h
    ·split at h
     ·rename_i l hl;simp at h; obtain ⟨rfl,rfl⟩:=h;obtain ⟨_,_,_,e4,_⟩:=Ea hl (fun _=>0);exact key _ _ (fun k off e=>.inr (by simp at e; exact ⟨_,by rw [e.1]⟩)) (fun j b e k off hm=>by simp at e; obtain ⟨_,rfl⟩:=e; cases e4 k off hm)
     ·cases h
    ·cases h
   ·cases h
  ·cases h
 ·rename_i t z;split at h
  ·split at h
   ·rename_i l hl;simp at h; obtain ⟨rfl,rfl⟩:=h;obtain ⟨_,_,_,e4,_⟩:=Ea hl (fun _=>0);exact key _ _ (fun k off e=>.inr (by simp at e; exact ⟨_,by rw [e.1]⟩)) (fun j b e k off hm=>by simp at e; obtain ⟨_,rfl⟩:=e; exact lvev z k off (e4 k off hm))
   ·cases h
  ·cases h
 ·split at h
  ·split at h
   ·rename_i k off hz b hb;split at h
    ·rename_i y hy;simp at h; obtain ⟨rfl,rfl⟩:=h;have hmem:∀ k' o',y=.p k' o'→SV.p k' o'∈b.cells:=by
      intro k' o' e;subst e;unfold ldv at hy;split at hy
      ·split at hy
       ·split at hy
        ·rename_i l _ n _ _ _
         revert hy; cases (Nat.beq _ _) <;> simp
        ·cases hy
       ·cases hy
      ·split at hy
       ·simp at hy
       ·rename_i hx; simp at hy; obtain ⟨rfl,rfl⟩:=hy; exact List.mem_of_getElem? hx
       ·cases hy
      ·cases hy
     exact key _ _ (fun k' o' e=>.inl (hL.2 _ b k' o' hb (hmem k' o' e))) (by simp)
    ·cases h
   ·cases h
  ·cases h
 ·rename_i t z y;split at h
  ·rename_i k' off hz;split at h
   ·rename_i b' hb;split at h
    ·rename_i l hl;split at h
     ·rename_i n _;cases hc:(Nat.beq l.length n && Nat.ble (off+n) b'.cells.length) with
      | false=>simp [hc] at h
      | true =>
       simp [hc] at h;obtain ⟨rfl,rfl⟩:=h;obtain ⟨_,_,_,e4,_⟩:=Ea hl (fun _=>0);refine key _ _ (by simp) (fun j b e k off hm=>?_);simp at e;obtain ⟨rfl,rfl⟩:=e;rcases Ss hm with hm | hm
       ·exact hL.2 k' b' k off hb hm
       ·exact lvev y k off (e4 k off hm)
     ·cases h
    ·cases h
   ·cases h
  ·cases h
 ·rename_i t z f;split at h
  ·rename_i k off hz;split at h
   ·simp at h; obtain ⟨rfl,rfl⟩:=h;exact key _ _ (fun k' o' e=>.inl (by simp at e; rw [← e.1]; exact lvev z k off hz)) (by simp)
   ·cases h
  ·cases h
 ·split at h
  ·split at h
   ·simp at h; obtain ⟨rfl,rfl⟩:=h;exact key _ _ (by simp) (by simp)
   ·cases h
  ·cases h
theorem S0 (hL:Ks s)(d:Option Nat)(v:Value):Ks (s.put d (.v v)):=by
 refine ⟨fun e k off he=>?_,fun j b k off hj hm=>?_⟩
 ·rw [Ct];by_cases hde:d=some e
  ·subst hde; rw [B2] at he; cases he
  ·rw [Eq _ _ _ hde] at he; exact hL.1 e k off he
 ·rw [Ct] at hj ⊢; exact hL.2 j b k off hj hm
end live
section drawn
variable {P:Program} {id:Nat} {ops:Array Oper} {Fin:S→PH→PH→Prop} {c:Cx} {Q:Exit→Act→World→Prop}
theorem Ob.mapTail {dr:Bool}{L L':List Nat}{u m:PH}(hL:Ks s)(h:Ob P id ops dr Fin (x::L) s u m)(f:∀ s' u m,Ks s'→Ei ops s s'→Ob P id ops dr Fin L s' u m→Ob P id ops dr Fin L' s' u m):Ob P id ops dr Fin (x::L') s u m:=by
 cases h with
 | auto ho hg hd he hl=>exact .auto ho hg hd he (f _ _ _ (Ahe he hL _) (E4 ho _ _ (Fit.auto he)) hl)
 | skip ho hg hd hl=>exact .skip ho hg hd (f _ _ _ (S0 hL _ _) (E4 ho _ none (Fit.skip hg)) hl)
 | ask ho hg hd hv hs hal hw hl=>exact .ask ho hg hd hv hs hal hw (f _ _ _ (S0 hL _ _) (E4 ho _ none (Fit.val hv hal _)) hl)
 | big ho hg hd hv hs hf hk hw hl=>exact .big ho hg hd hv hs hf hk hw (fun v u' m' h1 h2=>f _ _ _ (S0 hL _ _) (E4 ho _ none (Fit.val hv (Ado hf) _)) (hl v u' m' h1 h2))
def Ano (ops:Array Oper)(s:S)(ox oy:Oper):Bool :=
 match ox.op with
 | .load _ (.tmp tx)=>match oy.op with
  | .store _ (.tmp ty) _=>Md ops tx && Md ops ty && (match s.tm tx with
   | .p kx _=>match s.tm ty with | .p ky _=>!Nat.beq kx ky | _=>false
   | _=>false)
  | _=>false
 | _=>false
theorem Aon {ops:Array Oper}(h:Ano ops s ox oy=true)(ha:Ei ops s s'):Two s' ox oy:=by
 unfold Ano at h;split at h
 ·rename_i t tx e1;split at h
  ·rename_i t' ty v e2;simp only [Bool.and_eq_true] at h;obtain ⟨⟨h1,h2⟩,h3⟩:=h;split at h3
   ·rename_i kx o1 e3;split at h3
    ·rename_i ky o2 e4;refine ⟨t,tx,t',ty,v,kx,o1,ky,o2,e1,e2,by rw [ha.eq tx h1]; exact e3,by rw [ha.eq ty h2]; exact e4,fun e=>?_⟩;rw [e] at h3; simp at h3
    ·cases h3
   ·cases h3
  ·cases h
 ·cases h
def Ao3 (ops:Array Oper)(s:S)(ox oy:Oper):Bool :=
 match ox.op with
 | .load _ (.tmp tx)=>match oy.op with
  | .store _ (.tmp ty) _=>Aet ops s tx && alB ops ty && (match s.tm ty with | .junk=>true | _=>false)
  | _=>false
 | _=>false
theorem Aok {ops:Array Oper}(h:Ao3 ops s ox oy=true)(ha:Ei ops s s')(hL:Ks s):New s' ox oy:=by
 unfold Ao3 at h;split at h
 ·rename_i t tx e1;split at h
  ·rename_i t' ty v e2;simp only [Bool.and_eq_true] at h;obtain ⟨⟨h1,h2⟩,h3⟩:=h;have h4:s.tm ty=.junk:=by
    split at h3
    ·assumption
    ·cases h3
   refine ⟨t,tx,t',ty,v,e1,e2,ha.nw ty h2 (by rw [h4]; rfl),fun k off k' off' q1 q2 e=>?_⟩;subst e;have o1:s.hp k≠none:=by
    rcases ha.ol tx k off h1 q1 with q | ⟨b,o2,_,q⟩
    ·exact hL.1 _ _ _ q
    ·exact hL.1 _ _ _ q
   rcases ha.fr ty k off' h2 q2 with q | q
   ·rw [h4] at q; cases q
   ·exact o1 q
  ·cases h
 ·cases h
theorem Ant {ops:Array Oper}(h:X8 ops s ox=true)(ha:Ei ops s s')(hc:∀ t tx,ox.op=.load t (.tmp tx)→T9 ops s' tx=true→isV (s'.tm tx)=false):∃ t tx,ox.op=.load t (.tmp tx)∧isV (s'.tm tx)=false:=by
 unfold X8 at h;split at h
 ·rename_i t tx hop;refine ⟨t,tx,hop,?_⟩;rw [Bool.or_eq_true,Bool.and_eq_true] at h;rcases h with ⟨h1,h2⟩ | h
  ·rw [ha.eq tx h1];cases hb:s.tm tx with
   | junk=>rfl
   | v y=>rw [hb] at h2; cases h2
   | p k off=>rfl
  ·exact hc t tx hop (by rw [Ka ha.eq]; exact h)
 ·cases h
def Am3 (ops:Array Oper)(s:S)(o:Oper):Bool:=match o.op with
 | .load _ (.tmp t)=>!(isV (s.tm t) && T9 ops s t)
 | _=>true
def Z7 (ops:Array Oper)(s:S)(x y:Nat):Bool :=
 match ops[x]? with
 | some ox=>match ops[y]? with
  | some oy=>Dy ox.op && Oper.apart ops ox oy && (!(F8 ox.op && Ot ops y oy.op) || Ano ops s ox oy || Ao3 ops s ox oy || (X8 ops s ox && Adj oy.op)) && !Nat.beq x y && Am3 ops s ox
  | none=>false
 | none=>false
def dir (ops:Array Oper)(i x:Nat):Bool:=match ops[i]? with
 | some o=>o.after.toList.any fun e=>Region.binds .any e && Nat.beq e.on x
 | none=>false
def Ef (ops:Array Oper)(s:S)(x y:Nat):Bool:=!(dir ops x y) && !(Nat.beq x y) && (dir ops y x || Z7 ops s x y || bef ops ops.size y x)
def Lf (ops:Array Oper)(s:S):List Nat→Bool
 | []=>true
 | x::l=>l.all (Ef ops s x) && Lf ops s l
def Hx (ops:Array Oper)(i:Nat):Bool:=match ops[i]? with
 | some o=>o.after.toList.all fun e=>!Region.binds .any e || (Nat.blt e.on ops.size && !Nat.beq e.on i)
 | none=>false
def Ajp (ops:Array Oper)(s:S)(T:List Nat):Bool :=
 Nat.beq T.length ops.size && (List.range ops.size).all (fun i=>T.contains i) && T.all (fun i=>Nat.blt i ops.size) && Lf ops s T && (List.range ops.size).all (Hx ops)
theorem D6 {ops:Array Oper}{s:S}:∀ {T:List Nat},Lf ops s T=true→T.Pairwise (fun x y=>Ef ops s x y=true)
 | [],_=>List.Pairwise.nil
 | x::l,h=>by
  simp only [Lf,Bool.and_eq_true,List.all_eq_true] at h;exact List.Pairwise.cons h.1 (D6 h.2)
def Acj (ops:Array Oper)(listed:Array Bool):Prop:=∀ i,listed.getD i false=true→∀ o,ops[i]?=some o→∀ e∈o.after,Region.binds .any e=true→listed.getD e.on false=true
theorem Fz {listed:Array Bool}(hc:Acj ops listed){x:Nat}:∀ (f i:Nat),(∀ o,ops[i]?=some o→∀ e∈o.after,Region.binds .any e=true→listed.getD e.on false=true)→bef ops f i x=true→listed.getD x false=true
 | 0,i,_,h=>by simp [bef] at h
 | f+1,i,hi,h=>by
  unfold bef at h;cases ho:ops[i]? with
  | none=>simp [ho] at h
  | some o =>
   simp only [ho,List.any_eq_true,Bool.and_eq_true,Bool.or_eq_true] at h;obtain ⟨e,he,hb,h⟩:=h;have hl:=hi o ho e (by simpa using he) hb;rcases h with h | h
   ·rw [← Nat.eq_of_beq_eq_true h]; exact hl
   ·exact Fz hc f e.on (hc e.on hl) h
theorem Rf {listed:Array Bool}{i x:Nat}(hi:∀ o,ops[i]?=some o→∀ e∈o.after,Region.binds .any e=true→listed.getD e.on false=true)(h:dir ops i x=true):listed.getD x false=true:=by
 unfold dir at h;cases ho:ops[i]? with
 | none=>simp [ho] at h
 | some o =>
  simp only [ho,List.any_eq_true,Bool.and_eq_true] at h;obtain ⟨e,he,hb,h⟩:=h;rw [← Nat.eq_of_beq_eq_true h]; exact hi o ho e (by simpa using he) hb
theorem Ob.bubble {s0:S}(hL0:Ks s0){i:Nat}{B:List Nat}:∀ (A:List Nat),(∀ x∈A,Z7 ops s0 x i=true)→∀ {s:S} {u m:PH},Ks s→Ei ops s0 s→Ob P id ops true Fin (A++i::B) s u m→Ob P id ops true Fin (i::(A++B)) s u m
 | [],_,s,u,m,_,_,h=>h
 | x::A,hx,s,u,m,hL,hag,h=>by
  have h1:Ob P id ops true Fin (x::i::(A++B)) s u m:=h.mapTail hL fun s' u m hl ha hh=>Ob.bubble hL0 A (fun y hy=>hx y (List.mem_cons_of_mem _ hy)) hl (hag.trans ha) hh;have hs:=hx x (by simp);unfold Z7 at hs;cases hox:ops[x]? with
  | none=>simp [hox] at hs
  | some ox =>
   cases hoy:ops[i]? with
   | none=>simp [hox,hoy] at hs
   | some oy =>
    simp only [hox,hoy,Bool.and_eq_true,Bool.or_eq_true,Bool.not_eq_true',Bool.and_eq_false_iff] at hs;obtain ⟨⟨⟨⟨e1,e2⟩,e3⟩,e4⟩,e5⟩:=hs;have hcm:∀ t tx,ox.op=.load t (.tmp tx)→T9 ops s tx=true→isV (s.tm tx)=false:=fun t tx hop hpt=>by
     rw [Ka hag.eq] at hpt;unfold Am3 at e5;rw [hop] at e5;simp only [hpt,Bool.and_true,Bool.not_eq_true'] at e5;exact hag.pt tx hpt e5
    refine h1.swap hL hox hoy (fun e=>?_) e1 e2 (fun hl=>?_) hcm
    ·rw [e] at e4; simp at e4
    ·rcases e3 with (((e3 | e3) | e3) | e3) | e3
     ·rw [hl] at e3; cases e3
     ·exact .inl e3
     ·exact .inr (.inr (.inl (Aon e3 hag)))
     ·exact .inr (.inr (.inr (Aok e3 hag hL0)))
     ·exact .inr (.inl ⟨e3.2,Ant e3.1 hag hcm⟩)
theorem Ob.wpAny {s0:S}(hL0:Ks s0)(hE:(List.range ops.size).all (Hx ops)=true)(hF:∀ s u m ρ a w,Fin s u m→Rel c s u m ρ a w→Q .normal a w) :
  ∀ (n:Nat) (T:List Nat) (listed:Array Bool) {s:S} {u m:PH} {ρ:Nat→Nat} {a:Act} {w:World},T.length=n→listed.size=ops.size→(∀ i,i < ops.size→(listed.getD i true=false↔i∈T))→(∀ i∈T,i < ops.size)→T.Nodup→Acj ops listed →
   T.Pairwise (fun x y=>Ef ops s0 x y=true)→Ei ops s0 s→Ob P id ops true Fin T s u m→Rel c s u m ρ a w→Go.wpAny P .any ops Q n listed a w:=by
 have ready_spec:∀ (listed:Array Bool) (i:Nat),i∈Region.ready .any ops listed↔i < ops.size∧listed.getD i true=false∧∃ o,ops[i]?=some o∧∀ e∈o.after,Region.binds .any e=true→listed.getD e.on false=true:=by
  intro listed i;simp only [Region.ready,List.mem_filter,List.mem_range,Bool.and_eq_true,Bool.not_eq_true'];refine and_congr_right fun hi=>and_congr_right fun _=>?_;have ho:ops[i]?=some ops[i]:=Array.getElem?_eq_getElem hi;rw [ho];simp only [Option.map_some,Option.getD_some,Array.all_eq_true',Option.some.injEq,exists_eq_left',Bool.or_eq_true,Bool.not_eq_true'];constructor
  ·intro h e he hb;rcases h e he with h | h
   ·rw [hb] at h; cases h
   ·exact h
  ·intro h e he;cases hb:Region.binds .any e with
   | false=>exact .inl rfl
   | true=>exact .inr (h e he hb)
 intro n;induction n with
 | zero =>
  intro T listed s u m ρ a w hlen hsz hT hTl hnd hcl hP hag hO hr;have:T = []:=List.eq_nil_of_length_eq_zero hlen;subst this;refine ⟨?_,?_⟩
  ·rw [List.eq_nil_iff_forall_not_mem];intro i hi;obtain ⟨h1,h2,_⟩:=(ready_spec listed i).1 hi;exact absurd ((hT i h1).1 h2) (by simp)
  ·cases hO with
   | nil h=>exact hF _ _ _ _ _ _ h hr
 | succ n ih =>
  intro T listed s u m ρ a w hlen hsz hT hTl hnd hcl hP hag hO hr;refine ⟨fun hnil=>?_,fun i hi=>?_⟩
  ·cases T with
   | nil=>simp at hlen
   | cons t T' =>
    exfalso;have ht:=hTl t (by simp);have:t∈Region.ready .any ops listed:=by
     refine (ready_spec listed t).2 ⟨ht,(hT t ht).2 (by simp),ops[t],Array.getElem?_eq_getElem ht,fun e he hb=>?_⟩;rw [List.all_eq_true] at hE;have hed:=hE t (by simpa using ht);unfold Hx at hed;rw [Array.getElem?_eq_getElem ht] at hed;simp only [List.all_eq_true] at hed;have:=hed e (by simpa using he);simp only [hb,Bool.not_true,Bool.false_or,Bool.and_eq_true,Bool.not_eq_true'] at this;have hlt:e.on < ops.size:=Nat.blt_eq ▸ this.1;have hne:e.on≠t:=fun h=>by rw [h] at this; simp at this
     cases hl:listed.getD e.on true with
     | true =>
      have h1:e.on < listed.size:=by omega
      simp only [Array.getD_eq_getD_getElem?,Array.getElem?_eq_getElem h1,Option.getD_some] at hl ⊢; exact hl
     | false =>
      have hm:=(hT e.on hlt).1 hl;rcases List.mem_cons.1 hm with hm | hm
      ·exact absurd hm hne
      ·have:=List.rel_of_pairwise_cons hP hm;unfold Ef at this;simp only [Bool.and_eq_true,Bool.not_eq_true'] at this;have hb':dir ops t e.on=true:=by
        unfold dir;rw [Array.getElem?_eq_getElem ht];simp only [List.any_eq_true,Bool.and_eq_true];exact ⟨e,by simpa using he,hb,by simp⟩
       rw [hb'] at this; exact absurd this.1.1 (by simp)
    rw [hnil] at this; cases this
  ·obtain ⟨h1,h2,o,ho,hpre⟩:=(ready_spec listed i).1 hi;have hm:=(hT i h1).1 h2;obtain ⟨A,B,rfl⟩:=List.append_of_mem hm;have hAB:(A++B).length=n:=by simp at hlen ⊢; omega
   have hlt:i < listed.size:=by omega
   have hsw:∀ x∈A,Z7 ops s0 x i=true:=by
    intro x hx;have hp:=(List.pairwise_append.1 hP).2.2 x hx i (by simp);unfold Ef at hp;simp only [Bool.and_eq_true,Bool.or_eq_true] at hp;have hpi:∀ o',ops[i]?=some o'→∀ e∈o'.after,Region.binds .any e=true→listed.getD e.on false=true:=fun o' ho'=>by rw [ho] at ho'; obtain rfl:=Option.some.inj ho'; exact hpre
    have hno:listed.getD x false=true→False:=by
     intro hl;have hxl:=hTl x (by simp [hx]);have:=(hT x hxl).2 (by simp [hx]);have h3:x < listed.size:=by omega
     simp only [Array.getD_eq_getD_getElem?,Array.getElem?_eq_getElem h3,Option.getD_some] at hl this;rw [this] at hl; cases hl
    rcases hp.2 with (h | h) | h
    ·exact (hno (Rf hpi h)).elim
    ·exact h
    ·exact (hno (Fz hcl ops.size i hpi h)).elim
   have hO':=Ob.bubble hL0 A hsw hr.lv hag hO;refine wpOp_mono (fun a' w' ⟨s',u',m',ρ',r1,ra,r2⟩=>?_) (hO'.step (Q:=Q) hr);have hnd':(A++B).Nodup∧i∉A++B:=by
    rw [List.nodup_append] at hnd ⊢;simp only [List.nodup_cons,List.mem_cons,List.mem_append] at hnd ⊢;obtain ⟨n1,⟨n2,n3⟩,n4⟩:=hnd;exact ⟨⟨n1,n3,fun x hx y hy=>n4 x hx y (.inr hy)⟩,fun h=>h.elim (fun h=>n4 i h i (.inl rfl) rfl) n2⟩
   refine ih (A++B) _ hAB (by simpa using hsz) (fun j hj=>?_) (fun j hj=>hTl j ?_) hnd'.1 ?_ ?_ (hag.trans ra) r2 r1
   ·by_cases hji:j=i
    ·subst hji;simp only [Array.getD_eq_getD_getElem?,Array.getElem?_setIfInBounds_self_of_lt hlt,Option.getD_some];exact ⟨fun h=>absurd h (by simp),fun h=>absurd h hnd'.2⟩
    ·have:=hT j hj;simp only [Array.getD_eq_getD_getElem?,Array.getElem?_setIfInBounds_ne (fun h=>hji h.symm)] at this ⊢;rw [this];simp [hji]
   ·simp only [List.mem_append,List.mem_cons] at hj ⊢;rcases hj with h | h
    ·exact .inl h
    ·exact .inr (.inr h)
   ·intro j hj o' ho' e he hb;have keep:∀ k,listed.getD k false=true→(listed.setIfInBounds i true).getD k false=true:=by
     intro k hk;by_cases hki:k=i
     ·subst hki; simp only [Array.getD_eq_getD_getElem?,Array.getElem?_setIfInBounds_self_of_lt hlt,Option.getD_some]
     ·simp only [Array.getD_eq_getD_getElem?,Array.getElem?_setIfInBounds_ne (fun h=>hki h.symm)] at hk ⊢; exact hk
    by_cases hji:j=i
    ·subst hji;rw [ho] at ho';obtain rfl:=Option.some.inj ho';exact keep _ (hpre e he hb)
    ·refine keep _ (hcl j ?_ o' ho' e he hb);simp only [Array.getD_eq_getD_getElem?,Array.getElem?_setIfInBounds_ne (fun h=>hji h.symm)] at hj ⊢; exact hj
   ·exact hP.sublist (List.Sublist.append_left (List.sublist_cons_self i B) A)
end drawn
end
section
variable {T:List Nat}{c:Cx}{id:Nat}{m u:PH}{ops:Array Oper}{s:S}{w:World}{ρ:Nat→Nat}
variable [Ch]
inductive KI where
 | code (c:Code)
 | blk (id:Nat)
 | reg (id:Nat) (ops:Array Oper) (dr:Bool) (l:List Nat)
 | lp (J:S→PH→PH→Prop)
def Alt (c:Cx)(Post:Value→PH→PH→Prop):Ending→World→Prop:=fun e w'=>∃ v u' m',e=.returned v∧Bw u' m' w'∧Bz c.u0 c.m0 c.w0 u' m' w'∧Post v u' m'
def Ai (P:Program)(f:FuncId)(args:List Value)(u m:PH)(Post:Value→PH→PH→Prop):Prop:=∀ w,Bw u m w→Calls P f args.toArray w (Alt ⟨w,u,m⟩ Post)
structure B1 where
 post:Value→PH→PH→Prop
 m0:PH
abbrev Akq (P:Program)(fn:Func)(R:Ending→World→Prop):Exit→Act→World→Prop:=bodyPostM Fence.wide 1 P fn R
def Ho (P:Program)(fn:Func)(Post:B1)(c:Cx):List KI→Exit→Act→World→Prop
 | []=>Akq P fn (Alt c Post.post)
 | .code x::k=>Exit.then (x.wp P (Ho P fn Post c k)) (Ho P fn Post c k)
 | .blk id::k=>Exit.inBlock id (Ho P fn Post c k)
 | .reg _ _ _ _::k=>Ho P fn Post c k
 | .lp J::k=>Exit.then (fun a w=>∃ s u m ρ,Rel c s u m ρ a w∧J s u m) (Ho P fn Post c k)
def On (P:Program)(fn:Func)(Post:B1)(ks:List KI)(s:S)(u m:PH):Prop:=∀ c ρ a w,c.m0=Post.m0→Rel c s u m ρ a w→Ho P fn Post c ks .normal a w
def Sym (P:Program)(fn:Func)(Post:B1)(ks:List KI)(s:S)(u m:PH):Prop :=
 match ks with
 | .reg id ops dr l::k=>Ob P id ops dr (On P fn Post k) l s u m
 | ks=>On P fn Post ks s u m
def Nk (id:Nat):List KI→Option (List KI)
 | .blk j::k=>cond (Nat.beq j id) (some k) (Nk id k)
 | _::k=>Nk id k
 | []=>none
def Ai2 (ops:Array Oper)(done:List Nat)(i:Nat):Bool:=match ops[i]? with
 | some o=>!(done.contains i) && o.after.toList.all fun e=>!Region.binds .any e || done.contains e.on
 | none=>false
def Sm (ops:Array Oper):Nat→List Nat→List Nat
 | 0,done=>done.reverse
 | f+1,done=>match (List.range ops.size).find? (fun i=>Ai2 ops done i && (match ops[i]? with | some o=>Dy o.op | none=>false)) with
  | some i=>Sm ops f (i::done)
  | none=>match (List.range ops.size).find? (Ai2 ops done) with
   | some i=>Sm ops f (i::done)
   | none=>done.reverse
def Aol (ops:Array Oper):List Nat:=Sm ops ops.size []
def Ff:List KI→Bool
 | .reg ..::_=>false
 | _=>true
def one (P:Program)(ks:List KI)(s:S):Option (List KI×S) :=
 match ks with
 | .code .skip::k=>cond (Ff k) (some (k,s)) none
 | .code (.seq x y)::k=>some (.code x::.code y::k,s)
 | .code (.block id x)::k=>some (.code x::.blk id::k,s)
 | .code (.exit id)::k=>match Nk id k with | some k'=>cond (Ff k') (some (k',s)) none | none=>none
 | .code (.cond x y z)::k=>match s.ev x with
  | .v (.bool true)=>some (.code y::k,s)
  | .v (.bool false)=>some (.code z::k,s)
  | _=>none
 | .code (.region id ops false)::k=>some (.reg id ops false (List.range ops.size)::k,s)
 | .code (.region id ops true)::k=>cond (Ajp ops s (Aol ops)) (some (.reg id ops true (Aol ops)::k,s)) none
 | .blk _::k=>cond (Ff k) (some (k,s)) none
 | .reg _ _ _ []::k=>cond (Ff k) (some (k,s)) none
 | .reg id ops dr (i::l)::k=>match ops[i]? with
  | some o=>match Fu s o with
   | true=>match gv s ops o with
    | some true=>match eff P (id*1000+i) s o.op with
     | some (x,hw)=>some (.reg id ops dr l::k,(s.put o.dst x).setb hw)
     | none=>none
    | some false=>some (.reg id ops dr l::k,s.put o.dst (.v undef))
    | none=>none
   | false=>none
  | none=>none
 | _=>none
def run (P:Program):Nat→List KI×S→List KI×S
 | 0,st=>st
 | n+1,st=>match one P st.1 st.2 with
  | some st'=>run P n st'
  | none=>st
section sound
variable {P:Program} {fn:Func} {Post:B1}
theorem I5 {c:Cx}{id:Nat}:∀ {k k':List KI},Nk id k=some k'→∀ {a:Act} {w:World},Ho P fn Post c k' .normal a w→Ho P fn Post c k (.exit id) a w
 | .blk j::k,k',h,a,w,hc=>by
  unfold Nk at h;cases hb:Nat.beq j id with
  | true =>
   simp [hb] at h;subst h;have:=Nat.eq_of_beq_eq_true hb;subst this;simp [Ho,Exit.inBlock]; exact hc
  | false =>
   simp [hb] at h;have hne:id≠j:=fun e=>by subst e; simp at hb
   simp only [Ho,Exit.inBlock,if_neg hne];exact I5 h hc
 | .code x::k,k',h,a,w,hc=>by simp only [Nk] at h; simp only [Ho,Exit.then]; exact I5 h hc
 | .reg _ _ _ _::k,k',h,a,w,hc=>by simp only [Nk] at h; simp only [Ho]; exact I5 h hc
 | .lp J::k,k',h,a,w,hc=>by simp only [Nk] at h; simp only [Ho,Exit.then]; exact I5 h hc
 | [],k',h,a,w,hc=>by simp [Nk] at h
theorem Lq {c:Cx}{a:Act}{w:World}(h:Akq P fn (Alt c Post.post) .ret a w):∀ k:List KI,Ho P fn Post c k .ret a w
 | []=>h
 | .blk j::k=>by simp only [Ho,Exit.inBlock]; exact Lq h k
 | .code x::k=>by simp only [Ho,Exit.then]; exact Lq h k
 | .reg _ _ _ _::k=>by simp only [Ho]; exact Lq h k
 | .lp J::k=>by simp only [Ho,Exit.then]; exact Lq h k
theorem Rel.drew {a:Act}(h:Rel c s u m ρ a w):Rel c s u m ρ a { w with drawn:=w.drawn+1 } :=
 ⟨h.sz,h.tm,h.df,h.box,h.inj,h.lv,⟨h.gd.pu,h.gd.pm,h.gd.ap,h.gd.cl⟩,⟨h.gr.sz,h.gr.old,h.gr.us,h.gr.ms,h.gr.io,fun f=>⟨(h.gr.dr f).tape,Nat.le_succ_of_le (h.gr.dr f).dr⟩⟩⟩
theorem Rel.shut {t:Array Value}{d:Deferred}{dl:List Deferred}(hr:Rel c s u m ρ { tmps:=t,defers:=d::dl } w) :
  ∃ r w',d.target=.collected r∧(Instr.takeDeferred r).run P w=.ok [] w'∧Rel c s u m ρ { tmps:=t,defers:=dl } w':=by
 obtain ⟨ds,h1,h2,h3⟩:=hr.df;cases ds with
 | nil=>cases h2
 | cons r ds =>
  rw [List.map_cons,List.cons.injEq] at h2;obtain ⟨rfl,h2⟩:=h2;obtain ⟨e1,e2,e3,e4⟩:=h3 r List.mem_cons_self;have ho:∀ g,g≠r→(w.putObj r (.deferred none)).heap[g]?=w.heap[g]?:=fun g hg=>World.putObj_heap_other hg;have hs:(w.putObj r (.deferred none)).heap[r]?=some (.deferred none):=World.putObj_heap_same (Bu e1);refine ⟨r,w.putObj r (.deferred none),rfl,run_takeDeferred e1,hr.sz,hr.tm,⟨ds,(List.nodup_cons.1 h1).2,h2,fun r' hr'=>?_⟩,fun k b hb=>?_,hr.inj,hr.lv,⟨fun g o hg=>?_,fun g o hg=>?_,hr.gd.ap,fun g cs' t' fr' j z hg hj=>?_⟩,⟨?_,fun g hg hm=>?_,hr.gr.us,hr.gr.ms,hr.gr.io,fun f=>⟨(hr.gr.dr f).tape,(hr.gr.dr f).dr⟩⟩⟩
  ·rw [ho r' (fun e=>(List.nodup_cons.1 h1).1 (e ▸ hr'))];exact h3 r' (List.mem_cons_of_mem _ hr')
  ·obtain ⟨⟨cs,f1,f2,f3⟩,f4⟩:=hr.box k b hb;refine ⟨⟨cs,?_,f2,f3⟩,f4⟩;rw [ho _ (fun e=>by rw [e,e1] at f1; cases f1)]; exact f1
  ·rw [ho g (fun e=>by rw [e,e3] at hg; cases hg)]; exact hr.gd.pu g o hg
  ·rw [ho g (fun e=>by rw [e,e4] at hg; cases hg)]; exact hr.gd.pm g o hg
  ·rw [ho g (fun e=>by rw [e,hs] at hg; cases hg)] at hg;exact hr.gd.cl g cs' t' fr' j z hg hj
  ·rw [World.putObj_size]; exact hr.gr.sz
  ·rw [ho g (by omega)]; exact hr.gr.old g hg hm
theorem Rel.leaves {c:Cx}{R:Ending→World→Prop}{s:S}{u m:PH}{ρ:Nat→Nat}{t:Array Value}{v:Value}:∀ {dl:List Deferred} {w:World},Rel c s u m ρ { tmps:=t,defers:=dl } w →
  (∀ w',Rel c s u m ρ { tmps:=t,defers:=[] } w'→(results fn t).run P w'=.ok v w'∧R (.returned v) w')→LeavesInM Fence.wide 1 P fn t R dl .returning w
 | [],w,hr,hv=>⟨v,(hv w hr).1,(hv w hr).2⟩
 | d::dl,w,hr,hv=>by
  obtain ⟨r,w',h1,h2,h3⟩:=hr.shut (P:=P);exact ⟨by simp,.inl ⟨r,w',h1,h2,h3.leaves hv⟩⟩
theorem Rel.ends {c:Cx}{R:Ending→World→Prop}{s:S}{u m:PH}{ρ:Nat→Nat}{a:Act}{w:World}(hr:Rel c s u m ρ a w){v:Value}
  (hv:∀ w',Rel c s u m ρ { tmps:=a.tmps,defers:=[] } w'→(results fn a.tmps).run P w'=.ok v w'∧R (.returned v) w'):Akq P fn R .ret a w∧Akq P fn R .normal a w:=by
 have:=hr.leaves (P:=P) (fn:=fn) (R:=R) hv;exact ⟨this,this⟩
theorem Sym.reg_seq {k:List KI}(h:Ob P id ops false (On P fn Post k) (List.range ops.size) s u m):On P fn Post (.code (.region id ops false)::k) s u m:=by
 intro c ρ a w hm0 hr;simp only [Ho,Exit.then];exact wp_region (h.wpOps (fun s u m ρ a w hf hr=>hf c ρ a w hm0 hr) hr)
theorem Afo (h:Ajp ops s T=true):T.length=ops.size∧(∀ i,i < ops.size→i∈T)∧(∀ i∈T,i < ops.size)∧T.Nodup∧T.Pairwise (fun x y=>Ef ops s x y=true)∧(List.range ops.size).all (Hx ops)=true:=by
 unfold Ajp at h;simp only [Bool.and_eq_true] at h;obtain ⟨⟨⟨⟨h1,h2⟩,h3⟩,h4⟩,h5⟩:=h;rw [List.all_eq_true] at h2 h3;refine ⟨Nat.eq_of_beq_eq_true h1,fun i hi=>by simpa using h2 i (by simpa using hi),fun i hi=>Nat.blt_eq ▸ h3 i hi,?_,D6 h4,h5⟩;refine (D6 h4).imp fun {x y} hxy e=>?_;unfold Ef at hxy;subst e;simp at hxy
theorem Sym.reg_draw (hm:P.follows .mixedOrders=true)(hB:Ajp ops s T=true){k:List KI}(h:Ob P id ops true (On P fn Post k) T s u m):On P fn Post (.code (.region id ops true)::k) s u m:=by
 intro c ρ a w hm0 hr;simp only [Ho,Exit.then];obtain ⟨h1,h2,hlt,hnd,h3,h4⟩:=Afo hB;refine wp_region_any hm ?_;rw [show ops.size=T.length from h1.symm];refine Ob.wpAny (c:=c) hr.lv h4 (fun s u m ρ a w hf hr=>hf c ρ a w hm0 hr) T.length T _ rfl (by simp [h1]) (fun i hi=>?_) hlt hnd (fun i hi=>?_) h3 (Ei.refl _ _) h hr.drew
 ·have:i < T.length:=by omega
  simp [Array.getD_eq_getD_getElem?,this,h2 i hi]
 ·exfalso;simp only [Array.getD_eq_getD_getElem?] at hi;by_cases hlt:i < T.length
  ·simp [hlt] at hi
  ·rw [Array.getElem?_eq_none (by simp; omega)] at hi; simp at hi
theorem Sym.ofNo {ks:List KI}(hn:Ff ks=true):Sym P fn Post ks s u m=On P fn Post ks s u m:=by
 cases ks with
 | nil=>rfl
 | cons x k=>cases x <;> first | rfl | simp [Ff] at hn
theorem Lt (hm:P.follows .mixedOrders=true){ks ks':List KI}{s s':S}(h:one P ks s=some (ks',s'))(hk:Sym P fn Post ks' s' u m):Sym P fn Post ks s u m:=by
 unfold one at h;split at h
 ·rename_i k;cases hn:Ff k with
  | false=>simp [hn] at h
  | true =>
   simp [hn] at h; obtain ⟨rfl,rfl⟩:=h;rw [Sym.ofNo hn] at hk;exact fun c ρ a w hm0 hr=>wp_skip (hk c ρ a w hm0 hr)
 ·simp at h; obtain ⟨rfl,rfl⟩:=h;exact fun c ρ a w hm0 hr=>wp_seq (hk c ρ a w hm0 hr)
 ·simp at h; obtain ⟨rfl,rfl⟩:=h;exact fun c ρ a w hm0 hr=>wp_block (hk c ρ a w hm0 hr)
 ·rename_i id k;split at h
  ·rename_i k' hk';cases hn:Ff k' with
   | false=>simp [hn] at h
   | true =>
    simp [hn] at h; obtain ⟨rfl,rfl⟩:=h;rw [Sym.ofNo hn] at hk;exact fun c ρ a w hm0 hr=>wp_exit (I5 hk' (hk c ρ a w hm0 hr))
  ·cases h
 ·rename_i x y z k;split at h
  ·rename_i hx;simp at h; obtain ⟨rfl,rfl⟩:=h;exact fun c ρ a w hm0 hr=>wp_cond_true (by rw [hr.eval x (by rw [hx]; simp),hx]; rfl) (hk c ρ a w hm0 hr)
  ·rename_i hx;simp at h; obtain ⟨rfl,rfl⟩:=h;exact fun c ρ a w hm0 hr=>wp_cond_false (by rw [hr.eval x (by rw [hx]; simp),hx]; rfl) (hk c ρ a w hm0 hr)
  ·cases h
 ·simp at h; obtain ⟨rfl,rfl⟩:=h;exact Sym.reg_seq hk
 ·rename_i id ops k;cases hB:Ajp ops s (Aol ops) with
  | false=>simp [hB] at h
  | true =>
   simp [hB] at h; obtain ⟨rfl,rfl⟩:=h;exact Sym.reg_draw hm hB hk
 ·rename_i id k;cases hn:Ff k with
  | false=>simp [hn] at h
  | true =>
   simp [hn] at h; obtain ⟨rfl,rfl⟩:=h;rw [Sym.ofNo hn] at hk;exact fun c ρ a w hm0 hr=>hk c ρ a w hm0 hr
 ·rename_i k;cases hn:Ff k with
  | false=>simp [hn] at h
  | true =>
   simp [hn] at h; obtain ⟨rfl,rfl⟩:=h;rw [Sym.ofNo hn] at hk;exact .nil hk
 ·split at h
  ·rename_i o ho;split at h
   ·rename_i hd;split at h
    ·rename_i hg;split at h
     ·rename_i x hw he;simp at h; obtain ⟨rfl,rfl⟩:=h;exact .auto ho hg hd he hk
     ·cases h
    ·rename_i hg;simp at h; obtain ⟨rfl,rfl⟩:=h;exact .skip ho hg hd hk
    ·cases h
   ·cases h
  ·cases h
 ·cases h
theorem U3 (hm:P.follows .mixedOrders=true){u m:PH}:∀ (n:Nat) (st:List KI×S),Sym P fn Post (run P n st).1 (run P n st).2 u m→Sym P fn Post st.1 st.2 u m
 | 0,st,h=>h
 | n+1,st,h=>by
  unfold run at h;split at h
  ·rename_i st' he;obtain ⟨ks',s'⟩:=st';exact Lt hm he (U3 hm n _ h)
  ·exact h
end sound
end
section
variable {a:Act}{args:List Value}{c:Cx}{env:Operand→Value}{f:Nat}{o:Op}{op:BinOp}{s:S}{w:World}{x y:Value}{ρ:Nat→Nat}
variable [Ch]
class Ba (P:Program):Prop where
 mx:P.follows .mixedOrders=true
 ti:P.underlying 3=some (.int .i64)
theorem Wd {P:Program}[h:Ba P]{d:TypeId}{x:TypeDesc}(hd:P.underlying d=some x)(hx:x≠.int .i64):Alc d=false:=by
 unfold Alc;cases e:Nat.beq d 3 with
 | false=>rfl
 | true=>have:=Nat.eq_of_beq_eq_true e; subst this; rw [h.ti] at hd; cases hd; exact absurd rfl hx
structure G (P:Program)(fn:Func)(Post:B1)(st:List KI×S)(u m:PH):Prop where
 out:Sym P fn Post st.1 st.2 u m
def adv (P:Program)(st:List KI×S):List KI×S:=run P 3000 st
def ctl (P:Program):Nat→List KI×S→List KI×S
 | 0,st=>st
 | n+1,st=>cond (Ff st.1) st (match one P st.1 st.2 with | some st'=>ctl P n st' | none=>st)
def nx (st:List KI×S)(v:Value):List KI×S :=
 match st.1 with
 | .reg id ops dr (i::l)::k=>match ops[i]? with
  | some o=>(.reg id ops dr l::k,st.2.put o.dst (.v v))
  | none=>st
 | _=>st
def Ln (P:Program)(t:TypeId):Option Nat:=match P.underlying t with | some (.slice e)=>szB P e | _=>none
def Jq (P:Program)(t:TypeId):Option (TypeId×Nat×Nat×Value) :=
 match P.underlying t with
 | some (.slice e)=>match P.info? e with
  | some i=>match i.zero with | some z=>some (e,i.size,i.bytes,z) | none=>none
  | none=>none
 | _=>none
def Xl (P:Program)(t:TypeId):Option (Option Nat) :=
 match J9 P t with
 | some true=>match szB P t with | some n=>some (some n) | none=>none
 | some false=>some none
 | none=>none
inductive Tb where
 | other
 | bin (op:BinOp) (x y:Value)
 | binT (op:BinOp) (t:Option TypeDesc) (x y:Value)
 | un (op:UnOp) (x:Value)
 | conv (src dst:Option TypeDesc) (x:Value)
 | index (t:Option TypeDesc) (x i:Value)
 | addr (sz:Option Nat) (x i:Value)
 | slice (sz:Option Nat) (x:Value) (lo hi mx:Option Value)
 | load (k:Option (Option Nat)) (a:Value)
 | store (sz:Option Nat) (a v:Value)
 | make (e:Option (TypeId×Nat×Nat×Value)) (l c:Value)
 | call (f:Nat) (args:List Value)
 | app (e:Option (TypeId×Nat×Nat×Value)) (same:Bool) (args:List Value)
 | blt (b:Builtin) (ts:List TypeId) (args:List Value)
 | build (t:TypeId) (parts:List (Nat×Value))
 | buildS (e:Option (TypeId×Nat×Nat×Value)) (n:Nat) (parts:List (Nat×Value))
 | field (t:TypeId) (x:Value) (f:Nat)
 | fieldA (t:TypeId) (x:Value) (f:Nat)
def A6 (P:Program)(env:Operand→Value):Op→Tb
 | .binOp op t x y _=>match env x with
  | .int k a=>.bin op (.int k a) (env y)
  | .string a=>.bin op (.string a) (env y)
  | z=>.binT op (P.underlying t) z (env y)
 | .unOp op _ x=>.un op (env x)
 | .convert s d x=>.conv (P.underlying s) (P.underlying d) (env x)
 | .index t x i=>.index (P.underlying t) (env x) (env i)
 | .indexAddr t x i=>.addr (Ln P t) (env x) (env i)
 | .slice t x lo hi mx=>.slice (Ln P t) (env x) (lo.map env) (hi.map env) (mx.map env)
 | .load t a=>.load (Xl P t) (env a)
 | .store t a v=>.store (szB P t) (env a) (env v)
 | .makeSlice t l c=>.make (Jq P t) (env l) (env c)
 | .build t ps=>.build t (ps.toList.map fun (i,x)=>(i,env x))
 | .buildSlice t n ps=>.buildS (Jq P t) n (ps.toList.map fun (i,x)=>(i,env x))
 | .field t x f=>.field t (env x) f
 | .fieldAddr t x f=>.fieldA t (env x) f
 | .call c=>match c.callee with
  | .value f=>match env f with
   | .func (.func n) first cap=>.call n (first.toList++c.args.toList.map env++cap.toList)
   | _=>.other
  | .builtin b=>match b with
   | .append=>match c.argTypes.toList with
    | [t,t']=>.app (Jq P t) (Nat.beq t t') (c.args.toList.map env)
    | _=>.other
   | b=>.blt b c.argTypes.toList (c.args.toList.map env)
  | _=>.other
 | _=>.other
def Ak (P:Program)(st:List KI×S):Tb :=
 match st.1 with
 | .reg _ ops _ (i::_)::_=>match ops[i]? with
  | some o=>match Fu st.2 o && (Kq st.2 o.op && K8 o.op) with
   | true=>match gv st.2 ops o with
    | some true=>A6 P (Kg st.2) o.op
    | _=>.other
   | false=>.other
  | none=>.other
 | _=>.other
def Wm (P:Program)(s:S):ResultVar→Option Value
 | .tmp t=>match s.tm t with | .v x=>some x | _=>none
 | .cell a t=>match s.tm a with
  | .p k off=>match s.hp k with
   | some b=>match ldv P t b.cells off with | some (.v y)=>some y | _=>none
   | none=>none
  | _=>none
def Pk (P:Program)(s:S):List ResultVar→Option (List Value)
 | []=>some []
 | r::l=>match Wm P s r with
  | some x=>match Pk P s l with | some xs=>some (x::xs) | none=>none
  | none=>none
def Ac4:List Value→Value
 | [x]=>x
 | l=>.tuple l.toArray
def Ani (P:Program)(fn:Func)(st:List KI×S):Option Value :=
 match st.1 with
 | .code .ret::_ | []=>match Pk P st.2 fn.results.toList with | some l=>some (Ac4 l) | none=>none
 | _=>none
section rules
variable {P:Program} [Ba P] {fn:Func} {Post:B1} {st:List KI×S} {u m:PH}
theorem G.stp (h:G P fn Post (adv P st) u m):G P fn Post st u m:=⟨U3 Ba.mx 3000 st h.out⟩
theorem Iy:∀ (n:Nat) (st:List KI×S),Sym P fn Post (ctl P n st).1 (ctl P n st).2 u m→Sym P fn Post st.1 st.2 u m
 | 0,st,h=>h
 | n+1,st,h=>by
  unfold ctl at h;cases hn:Ff st.1 with
  | true=>simp [hn] at h; exact h
  | false =>
   simp only [hn,cond_false] at h;split at h
   ·rename_i st' he;obtain ⟨ks',s'⟩:=st';exact Lt Ba.mx he (Iy n _ h)
   ·exact h
theorem H2 {V:Tb}(h:Ak P st=V)(hV:V≠.other):∃ id ops dr i l k s o,st=(.reg id ops dr (i::l)::k,s)∧ops[i]?=some o∧gv s ops o=some true∧Fu s o=true∧Kq s o.op=true∧K8 o.op=true∧A6 P (Kg s) o.op=V ∧
  ∀ v,nx st v=(.reg id ops dr l::k,s.put o.dst (.v v)):=by
 obtain ⟨ks,s⟩:=st;unfold Ak at h;simp only at h;split at h
 ·rename_i id ops dr i l k;split at h
  ·rename_i o ho;split at h
   ·rename_i hb;simp only [Bool.and_eq_true] at hb;split at h
    ·rename_i hg;exact ⟨id,ops,dr,i,l,k,s,o,rfl,ho,hg,hb.1,hb.2.1,hb.2.2,h,fun v=>by simp [nx,ho]⟩
    ·exact absurd h.symm hV
   ·exact absurd h.symm hV
  ·exact absurd h.symm hV
 ·exact absurd h.symm hV
theorem Adw {V:Tb}(h:A6 P env o=V)(hV:V≠.other):Eb o=false:=by
 cases o <;> first | rfl | (simp only [A6] at h; exact absurd h.symm hV)
theorem G.ask {V:Tb}{v:Value}(h:Ak P (adv P st)=V)(hV:V≠.other)(hr:∀ env (o:Oper),A6 P env o.op=V→∀ w,(F8 o.op=true→D7 u w∧D7 m w)→(execOp env o).run P w=.ok (.value v) w)
  (k:G P fn Post (nx (adv P st) v) u m):G P fn Post st u m:=by
 refine G.stp ?_;obtain ⟨id,ops,dr,i,l,kk,s,o,e,ho,hg,hd,hv,hs,hview,hnx⟩:=H2 h hV;have k:=k.out;rw [hnx] at k;rw [e];exact ⟨Ob.ask ho hg hd hv hs (Adw hview hV) (fun w hp=>hr _ o hview w hp) k⟩
theorem G.big {V:Tb}{K:Value→PH→PH→Prop}(h:Ak P (adv P st)=V)(hV:V≠.other)(hf:∀ env op,A6 P env op=V→Dy op=false)(hk:(∀ v u' m',K v u' m'→PH.le m m')∨(∀ env op,A6 P env op=V→Kj op=true))
  (hr:∀ env (o:Oper),A6 P env o.op=V→∀ w,Bw u m w→D5 P env o w fun v w'=>∃ u' m',Bw u' m' w'∧Bz u m w u' m' w'∧K v u' m')
  (k:∀ v u' m',PH.le u u'→K v u' m'→G P fn Post (nx (adv P st) v) u' m'):G P fn Post st u m:=by
 refine G.stp ?_;obtain ⟨id,ops,dr,i,l,kk,s,o,e,ho,hg,hd,hv,hs,hview,hnx⟩:=H2 h hV;rw [e];refine ⟨?_⟩;refine Ob.big (K:=K) ho hg hd hv hs (hf _ _ hview) (fun v u' m' hK=>?_) (fun w hgd=>hr _ o hview w hgd) (fun v u' m' h1 h2=>?_)
 ·rcases hk with hk | hk
  ·exact .inl (hk v u' m' hK)
  ·exact .inr (.inr (.inl (Afq (hk _ _ hview))))
 ·have:=(k v u' m' h1 h2).out;rw [hnx] at this;exact this
theorem Agp (h:A6 P env o=.bin op x y):∃ t X Y yt,o=.binOp op t X Y yt∧env X=x∧env Y=y:=by
 cases o <;> simp only [A6] at h <;> try cases h
 ·split at h
  ·rename_i hx; simp at h; obtain ⟨rfl,rfl,rfl⟩:=h; exact ⟨_,_,_,_,rfl,hx,rfl⟩
  ·rename_i hx; simp at h; obtain ⟨rfl,rfl,rfl⟩:=h; exact ⟨_,_,_,_,rfl,hx,rfl⟩
  ·cases h
 ·(repeat' split at h) <;> cases h
theorem Pz {d:Option TypeDesc}(h:A6 P env o=.binT op d x y):∃ t X Y yt,o=.binOp op t X Y yt∧env X=x∧env Y=y∧P.underlying t=d:=by
 cases o <;> simp only [A6] at h <;> try cases h
 ·split at h
  ·cases h
  ·cases h
  ·simp at h; obtain ⟨rfl,rfl,rfl,rfl⟩:=h; exact ⟨_,_,_,_,rfl,rfl,rfl,rfl⟩
 ·(repeat' split at h) <;> cases h
theorem Vr (h:A6 P env o=.call f args):∃ c F first cap,o=.call c∧c.callee=.value F∧env F=.func (.func f) first cap∧args=first.toList++c.args.toList.map env++cap.toList:=by
 cases o <;> simp only [A6] at h <;> try cases h
 ·split at h <;> cases h
 split at h
 ·rename_i c F hc;split at h
  ·rename_i n first cap he
   simp only [Tb.call.injEq] at h;obtain ⟨rfl,rfl⟩:=h;exact ⟨_,F,first,cap,rfl,hc,he,rfl⟩
  ·cases h
 ·(repeat' split at h) <;> cases h
 ·cases h
theorem G.bin {op:BinOp}{x y:Value}(v:Value)(h:Ak P (adv P st)=.bin op x y)(hg:∀ t X Y w,(eqGuard op t X Y x y).run P w=.ok () w)(hr:∀ t w,(binOp op t x y).run P w=.ok v w)
  (k:G P fn Post (nx (adv P st) v) u m):G P fn Post st u m:=by
 refine G.ask h (by simp) (fun env o hview w _=>?_) k;obtain ⟨t,X,Y,yt,e,rfl,rfl⟩:=Agp hview;obtain ⟨dst,opp,type,pos,after,guard⟩:=o;simp only at e; subst e;simp [execOp,hg,hr]
theorem Cy {k:IntKind}{x y:Int}(t:TypeId)(X Y:Operand)(w:World):(eqGuard op t X Y (.int k x) (.int k y)).run P w=.ok () w:=by
 unfold eqGuard; split <;> simp
theorem D3 {z:Int}(h1:-9223372036854775808≤z)(h2:z≤9223372036854775807):IntKind.i64.wrap z=z:=by
 simp only [IntKind.wrap,IntKind.signed,IntKind.bits]; simp; omega
theorem G.add (x y z:Int)(h:Ak P (adv P st)=.bin .add (.int .i64 x) (.int .i64 y))(hz:x+y=z)(h1:-9223372036854775808≤z)(h2:z≤9223372036854775807)
  (k:G P fn Post (nx (adv P st) (.int .i64 z)) u m):G P fn Post st u m :=
 G.bin _ h Cy (fun t w=>by simp [binOp,Op.intArith,hz,D3 h1 h2]) k
theorem G.sub (x y z:Int)(h:Ak P (adv P st)=.bin .sub (.int .i64 x) (.int .i64 y))(hz:x - y=z)(h1:-9223372036854775808≤z)(h2:z≤9223372036854775807)
  (k:G P fn Post (nx (adv P st) (.int .i64 z)) u m):G P fn Post st u m :=
 G.bin _ h Cy (fun t w=>by simp [binOp,Op.intArith,hz,D3 h1 h2]) k
theorem G.mul (x y z:Int)(h:Ak P (adv P st)=.bin .mul (.int .i64 x) (.int .i64 y))(hz:x*y=z)(h1:-9223372036854775808≤z)(h2:z≤9223372036854775807)
  (k:G P fn Post (nx (adv P st) (.int .i64 z)) u m):G P fn Post st u m :=
 G.bin _ h Cy (fun t w=>by simp [binOp,Op.intArith,hz,D3 h1 h2]) k
def B4:BinOp→Int→Int→Bool
 | .eql,x,y=>decide (x=y)
 | .neq,x,y=>decide (x≠y)
 | .lss,x,y=>decide (x < y)
 | .leq,x,y=>decide (x≤y)
 | .gtr,x,y=>decide (x > y)
 | .geq,x,y=>decide (x≥y)
 | _,_,_=>false
def Ana:BinOp→Bool
 | .eql | .neq | .lss | .leq | .gtr | .geq=>true
 | _=>false
theorem G.cmpG (op:BinOp)(kk:IntKind)(x y:Int)(b:Bool)(h:Ak P (adv P st)=.bin op (.int kk x) (.int kk y))(hop:Ana op=true)(hb:B4 op x y=b)
  (k:G P fn Post (nx (adv P st) (.bool b)) u m):G P fn Post st u m:=by
 refine G.bin _ h Cy (fun t w=>?_) k;subst hb;cases op <;> simp [Ana] at hop <;> simp [binOp,Op.intCmp,B4]
 ·rw [Bool.eq_iff_iff]; simp
 ·rw [Bool.eq_iff_iff]; simp
theorem G.eqlT (x y:Int)(h:Ak P (adv P st)=.bin .eql (.int .i64 x) (.int .i64 y))(hb:x=y)(k:G P fn Post (nx (adv P st) (.bool true)) u m):G P fn Post st u m :=
 G.cmpG .eql .i64 x y true h rfl (by simp only [B4,decide_eq_true_eq]; exact hb) k
theorem G.eqlF (x y:Int)(h:Ak P (adv P st)=.bin .eql (.int .i64 x) (.int .i64 y))(hb:¬ (x=y))(k:G P fn Post (nx (adv P st) (.bool false)) u m):G P fn Post st u m :=
 G.cmpG .eql .i64 x y false h rfl (by simp only [B4,decide_eq_false_iff_not]; exact hb) k
theorem G.neqT (x y:Int)(h:Ak P (adv P st)=.bin .neq (.int .i64 x) (.int .i64 y))(hb:x≠y)(k:G P fn Post (nx (adv P st) (.bool true)) u m):G P fn Post st u m :=
 G.cmpG .neq .i64 x y true h rfl (by simp only [B4,decide_eq_true_eq]; exact hb) k
theorem G.neqF (x y:Int)(h:Ak P (adv P st)=.bin .neq (.int .i64 x) (.int .i64 y))(hb:¬ (x≠y))(k:G P fn Post (nx (adv P st) (.bool false)) u m):G P fn Post st u m :=
 G.cmpG .neq .i64 x y false h rfl (by simp only [B4,decide_eq_false_iff_not]; exact hb) k
theorem G.lssT (x y:Int)(h:Ak P (adv P st)=.bin .lss (.int .i64 x) (.int .i64 y))(hb:x < y)(k:G P fn Post (nx (adv P st) (.bool true)) u m):G P fn Post st u m :=
 G.cmpG .lss .i64 x y true h rfl (by simp only [B4,decide_eq_true_eq]; exact hb) k
theorem G.lssF (x y:Int)(h:Ak P (adv P st)=.bin .lss (.int .i64 x) (.int .i64 y))(hb:¬ (x < y))(k:G P fn Post (nx (adv P st) (.bool false)) u m):G P fn Post st u m :=
 G.cmpG .lss .i64 x y false h rfl (by simp only [B4,decide_eq_false_iff_not]; exact hb) k
theorem G.leqT (x y:Int)(h:Ak P (adv P st)=.bin .leq (.int .i64 x) (.int .i64 y))(hb:x≤y)(k:G P fn Post (nx (adv P st) (.bool true)) u m):G P fn Post st u m :=
 G.cmpG .leq .i64 x y true h rfl (by simp only [B4,decide_eq_true_eq]; exact hb) k
theorem G.leqF (x y:Int)(h:Ak P (adv P st)=.bin .leq (.int .i64 x) (.int .i64 y))(hb:¬ (x≤y))(k:G P fn Post (nx (adv P st) (.bool false)) u m):G P fn Post st u m :=
 G.cmpG .leq .i64 x y false h rfl (by simp only [B4,decide_eq_false_iff_not]; exact hb) k
theorem G.gtrT (x y:Int)(h:Ak P (adv P st)=.bin .gtr (.int .i64 x) (.int .i64 y))(hb:x > y)(k:G P fn Post (nx (adv P st) (.bool true)) u m):G P fn Post st u m :=
 G.cmpG .gtr .i64 x y true h rfl (by simp only [B4,decide_eq_true_eq]; exact hb) k
theorem G.gtrF (x y:Int)(h:Ak P (adv P st)=.bin .gtr (.int .i64 x) (.int .i64 y))(hb:¬ (x > y))(k:G P fn Post (nx (adv P st) (.bool false)) u m):G P fn Post st u m :=
 G.cmpG .gtr .i64 x y false h rfl (by simp only [B4,decide_eq_false_iff_not]; exact hb) k
theorem G.geqT (x y:Int)(h:Ak P (adv P st)=.bin .geq (.int .i64 x) (.int .i64 y))(hb:x≥y)(k:G P fn Post (nx (adv P st) (.bool true)) u m):G P fn Post st u m :=
 G.cmpG .geq .i64 x y true h rfl (by simp only [B4,decide_eq_true_eq]; exact hb) k
theorem G.geqF (x y:Int)(h:Ak P (adv P st)=.bin .geq (.int .i64 x) (.int .i64 y))(hb:¬ (x≥y))(k:G P fn Post (nx (adv P st) (.bool false)) u m):G P fn Post st u m :=
 G.cmpG .geq .i64 x y false h rfl (by simp only [B4,decide_eq_false_iff_not]; exact hb) k
def Fn0 (P:Program)(f:FuncId)(args:List Value)(u:PH)(R:Value→PH→Prop):Prop:=Ai P f args u PH.mt (fun v u' m'=>m'=PH.mt∧R v u')
theorem D7.mt (w:World):D7 PH.mt w:=fun _ _ h=>by cases h
theorem Bw.noM (h:Bw u m w):Bw u PH.mt w:=⟨h.pu,D7.mt w,fun _=>.inr rfl,h.cl⟩
theorem Bw.frame {u':PH}{w w':World}(h:Bw u m w)(g:Bw u' PH.mt w')(gr:Bz u PH.mt w u' PH.mt w'):Bw u' m w'∧Bz u m w u' m w':=by
 refine ⟨⟨g.pu,fun b o hb=>?_,fun b=>?_,g.cl⟩,⟨gr.sz,fun b hb _=>gr.old b hb rfl,gr.us,fun b _ hb=>hb,gr.io,gr.dr⟩⟩
 ·rw [gr.old b (h.pm.lt hb) rfl]; exact h.pm b o hb
 ·cases hb:m b with
  | none=>exact .inr rfl
  | some o =>
   rw [gr.us b (h.pm.lt hb)];rcases h.ap b with e | e
   ·exact .inl e
   ·rw [hb] at e; cases e
theorem L3 {env:Operand→Value}{o:Oper}{f:Nat}{args:List Value}(hview:A6 P env o.op=.call f args)(hc:∀ args w,(callFunc f args).run P w=.ok (.enter f args) w)(w:World)(K:Value→World→Prop)
  (h:Calls P f args.toArray w fun e w'=>∃ v,e=.returned v∧K v w'):D5 P env o w K:=by
 obtain ⟨c,F,first,cap,e,hcal,hF,rfl⟩:=Vr hview
 obtain ⟨dst,opp,type,pos,after,guard⟩:=o;simp only at e; subst e;have:(execOp env ⟨dst,.call c,type,pos,after,guard⟩).run P w=.ok (.enter f ((first++c.args.map env)++cap)) w:=by
  simp [execOp,resolve,hcal,hF,Deferred.ofValue,invoke,hc]
 unfold D5;rw [this];simp only;have ea:(first.toList++c.args.toList.map env++cap.toList).toArray=(first++c.args.map env)++cap:=by
  apply Array.ext'; simp
 rw [← ea]; exact h
theorem Fg (env:Operand→Value)(op:Op)(h:A6 P env op=.call f args):Dy op=false:=by
 obtain ⟨c,F,first,cap,rfl,hcal,_⟩:=Vr h
 obtain ⟨cal,a,t⟩:=c;simp only at hcal; subst hcal;rfl
theorem G.call0 (f:Nat)(args:List Value){R:Value→PH→Prop}(h:Ak P (adv P st)=.call f args)(hc:∀ args w,(callFunc f args).run P w=.ok (.enter f args) w)(c:Fn0 P f args u R)
  (k:∀ v u',PH.le u u'→R v u'→G P fn Post (nx (adv P st) v) u' m):G P fn Post st u m:=by
 refine G.big (K:=fun v u' m'=>m'=m∧R v u') h (by simp) Fg (.inl fun v u' m' hK=>by rw [hK.1]; exact PH.le_refl _) (fun env o hview w hgd=>?_) (fun v u' m' h1 h2=>?_)
 ·refine L3 hview hc w _ (Calls.mono (c w hgd.noM) fun e w' he=>?_);obtain ⟨v,u',m',e1,e2,e3,rfl,e4⟩:=he;obtain ⟨g1,g2⟩:=hgd.frame e2 e3;exact ⟨v,e1,u',m,g1,g2,rfl,e4⟩
 ·obtain ⟨rfl,h2⟩:=h2;exact k v u' h1 h2
def S.init (n:Nat)(args:List Value):S:={ n:=n,tm:=fun d=>match args[d]? with | some x=>.v x | none=>.junk,hp:=fun _=>none }
def Aa5 (fn:Func):Code:=match fn.body with | some c=>c | none=>.skip
def st0 (fn:Func)(args:List Value):List KI×S:=([.code (Aa5 fn)],S.init fn.ntmps args)
theorem Ai.of {PostV:Value→PH→PH→Prop}{f:FuncId}(hf:P.funcs[f]?=some fn)(hb:fn.body.isSome=true)(hn:Nat.ble args.length fn.ntmps=true)(h:G P fn ⟨PostV,m⟩ (st0 fn args) u m):Ai P f args u m PostV:=by
 intro w hgd;have hn:=Nat.le_of_ble_eq_true hn;have hb':fn.body=some (Aa5 fn):=by unfold Aa5; cases hc:fn.body with | none=>simp [hc] at hb | some c=>rfl
 refine callsIn_wide.1 (callsIn_of_wp_marks (n:=1) hf hb' trivial (wpIn_wide.2 ?_) rfl);have hr:Rel ⟨w,u,m⟩ (S.init fn.ntmps args) u m (fun _=>0) { tmps:=args.toArray++Array.replicate (fn.ntmps - args.toArray.size) undef,defers:=[] } w:=by
  refine ⟨?_,fun d hd=>?_,Aar.nil _ _ _ _,fun k b hb=>?_,fun k j hk=>absurd rfl hk,⟨fun d k off hd=>?_,fun j b k off hj=>?_⟩,hgd,Bz.refl _ _ _⟩
  ·simp [S.init]; omega
  ·simp only [S.init] at hd ⊢;split at hd
   ·rename_i x hx;have hlt:d < args.length:=by rcases List.getElem?_eq_some_iff.1 hx with ⟨h,_⟩; exact h
    simp only [hx,SV.den];rw [Array.getElem?_append_left (by simpa using hlt)];simpa using hx
   ·exact absurd rfl hd
  ·cases hb
  ·simp only [S.init] at hd; split at hd <;> cases hd
  ·cases hj
 exact h.out _ _ _ _ rfl hr
theorem Fn0.of {R:Value→PH→Prop}{f:FuncId}{args:List Value}(hf:P.funcs[f]?=some fn)(hb:fn.body.isSome=true)(hn:Nat.ble args.length fn.ntmps=true)(h:G P fn ⟨fun v u' m'=>m'=PH.mt∧R v u',PH.mt⟩ (st0 fn args) u PH.mt):Fn0 P f args u R :=
 Ai.of hf hb hn h
def Rr (t:Array Value):ResultVar→Sem Value
 | .tmp d=>pure (t.getD d undef)
 | .cell p ty=>do loadVar ty (← asAddr (t.getD p undef))
theorem Abq (hr:Rel c s u m ρ a w){r:ResultVar}(h:Wm P s r=some x):(Rr a.tmps r).run P w=.ok x w:=by
 cases r with
 | tmp t =>
  simp only [Wm] at h;split at h
  ·rename_i y hy;simp at h; subst h;have:=hr.tm t (by rw [hy]; simp);rw [hy] at this;simp [Rr,this,SV.den]
  ·cases h
 | cell p t =>
  simp only [Wm] at h;split at h
  ·rename_i k off hp;split at h
   ·rename_i b hb;split at h
    ·rename_i y hy;simp at h; subst h;have:=hr.tm p (by rw [hp]; simp);rw [hp] at this;obtain ⟨h1,_,_⟩:=Adu (P:=P) (w:=w) (hr.box k b hb).1 hy;simp [Rr,this,SV.den,asAddr];exact h1
    ·cases h
   ·cases h
  ·cases h
theorem Qc (hr:Rel c s u m ρ a w){l:List Value}(h:Pk P s fn.results.toList=some l):(results fn a.tmps).run P w=.ok (Ac4 l) w:=by
 have key:∀ (rs:List ResultVar) (l:List Value),Pk P s rs=some l→(rs.mapM (Rr a.tmps)).run P w=.ok l w:=by
  intro rs;induction rs with
  | nil=>intro l h; simp [Pk] at h; subst h; simp
  | cons r rs ih =>
   intro l h;unfold Pk at h;split at h
   ·rename_i x hx;split at h
    ·rename_i xs hxs;simp at h; subst h;rw [List.mapM_cons];simp only [Sem.run_bind,Abq hr hx,Result.andThen_ok,ih xs hxs,Sem.run_pure]
    ·cases h
   ·cases h
 have e:results fn a.tmps=(do let vs ← fn.results.mapM (Rr a.tmps); pure (if h:vs.size=1 then vs[0] else .tuple vs)):=by
  unfold results; rfl
 rw [e,← Array.toArray_toList (xs:=fn.results),List.mapM_toArray];simp only [Sem.run_bind,Sem.run_map,key _ l h,Result.andThen_ok,Sem.run_pure]
 congr 1
 match l with
 | []=>rfl
 | [x]=>rfl
 | x::y::l=>rfl
theorem G.ret (v:Value)(h:Ani P fn (adv P st)=some v)(hp:Post.post v u m):G P fn Post st u m:=by
 refine G.stp ?_;generalize adv P st=st' at h;obtain ⟨ks,s⟩:=st';unfold Ani at h;simp only at h;split at h
 ·rename_i k;split at h
  ·rename_i l hl;simp at h; subst h;refine ⟨?_⟩;intro c ρ a w hm0 hr;exact wp_ret (Lq (hr.ends fun w' hr'=>⟨Qc (a:=⟨a.tmps,[]⟩) hr' hl,_,_,_,rfl,hr'.gd,hr'.gr,hp⟩).1 _)
  ·cases h
 ·split at h
  ·rename_i l hl;simp at h; subst h;refine ⟨?_⟩;intro c ρ a w hm0 hr;exact (hr.ends fun w' hr'=>⟨Qc (a:=⟨a.tmps,[]⟩) hr' hl,_,_,_,rfl,hr'.gd,hr'.gr,hp⟩).2
  ·cases h
 ·cases h
end rules
end
end Go.Proofs.YtabiglokbnfciaaGreatDoor
