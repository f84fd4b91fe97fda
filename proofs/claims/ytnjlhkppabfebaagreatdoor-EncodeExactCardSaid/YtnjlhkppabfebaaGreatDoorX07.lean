/- Parts of one proof, joined by a program. -/
import Derived.Test.YtnjlhkppabfebaaGreatDoorX06
import Derived.Shelf.SlIter.Collect
import Derived.Shelf.SlSortCmp.WholeK
import Derived.Ground.SlsfProg
import Derived.Test.YtnjlhkppabfebaaGreatDoorProg
import Derived.Shelf.SlSortCmp.NoneTotal
set_option linter.defProp false
set_option linter.unusedVariables false
set_option linter.unusedSimpArgs false
set_option linter.unusedSectionVars false
set_option maxHeartbeats 16000000
namespace Go.Proofs.YtnjlhkppabfebaaGreatDoor
open Go.Proofs.Tryz
open Go.RowKit Go.MapKept
def Baq:=@Array.ext_getElem?
def A83:=@Array.size_modify
def A9e:=@List.getElem_inj
def A52:=@List.findIdx?_eq_some_iff_getElem
def A2y:=@List.getElem_of_mem
def A7w:=@List.getElem_take
def A3v:=@List.getElem_map
def A8z:=@List.map_replicate
def A11:=@List.not_mem_nil
section
open Go.RowKit Go.MapKept Go.Shelf
set_option maxRecDepth 100000 in
theorem Bpr (n l Bm g:Nat)(es:Array MapEntry)(clock:Nat)(lk:List (Par×Value))(J:List Par->World->Prop)(hs:Stamped es clock)(hkv:es.toList.map (fun e=>(e.key,e.val))=lk.map (fun p=>(Ap p.1,p.2)))(hnd:(lk.map (·.1)).Nodup)
 (hY:∀ pre x W,J pre W->pre.length<lk.length->YieldAt Fence.wide (n-1) prog l #[Ap x] W fun e W'=>e=.returned (.bool true)/\J (pre++[x]) W'/\KeepsWalks W W')
 (W:World) (hJ:AbidesFrom W.heap.size J) (hm:W.cell? ⟨Bm,0,none⟩=some (.map (some g))) (hg:W.heap[g]?=some (.map es clock)) (h0:J [] W) :
 CallsIn Fence.wide n prog 165 #[.func (.yield l) #[] #[],.pointer (some ⟨Bm,0,none⟩)] W fun e W'=>(∃ v,e=.returned v)/\∃ ss:List Par,(ss.Nodup/\∀ k,k∈ss↔k∈lk.map (·.1))/\J ss W':=by
 have mixed:prog.follows .mixedOrders=true:=kV
 refine callsIn_of_wp func165 rfl trivial ?_ rfl;simp only[ntmps165,A7s,A3f,A30,Nat.reduceAdd,Nat.reduceSub,Array.replicate_succ,Array.replicate_zero,List.push_toArray,List.append_toArray,A3q,A4x]
 gi_wp2_with (first
  |(gi_at_range;refine Bhp rfl _ 121 77 120 rfl kV g es clock rfl hg ?_)
  |gi_in)
 go_frame
 gi_loopw [3] (fun _ wr=>∃ (D:List MapEntry) (L:List (Par×Value)),wr.heap[W.heap.size]?=some (.mapIter (some g) clock (Ar D) clock)/\Gj Ap es lk D L/\wr.heap[g]?=some (.map es clock)/\W.heap.size<=wr.heap.size/\J (L.map (·.1)) wr)
  (fun _ wr=>Bje es W.heap.size wr)
 case atStart =>
  refine⟨[],[],Cn _ _,Gj.nil _ _,by rw[Aq _ _ (Aw hg)];exact hg,by rw[B6];omega,?_⟩;exact hJ [] W _ none h0 ⟨rfl,rfl,rfl,by rw[B6];omega,fun k hk _=>Aq _ _ hk⟩ (fun r e=>by cases e)
 case round =>
  obtain⟨D,L,hit,hS,hgr,hsz,hJs⟩:=hrel
  gi_wp2_with (first
   |(gi_at_next;refine Bht rfl _ rfl W.heap.size g es clock D rfl hit hgr hs hS.it ?_ ?_)
   |gi_in)
  ·intro hp
   gi_wp2
   go_end0
   have hall:=hS.all Bq.inj hkv hp;exact⟨⟨_,rfl⟩,L.map (·.1),⟨hS.nod,fun k=>⟨fun h=>by
    obtain⟨y,hy,rfl⟩:=A1b.1 h;exact A1b.2 ⟨y,hS.sub y hy,rfl⟩,fun h=>by
    obtain⟨y,hy,rfl⟩:=A1b.1 h;exact A1b.2 ⟨y,hall y hy,rfl⟩⟩⟩,hJs⟩
  ·intro e w2 he0 hi hit2 hgb;have he:e∈es.toList:=by simpa using he0
   obtain⟨p,hp,hek,hev,hnew,hS'⟩:=hS.snoc Bq.inj hkv hnd he hi;have hgw2:w2.heap[g]?=some (.map es clock):=(hgb.block g (Aw hgr) (fun e=>by cases e;rw[hit]at hgr;cases hgr)).trans hgr;have hen:=Bj6 (P:=prog) hit2 hgw2 hs he;rw[hek,hev,show Ap p.1=.agg #[.int .i64 p.1.1,.string (mkS p.1.2)] from rfl]at hen⊢;have hl2:=Aw hit2;have hlen:=hS'.len;simp only[A1d,A3f,A30]at hlen;have hJ2:J (L.map (·.1)) w2:=hJ _ wr w2 (some W.heap.size) hJs hgb (fun r e=>by cases e;exact⟨A08 _,_,hit,rfl⟩);have hJ3:J (L.map (·.1)) (w2.alloc (.cells #[.int .i64 p.1.1,.string (mkS p.1.2)] 77)):=hJ _ w2 _ none hJ2 ⟨rfl,rfl,rfl,by rw[B6];omega,fun k hk _=>Aq _ _ hk⟩ (fun r e=>by cases e);have hS2:w2.heap.size≥W.heap.size:=A04 hsz hgb.size;obtain⟨fn,tmps,assign,body,hy,hR⟩:=hY (L.map (·.1)) p.1 _ hJ3 (by rw[A03];omega);have hy':(Instr.yield l #[.agg #[.int .i64 p.1.1,.string (mkS p.1.2)]]).run prog (w2.alloc (.cells #[.int .i64 p.1.1,.string (mkS p.1.2)] 77))=.ok (.round l fn tmps assign body) (w2.alloc (.cells #[.int .i64 p.1.1,.string (mkS p.1.2)] 77)):=hy;have hit3:∀ W3,KeepsWalks (w2.alloc (.cells #[.int .i64 p.1.1,.string (mkS p.1.2)] 77)) W3->W3.heap[W.heap.size]?=some (.mapIter (some g) clock (Ar (D++[e])) clock)/\W3.heap[g]?=some (.map es clock)/\W.heap.size<=W3.heap.size:=fun W3 hk =>
    ⟨hk.same _ _ (by rw[Aq _ _ hl2];exact hit2) rfl,hk.same _ _ (by rw[Aq _ _ (Aw hgw2)];exact hgw2) rfl,by have:=hk.size;rw[B6]at this;omega⟩
   have hHold:(∀ W3,J (L.map (·.1)++[p.1]) W3->KeepsWalks (w2.alloc (.cells #[.int .i64 p.1.1,.string (mkS p.1.2)] 77)) W3 ->
    (∃ (D:List MapEntry) (L:List (Par×Value)),W3.heap[W.heap.size]?=some (.mapIter (some g) clock (Ar D) clock)/\Gj Ap es lk D L/\W3.heap[g]?=some (.map es clock)/\W.heap.size<=W3.heap.size/\J (L.map (·.1)) W3)/\Bje es W.heap.size W3<Bje es W.heap.size wr):=fun W3 hJ4 hk4=>by
    obtain⟨a1,a2,a3⟩:=hit3 W3 hk4;refine⟨⟨D++[e],L++[p],a1,hS',a2,a3,by rw[A1i];exact hJ4⟩,?_⟩;rw[Biv a1,Biv hit];have:=hi.lt;simp;omega
   have hHold:=Lib.hid hHold;clear hS' hS hJs hit hy hJ3 hJ2 hit3 hlen hi hgb hnew hp hY hJ
   gi_wp2
   refine⟨fun h=>(by cases h),hR.mono ?_⟩;rintro e3 W3 ⟨rfl,hJ4,hk4⟩;have hfin:=hHold.out W3 hJ4 hk4;clear hHold hJ4 hk4
   gi_wp2
   exact hfin
end
section
open Go.RowKit Go.MapKept Go.Shelf
abbrev Ci (p:Par):List Value:=[.int .i64 p.1,.string (mkS p.2)]
def Bhw:Code:=Code.region 2 #[{ dst:=some 5,op:=Op.alloc 77,type:=0,pos := "iter.go:51",after:=#[],guard:=none },{ dst:=none,op:=Op.store 77 (Operand.tmp 5) (Operand.tmp 7),type:=0,pos := "iter.go:51",after:=#[{ on:=0,ground:=Ground.data },{ on:=0,ground:=Ground.phase }],guard:=none }] false
def Bi5:Code:=Code.block 1 (Code.region 3 #[{ dst:=some 8,op:=Op.load 34 (Operand.tmp 2),type:=34,pos := "iter.go:52",after:=#[],guard:=none },{ dst:=some 9,op:=Op.load 77 (Operand.tmp 5),type:=77,pos := "iter.go:52",after:=#[],guard:=none },{ dst:=some 10,op:=Op.buildSlice 34 1 #[(0,Operand.tmp 9)],type:=34,pos := "iter.go:52",after:=#[{ on:=1,ground:=Ground.data }],guard:=none },{ dst:=some 11,op:=Op.call { callee:=Callee.builtin Builtin.append,args:=#[Operand.tmp 8,Operand.tmp 10],argTypes:=#[34,34] },type:=34,pos := "iter.go:52",after:=#[{ on:=0,ground:=Ground.data },{ on:=2,ground:=Ground.data }],guard:=none },{ dst:=none,op:=Op.store 34 (Operand.tmp 2) (Operand.tmp 11),type:=0,pos := "iter.go:52",after:=#[{ on:=3,ground:=Ground.data },{ on:=3,ground:=Ground.chain },{ on:=0,ground:=Ground.phase },{ on:=1,ground:=Ground.phase },{ on:=2,ground:=Ground.phase },{ on:=3,ground:=Ground.phase }],guard:=none }] false)
def X0 (fn:FuncId)(sv:Value)(Bs D:Nat)(st:LoopState)(pend:Option Code):Loop :=
 { state:=st,pending:=pend,fn,tmps:=#[.slice none 0 0,sv,.pointer (some ⟨Bs,0,none⟩),undef,.slice none 0 0,undef,sv,undef,undef,undef,undef,undef,undef],params:=#[7],assign:=Bhw,body:=Bi5,defers:=D }
structure Bkg (w0:World)(fn:FuncId)(sv:Value)(Bs l D:Nat)(ss:List Par)(W:World):Prop where
 box:∃ v,W.heap[Bs]?=some (.cells #[v] 34 (0,0))/\W.ownsRow w0.heap.size 77 2 v ss.length (ss.flatMap Ci)/\(v=.slice none 0 0↔ss = [])
 L:W.heap[l]?=some (.loop (X0 fn sv Bs D .ready none))
 K:W.heap[D]?=some (.deferred (some []))
 below:Below w0.heap.size w0 W
def Bix (t:World)(fn:FuncId)(F:Value)(u l D B:Nat)(z:t.heap.size<=B):AbidesFrom B (Bkg t fn F u l D):=fun s W W' m h j g=>by
 have d:∀ r,m=some r->∃ o:Obj,W.heap[r]?=some o/\o.isWalk=true:=fun r e=>(g r e).2;obtain⟨v,n,E,C⟩:=h.box;exact⟨⟨v,(grownBy_keeps j d n rfl).trans n,ownsRow_abides_a E j d,C⟩,(grownBy_keeps j d h.L rfl).trans h.L,(grownBy_keeps j d h.K rfl).trans h.K,
  h.below.grown j h.below.size (fun k e=>A04 z (g k e).1)⟩
def Bmf (w:World)(x y:Value)(t:TypeId):∀ j u,[x,y][j]?=some u->(w.alloc (.cells #[x,y] t)).cell? ((⟨w.heap.size,0,none⟩:Addr).add j)=some u:=by
 intro j u d;have h:=Cn w (.cells #[x,y] t)
 match j,d with
 |0,d =>
  rw[show ((⟨w.heap.size,0,none⟩:Addr).add 0)=⟨w.heap.size,0,none⟩ from rfl];unfold World.cell?;rw[h];simpa using d
 |1,d =>
  rw[show ((⟨w.heap.size,0,none⟩:Addr).add 1)=⟨w.heap.size,1,none⟩ from rfl];unfold World.cell?;rw[h];simpa using d
 |j+2,d=>simp at d
set_option maxRecDepth 100000 in
def Bml (m : Nat) (E : World) (fn : FuncId) (T : Value) (n l D : Nat) (a4 : n ≠ l) (aa : D ≠ l) (am : D ≠ n) (al : E.heap.size ≤ n) (a8 : E.heap.size ≤ l)
    (N : Nat) (hN : N ≤ 1000000) (ss : List Par) (x : Par) (d : World) (a3 : Bkg E fn T n l D ss d) (b5 : ss.length < N) :
    YieldAt Fence.wide m prog l #[Ap x] d fun e W' => e = .returned (.bool true) ∧ Bkg E fn T n l D (ss ++ [x]) W' ∧ KeepsWalks d W' := by
  have b3 : prog.follows .mixedOrders = true := by kernel_rfl
  have aw : 34 ≠ 77 := by decide
  obtain ⟨i0, hi, b0, b1, b2⟩ : ∃ i, prog.info? 77 = some i ∧ i.zero = some (.agg #[.int .i64 0, .string ⟨#[]⟩]) ∧ i.size = 2 ∧ i.bytes = 24 := ⟨_, rfl, by kernel_rfl, by kernel_rfl, by kernel_rfl⟩
  obtain ⟨V, U⟩ := x
  have b6 : maxLen ≥ 1000000 := by decide
  refine ⟨fn, #[.slice none 0 0, T, .pointer (some ⟨n, 0, none⟩), undef, .slice none 0 0, undef, T, Ap (V, U), undef, undef, undef, undef, undef], Bhw, Bi5, by simpa [X0] using run_yield (P := prog) (args := #[Ap (V, U)]) a3.L rfl, roundIn_of_wpIn trivial ?_⟩
  obtain ⟨W, hW⟩ : ∃ W, d.alloc (.cells #[.int .i64 V, .string (mkS U)] 77) = W := ⟨_, rfl⟩
  have h : Bkg E fn T n l D ss W := by
    refine Bix E fn T n l D E.heap.size (A08 _) ss d W none a3 ?_ (fun r e => by cases e)
    rw [← hW]; exact ⟨rfl, rfl, rfl, by rw [B6]; omega, fun k hk _ => Aq _ _ hk⟩
  have ar : W.heap[d.heap.size]? = some (.cells #[.int .i64 V, .string (mkS U)] 77 (0, 0)) := by rw [← hW]; exact Cn _ _
  have ai : KeepsWalks d W := by rw [← hW]; exact KeepsWalks.alloc _ _
  obtain ⟨v, hv, a2, _⟩ := h.box
  have hl : l < W.heap.size := (A61.1 h.L).1
  have bd : l < d.heap.size := Aw a3.L
  have ao := run_beginRound (P := prog) h.L rfl
  obtain ⟨z, C⟩ : ∃ z, W.putObj l (.loop { X0 fn T n D .ready none with state := .busy }) = z := ⟨_, rfl⟩
  rw [C] at ao
  have ag : W.grownBy z (some l) := by rw [← C]; exact grownBy_putObj_a _ _ _
  have ap : KeepsWalks W z := by rw [← C]; exact KeepsWalks.putObj _ h.L rfl
  have a1 : z.heap[n]? = some (.cells #[v] 34 (0, 0)) := by rw [← C]; exact (World.putObj_heap_other a4).trans hv
  have a5 : z.heap[D]? = some (.deferred (some [])) := by rw [← C]; exact (World.putObj_heap_other aa).trans h.K
  have a6 : z.heap[l]? = some (.loop { X0 fn T n D .ready none with state := .busy }) := by rw [← C]; exact World.putObj_heap_same hl
  have aj : z.heap[d.heap.size]? = some (.cells #[.int .i64 V, .string (mkS U)] 77 (0, 0)) := by rw [← C]; exact (World.putObj_heap_other oV).trans ar
  have t : z.ownsRow E.heap.size 77 2 v ss.length (ss.flatMap Ci) := a2.kept ag (ownsRow_ne_a a2 h.L (fun F e => by cases e))
  have Z : Below E.heap.size E z := h.below.grown ag h.below.size (fun k e => by cases e; exact a8)
  obtain ⟨b9, bb⟩ := cell_of_box_a a1
  have b7 : z.cell? ⟨d.heap.size, 0, none⟩ = some (.int .i64 V) := by simp [World.cell?, aj]
  have b8 : z.cell? ⟨d.heap.size, 1, none⟩ = some (.string (mkS U)) := by simp [World.cell?, aj]
  have a9 : n < z.heap.size := (A61.1 a1).1
  have au : l < z.heap.size := (A61.1 a6).1
  have ab : D < z.heap.size := (A61.1 a5).1
  have I : ∀ {j : Nat} {o : Obj}, z.heap[j]? = some o → (∀ F, o ≠ .cells F 77 (0, 0)) → some j ≠ v.ownBlock := fun hj ay => by
    rcases ownsRow_ne_a t hj ay with e | e
    · rw [e]; simp
    exact fun e' => e e'.symm
  clear C
  unfold Bhw
  rw [show Ap (V, U) = .agg #[.int .i64 V, .string (mkS U)] from rfl]
  gi_wp2_with gi_round_op_a
  unfold Bi5
  gi_wp2_with (first
    | (gi_at_builtin; refine wpListIn_append_own _ rfl _ _ 34 rfl E.heap.size 77 i0 (.agg #[.int .i64 0, .string ⟨#[]⟩]) 2 24 kV hi b0 b1 b2 rfl fV _ _ _ rfl (t.alloc _) ⟨z.heap.size, 0, none⟩ 1 1 (Ci (V, U)) rfl rfl (Bmf _ _ _ _) (fun u hu => by simp at hu; rcases hu with rfl | rfl <;> rfl) oV oV (by have := Z.size; simp; omega) ?_; intro v' w3 H ah ax
       have a7 : w3.heap[n]? = some (.cells #[v] 34 (0, 0)) := (ah.block n (by simp; omega) (I a1 (fun F e => by cases e))).trans ((Below.heap_alloc _ _ n a9).trans a1)
       obtain ⟨ba, bc⟩ := cell_of_box_a a7
       obtain ⟨g', g, J, rfl, ak, b4, be, bf, bg, bh⟩ : ∃ g' g J, v' = .slice (some ⟨g', 0, none⟩) (ss.length + 1) g ∧ E.heap.size ≤ g' ∧ w3.heap[g']? = some (.cells J 77 (0, 0)) ∧ ss.length + 1 ≤ g ∧ g ≤ maxLen ∧ J.size = g * 2 ∧ J.toList.take ((ss.length + 1) * 2) = ss.flatMap Ci ++ Ci (V, U) := by
         rcases H.2 with ⟨_, h0⟩ | h'
         · exact absurd h0 oV
         exact h'
       go_frame)
    | gi_round_op_a)
  have O : (z.alloc (.cells #[.int .i64 V, .string (mkS U)] 77)).grownBy w3 v.ownBlock := ah
  have ad : w3.heap[l]? = some (.loop { X0 fn T n D .ready none with state := .busy }) := (O.block l (by simp; omega) (I a6 (fun F e => by cases e))).trans ((Below.heap_alloc _ _ l au).trans a6)
  have ac : w3.heap[D]? = some (.deferred (some [])) := (O.block D (by simp; omega) (I a5 (fun F e => by cases e))).trans ((Below.heap_alloc _ _ D ab).trans a5)
  obtain ⟨X, R⟩ : ∃ X, w3.setCell ⟨n, 0, none⟩ (.slice (some ⟨g', 0, none⟩) (ss.length + 1) g) = X := ⟨_, rfl⟩
  rw [R]
  have a0 : w3.grownBy X (some n) := by rw [← R]; exact grownBy_setCell0_a _ _ _
  have az : X.heap[n]? = some (.cells #[.slice (some ⟨g', 0, none⟩) (ss.length + 1) g] 34 (0, 0)) := by rw [← R]; exact heap_setCell_box_a _ a7
  have Y : X.heap[l]? = some (.loop { X0 fn T n D .ready none with state := .busy }) := (a0.block l (A61.1 ad).1 (fun e => a4 (by cases e; rfl))).trans ad
  have an : X.heap[D]? = some (.deferred (some [])) := (a0.block D (A61.1 ac).1 (fun e => am (by cases e; rfl))).trans ac
  have Q := H.kept a0 (ownsRow_ne_a H a7 (fun F e => aw (Obj.cells.inj e).2.1))
  have av : l < X.heap.size := (A61.1 Y).1
  have ae : Below E.heap.size E w3 := (Z.alloc Z.size _).grown O (by have := Z.size; simp; omega) (fun k e => (t.lt k e).1)
  have af : Below E.heap.size E X := ae.grown a0 ae.size (fun k e => by cases e; exact al)
  have aq : KeepsWalks W X := ((ap.trans (KeepsWalks.alloc _ _)).trans (KeepsWalks.of_grownBy O (ownsRow_not_walk_a (t.alloc _)))).trans (by rw [← R]; exact KeepsWalks.setCell _ _ _)
  clear R
  refine ⟨_, _, run_endRound none Y, rfl, ⟨⟨_, (World.putObj_heap_other a4).trans az, ?_, by simp⟩, World.putObj_heap_same av, (World.putObj_heap_other aa).trans an, af.grown (grownBy_putObj_a _ _ _) af.size (fun k e => by cases e; exact a8)⟩, ai.trans (aq.trans (KeepsWalks.putObj _ Y rfl))⟩
  have := Q.kept (grownBy_putObj_a X l (.loop { { X0 fn T n D .ready none with state := .busy } with state := if (none : Option Code).isNone then .ready else .done, pending := none })) (ownsRow_ne_a Q Y (fun F e => by cases e))
  simpa using this
def Bpm (lk:List (Par×Value))(ss:List Par):Prop:=ss.Nodup/\∀ k,k∈ss↔k∈lk.map (·.1)
set_option maxRecDepth 100000 in
def Blb (n g:Nat)(C:Array Value)(eg:∀ args w,(callFunc g args).run prog w=.ok (.enter g args) w)(S:List Par->Prop)(N:Nat)(hN:N<=1000000)(w:World)(X:SeqGives Fence.wide (n-1) prog g C Ap S N w) :
 CallsIn Fence.wide n prog 206 #[.slice none 0 0,.func (.func g) #[] C] w fun e w'=>∃ (v:Value) (ss:List Par),e=.returned v/\S ss/\w'.ownsRow w.heap.size 77 2 v ss.length (ss.flatMap Ci)/\(v=.slice none 0 0↔ss = [])/\Below w.heap.size w w':=by
 have a3:prog.follows .mixedOrders=true:=kV;have a9:34≠77:=fV;have Z:Fence.wide.round=none:=rfl;refine callsIn_of_wp_marks func206 rfl trivial ?_ rfl;simp only[ntmps206,A7s,A3f,A30,Nat.reduceAdd,Nat.reduceSub,Array.replicate_succ,Array.replicate_zero,List.push_toArray,List.append_toArray,A3q,A4x]
 gi_wp2
 refine wpIn_rangeFunc ?_;intro fn a8;rw[Z];obtain⟨d,z⟩:∃ d,w.alloc (.cells #[.slice none 0 0] 34)=d:=⟨_,rfl⟩;have a0:d.heap.size=w.heap.size+1:=by rw[<-z];simp
 have a1:d.heap[w.heap.size]?=some (.cells #[.slice none 0 0] 34 (0,0)):=by rw[<-z];exact World.alloc_heap_new w _
 have I:Below w.heap.size w d:=by rw[<-z];exact (Below.refl _ w).alloc (A08 _) _
 rw[z];obtain⟨u,j⟩:∃ u,(d.alloc (.deferred (some []))).alloc (.loop (X0 fn (.func (.func g) #[] C) w.heap.size d.heap.size .ready none))=u:=⟨_,rfl⟩;have V:∀ k,k<d.heap.size->u.heap[k]?=d.heap[k]?:=fun k hk=>by
  rw[<-j];exact (Below.heap_alloc _ _ k gV).trans (Below.heap_alloc _ _ k hk)
 have J:Below w.heap.size w u:=by rw[<-j];exact (I.alloc I.size _).alloc (by have:=I.size;simp;omega) _
 have aa:u.heap.size=d.heap.size+2:=by rw[<-j];simp
 have hM:Bkg w fn (.func (.func g) #[] C) w.heap.size (d.heap.size+1) d.heap.size [] u :=
  ⟨⟨_,(V w.heap.size oV).trans a1,⟨rfl,.inl ⟨rfl,rfl⟩⟩,mV⟩,
   by rw[<-j];have:=World.alloc_heap_new (d.alloc (.deferred (some []))) (.loop (X0 fn (.func (.func g) #[] C) w.heap.size d.heap.size .ready none));rwa[World.size_alloc]at this,
   by rw[<-j];exact (Below.heap_alloc _ _ _ mV).trans (World.alloc_heap_new d _),J⟩
 refine⟨d.heap.size+1,[{ target:=.collected d.heap.size,args:=#[] }],u,{ target:=.fn (.func g) C,args:=#[.func (.yield (d.heap.size+1)) #[] #[]] },u,g,
  #[.func (.yield (d.heap.size+1)) #[] #[]]++C,u,?_,?_,?_,?_,fun h=>(by cases h),?_⟩
 ·rw[<-j];exact run_enterLoop_outer _ _ _ _ _
 ·simp[resolve,go_sem]
 ·intro f' a6;exact trivial
 ·simp[invoke,go_sem,eg]
 refine (X (d.heap.size+1) (Bkg w fn (.func (.func g) #[] C) w.heap.size (d.heap.size+1) d.heap.size) u J (Bix _ _ _ _ _ _ _ J.size)
  (fun a4 x W hJ hl=>Bml (n-1-1) w fn _ w.heap.size (d.heap.size+1) d.heap.size oV oV oV (A08 _) oV N hN a4 x W hJ hl) hM).mono ?_
 rintro e W2 ⟨⟨v0,rfl⟩,ss,hS,O⟩;obtain⟨v,hv,F,U⟩:=O.box;have E:=run_endLoop (P:=prog) O.L (by simp[X0]);obtain⟨H,m⟩:∃ H,W2.putObj (d.heap.size+1) (.loop { X0 fn (.func (.func g) #[] C) w.heap.size d.heap.size .ready none with state:=.exhausted })=H:=⟨_,rfl⟩;rw[m]at E;have T:W2.grownBy H (some (d.heap.size+1)):=by rw[<-m];exact grownBy_putObj_a _ _ _
 have a2:H.heap[w.heap.size]?=some (.cells #[v] 34 (0,0)):=by rw[<-m];exact (World.putObj_heap_other oV).trans hv
 have Q:H.heap[d.heap.size]?=some (.deferred (some [])):=by rw[<-m];exact (World.putObj_heap_other oV).trans O.K
 have t:=F.kept T (ownsRow_ne_a F O.L (fun Y e=>by cases e));have R:Below w.heap.size w H:=O.below.grown T O.below.size (fun k e=>by cases e;omega);obtain⟨a5,a7⟩:=cell_of_box_a a2;clear m;refine⟨none,H,E,?_⟩
 gi_wp2
 rw[<-a0];refine⟨mV,.inl ⟨_,_,rfl,run_takeDeferred Q,?_⟩⟩;exact⟨_,results_tmp rfl _ _ _,v,ss,rfl,hS,t.kept (grownBy_putObj_a _ _ _) (ownsRow_ne_a t Q (fun Y e=>by cases e)),U,R.grown (grownBy_putObj_a _ _ _) R.size (fun k e=>by cases e;omega)⟩
def Bk7 (n h g:Nat)(es:Array MapEntry)(d:Nat)(j:List (Par×Value))(H:Stamped es d)(t:es.toList.map (fun e=>(e.key,e.val))=j.map (fun p=>(Ap p.1,p.2)))(u:(j.map (·.1)).Nodup)(w:World)(F:w.cell? ⟨h,0,none⟩=some (.map (some g)))(m:h<w.heap.size)(z:w.heap[g]?=some (.map es d)) :
 SeqGives Fence.wide n prog 165 #[.pointer (some ⟨h,0,none⟩)] Ap (Bpm j) j.length w:=fun l J W v C E h0=>by
 exact Bpr n l h g es d j J H t u E W C ((v.cell (p:=⟨h,0,none⟩) m).trans F) ((v.block g (Aw z)).trans z) h0
def Bl8 (g:Nat)(m:Array Value)(u:∀ args w,(callFunc g args).run prog w=.ok (.enter g args) w)(S:List Par->Prop)(N:Nat)(z:N<=1000000)(w:World)(d:SeqGives Fence.wide 0 prog g m Ap S N w) :
 Calls prog 164 #[.func (.func g) #[] m] w fun e w'=>∃ (v:Value) (ss:List Par),e=.returned v/\S ss/\w'.ownsRow w.heap.size 77 2 v ss.length (ss.flatMap Ci)/\(v=.slice none 0 0↔ss = [])/\Below w.heap.size w w':=by
 have n:prog.follows .mixedOrders=true:=kV
 have t:=callsIn_wide.1 (Blb 1 g m u S N z w d);clear d
 go_enter func164,ntmps164
 go_wp2_with (go_at_call 206;refine t.mono ?_;rintro e w' ⟨v,ss,rfl,C,j,h,E⟩)
 go_ret
 exact⟨v,ss,rfl,C,j,h,E⟩
end
section
open Go.RowKit Go.MapKept Go.Shelf
abbrev L1 (p:Par×Par):List Value:=[.int .i64 p.1.1,.string (mkS p.1.2),.int .i64 p.2.1,.string (mkS p.2.2)]
def Bii:Code:=Code.region 2 #[{ dst:=some 5,op:=Op.alloc 166,type:=0,pos := "iter.go:51",after:=#[],guard:=none },{ dst:=none,op:=Op.store 166 (Operand.tmp 5) (Operand.tmp 7),type:=0,pos := "iter.go:51",after:=#[{ on:=0,ground:=Ground.data },{ on:=0,ground:=Ground.phase }],guard:=none }] false
def Bj8:Code:=Code.block 1 (Code.region 3 #[{ dst:=some 8,op:=Op.load 176 (Operand.tmp 2),type:=176,pos := "iter.go:52",after:=#[],guard:=none },{ dst:=some 9,op:=Op.load 166 (Operand.tmp 5),type:=166,pos := "iter.go:52",after:=#[],guard:=none },{ dst:=some 10,op:=Op.buildSlice 176 1 #[(0,Operand.tmp 9)],type:=176,pos := "iter.go:52",after:=#[{ on:=1,ground:=Ground.data }],guard:=none },{ dst:=some 11,op:=Op.call { callee:=Callee.builtin Builtin.append,args:=#[Operand.tmp 8,Operand.tmp 10],argTypes:=#[176,176] },type:=176,pos := "iter.go:52",after:=#[{ on:=0,ground:=Ground.data },{ on:=2,ground:=Ground.data }],guard:=none },{ dst:=none,op:=Op.store 176 (Operand.tmp 2) (Operand.tmp 11),type:=0,pos := "iter.go:52",after:=#[{ on:=3,ground:=Ground.data },{ on:=3,ground:=Ground.chain },{ on:=0,ground:=Ground.phase },{ on:=1,ground:=Ground.phase },{ on:=2,ground:=Ground.phase },{ on:=3,ground:=Ground.phase }],guard:=none }] false)
def Bgv (fn:FuncId)(sv:Value)(Bs D:Nat)(st:LoopState)(pend:Option Code):Loop :=
 { state:=st,pending:=pend,fn,tmps:=#[.slice none 0 0,sv,.pointer (some ⟨Bs,0,none⟩),undef,.slice none 0 0,undef,sv,undef,undef,undef,undef,undef,undef],params:=#[7],assign:=Bii,body:=Bj8,defers:=D }
structure Bou (w0:World)(fn:FuncId)(sv:Value)(Bs l D:Nat)(ss:List (Par×Par))(W:World):Prop where
 box:∃ v,W.heap[Bs]?=some (.cells #[v] 176 (0,0))/\W.ownsRow w0.heap.size 166 4 v ss.length (ss.flatMap L1)/\(v=.slice none 0 0↔ss = [])
 L:W.heap[l]?=some (.loop (Bgv fn sv Bs D .ready none))
 K:W.heap[D]?=some (.deferred (some []))
 below:Below w0.heap.size w0 W
def Bjf (t:World)(fn:FuncId)(F:Value)(u l D B:Nat)(z:t.heap.size<=B):AbidesFrom B (Bou t fn F u l D):=fun s W W' m h j g=>by
 have d:∀ r,m=some r->∃ o:Obj,W.heap[r]?=some o/\o.isWalk=true:=fun r e=>(g r e).2;obtain⟨v,n,E,C⟩:=h.box;exact⟨⟨v,(grownBy_keeps j d n rfl).trans n,ownsRow_abides_a E j d,C⟩,(grownBy_keeps j d h.L rfl).trans h.L,(grownBy_keeps j d h.K rfl).trans h.K,
  h.below.grown j h.below.size (fun k e=>A04 z (g k e).1)⟩
def Bm6 (w:World)(x y e g:Value)(t:TypeId):∀ j u,[x,y,e,g][j]?=some u->(w.alloc (.cells #[x,y,e,g] t)).cell? ((⟨w.heap.size,0,none⟩:Addr).add j)=some u:=by
 intro j u d;have h:=Cn w (.cells #[x,y,e,g] t)
 match j,d with
 |0,d =>
  rw[show ((⟨w.heap.size,0,none⟩:Addr).add 0)=⟨w.heap.size,0,none⟩ from rfl];unfold World.cell?;rw[h];simpa using d
 |1,d =>
  rw[show ((⟨w.heap.size,0,none⟩:Addr).add 1)=⟨w.heap.size,1,none⟩ from rfl];unfold World.cell?;rw[h];simpa using d
 |2,d =>
  rw[show ((⟨w.heap.size,0,none⟩:Addr).add 2)=⟨w.heap.size,2,none⟩ from rfl];unfold World.cell?;rw[h];simpa using d
 |3,d =>
  rw[show ((⟨w.heap.size,0,none⟩:Addr).add 3)=⟨w.heap.size,3,none⟩ from rfl];unfold World.cell?;rw[h];simpa using d
 |j+4,d=>simp at d
set_option maxRecDepth 100000 in
def Boy (m : Nat) (E : World) (fn : FuncId) (T : Value) (n l D : Nat) (a7 : n ≠ l) (ad : D ≠ l) (ao : D ≠ n) (an : E.heap.size ≤ n) (ab : E.heap.size ≤ l)
    (N : Nat) (hN : N ≤ 1000000) (ss : List (Par × Par)) (x : Par × Par) (d : World) (a6 : Bou E fn T n l D ss d) (b7 : ss.length < N) :
    YieldAt Fence.wide m prog l #[prV x] d fun e W' => e = .returned (.bool true) ∧ Bou E fn T n l D (ss ++ [x]) W' ∧ KeepsWalks d W' := by
  have b5 : prog.follows .mixedOrders = true := by kernel_rfl
  have ay : 176 ≠ 166 := by decide
  obtain ⟨i0, hi, b2, b3, b4⟩ : ∃ i, prog.info? 166 = some i ∧ i.zero = some (.agg #[.int .i64 0, .string ⟨#[]⟩, .int .i64 0, .string ⟨#[]⟩]) ∧ i.size = 4 ∧ i.bytes = 48 := ⟨_, rfl, by kernel_rfl, by kernel_rfl, by kernel_rfl⟩
  obtain ⟨⟨V, U⟩, ⟨Y, X⟩⟩ := x
  have b8 : maxLen ≥ 1000000 := by decide
  refine ⟨fn, #[.slice none 0 0, T, .pointer (some ⟨n, 0, none⟩), undef, .slice none 0 0, undef, T, prV ((V, U), (Y, X)), undef, undef, undef, undef, undef], Bii, Bj8, by simpa [Bgv] using run_yield (P := prog) (args := #[prV ((V, U), (Y, X))]) a6.L rfl, roundIn_of_wpIn trivial ?_⟩
  obtain ⟨W, hW⟩ : ∃ W, d.alloc (.cells #[.int .i64 V, .string (mkS U), .int .i64 Y, .string (mkS X)] 166) = W := ⟨_, rfl⟩
  have h : Bou E fn T n l D ss W := by
    refine Bjf E fn T n l D E.heap.size (A08 _) ss d W none a6 ?_ (fun r e => by cases e)
    rw [← hW]; exact ⟨rfl, rfl, rfl, by rw [B6]; omega, fun k hk _ => Aq _ _ hk⟩
  have av : W.heap[d.heap.size]? = some (.cells #[.int .i64 V, .string (mkS U), .int .i64 Y, .string (mkS X)] 166 (0, 0)) := by rw [← hW]; exact Cn _ _
  have al : KeepsWalks d W := by rw [← hW]; exact KeepsWalks.alloc _ _
  obtain ⟨v, hv, a5, _⟩ := h.box
  have hl : l < W.heap.size := (A61.1 h.L).1
  have bh : l < d.heap.size := Aw a6.L
  have aq := run_beginRound (P := prog) h.L rfl
  obtain ⟨t, C⟩ : ∃ t, W.putObj l (.loop { Bgv fn T n D .ready none with state := .busy }) = t := ⟨_, rfl⟩
  rw [C] at aq
  have aj : W.grownBy t (some l) := by rw [← C]; exact grownBy_putObj_a _ _ _
  have ar : KeepsWalks W t := by rw [← C]; exact KeepsWalks.putObj _ h.L rfl
  have a3 : t.heap[n]? = some (.cells #[v] 176 (0, 0)) := by rw [← C]; exact (World.putObj_heap_other a7).trans hv
  have a8 : t.heap[D]? = some (.deferred (some [])) := by rw [← C]; exact (World.putObj_heap_other ad).trans h.K
  have a9 : t.heap[l]? = some (.loop { Bgv fn T n D .ready none with state := .busy }) := by rw [← C]; exact World.putObj_heap_same hl
  have a4 : t.heap[d.heap.size]? = some (.cells #[.int .i64 V, .string (mkS U), .int .i64 Y, .string (mkS X)] 166 (0, 0)) := by rw [← C]; exact (World.putObj_heap_other oV).trans av
  have z : t.ownsRow E.heap.size 166 4 v ss.length (ss.flatMap L1) := a5.kept aj (ownsRow_ne_a a5 h.L (fun F e => by cases e))
  have a1 : Below E.heap.size E t := h.below.grown aj h.below.size (fun k e => by cases e; exact ab)
  obtain ⟨bd, bf⟩ := cell_of_box_a a3
  have b9 : t.cell? ⟨d.heap.size, 0, none⟩ = some (.int .i64 V) := by simp [World.cell?, a4]
  have ba : t.cell? ⟨d.heap.size, 1, none⟩ = some (.string (mkS U)) := by simp [World.cell?, a4]
  have bb : t.cell? ⟨d.heap.size, 2, none⟩ = some (.int .i64 Y) := by simp [World.cell?, a4]
  have bc : t.cell? ⟨d.heap.size, 3, none⟩ = some (.string (mkS X)) := by simp [World.cell?, a4]
  have ac : n < t.heap.size := (A61.1 a3).1
  have aw : l < t.heap.size := (A61.1 a9).1
  have ae : D < t.heap.size := (A61.1 a8).1
  have I : ∀ {j : Nat} {o : Obj}, t.heap[j]? = some o → (∀ F, o ≠ .cells F 166 (0, 0)) → some j ≠ v.ownBlock := fun hj b0 => by
    rcases ownsRow_ne_a z hj b0 with e | e
    · rw [e]; simp
    exact fun e' => e e'.symm
  clear C
  unfold Bii
  rw [show prV ((V, U), (Y, X)) = .agg #[.int .i64 V, .string (mkS U), .int .i64 Y, .string (mkS X)] from rfl]
  gi_wp2_with gi_round_op_a
  unfold Bj8
  gi_wp2_with (first
    | (gi_at_builtin; refine wpListIn_append_own _ rfl _ _ 176 rfl E.heap.size 166 i0 (.agg #[.int .i64 0, .string ⟨#[]⟩, .int .i64 0, .string ⟨#[]⟩]) 4 48 kV hi b2 b3 b4 rfl fV _ _ _ rfl (z.alloc _) ⟨t.heap.size, 0, none⟩ 1 1 (L1 ((V, U), (Y, X))) rfl rfl (Bm6 _ _ _ _ _ _) (fun u hu => by simp at hu; rcases hu with rfl | rfl | rfl | rfl <;> rfl) oV oV (by have := a1.size; simp; omega) ?_; intro v' w3 H ak az
       have aa : w3.heap[n]? = some (.cells #[v] 176 (0, 0)) := (ak.block n (by simp; omega) (I a3 (fun F e => by cases e))).trans ((Below.heap_alloc _ _ n ac).trans a3)
       obtain ⟨be, bg⟩ := cell_of_box_a aa
       obtain ⟨g', g, J, rfl, am, b6, bi, bj, bk, bl⟩ : ∃ g' g J, v' = .slice (some ⟨g', 0, none⟩) (ss.length + 1) g ∧ E.heap.size ≤ g' ∧ w3.heap[g']? = some (.cells J 166 (0, 0)) ∧ ss.length + 1 ≤ g ∧ g ≤ maxLen ∧ J.size = g * 4 ∧ J.toList.take ((ss.length + 1) * 4) = ss.flatMap L1 ++ L1 ((V, U), (Y, X)) := by
         rcases H.2 with ⟨_, h0⟩ | h'
         · exact absurd h0 oV
         exact h'
       go_frame)
    | gi_round_op_a)
  have O : (t.alloc (.cells #[.int .i64 V, .string (mkS U), .int .i64 Y, .string (mkS X)] 166)).grownBy w3 v.ownBlock := ak
  have ag : w3.heap[l]? = some (.loop { Bgv fn T n D .ready none with state := .busy }) := (O.block l (by simp; omega) (I a9 (fun F e => by cases e))).trans ((Below.heap_alloc _ _ l aw).trans a9)
  have af : w3.heap[D]? = some (.deferred (some [])) := (O.block D (by simp; omega) (I a8 (fun F e => by cases e))).trans ((Below.heap_alloc _ _ D ae).trans a8)
  obtain ⟨Z, R⟩ : ∃ Z, w3.setCell ⟨n, 0, none⟩ (.slice (some ⟨g', 0, none⟩) (ss.length + 1) g) = Z := ⟨_, rfl⟩
  rw [R]
  have a2 : w3.grownBy Z (some n) := by rw [← R]; exact grownBy_setCell0_a _ _ _
  have b1 : Z.heap[n]? = some (.cells #[.slice (some ⟨g', 0, none⟩) (ss.length + 1) g] 176 (0, 0)) := by rw [← R]; exact heap_setCell_box_a _ aa
  have a0 : Z.heap[l]? = some (.loop { Bgv fn T n D .ready none with state := .busy }) := (a2.block l (A61.1 ag).1 (fun e => a7 (by cases e; rfl))).trans ag
  have ap : Z.heap[D]? = some (.deferred (some [])) := (a2.block D (A61.1 af).1 (fun e => ao (by cases e; rfl))).trans af
  have Q := H.kept a2 (ownsRow_ne_a H aa (fun F e => ay (Obj.cells.inj e).2.1))
  have ax : l < Z.heap.size := (A61.1 a0).1
  have ah : Below E.heap.size E w3 := (a1.alloc a1.size _).grown O (by have := a1.size; simp; omega) (fun k e => (z.lt k e).1)
  have ai : Below E.heap.size E Z := ah.grown a2 ah.size (fun k e => by cases e; exact an)
  have au : KeepsWalks W Z := ((ar.trans (KeepsWalks.alloc _ _)).trans (KeepsWalks.of_grownBy O (ownsRow_not_walk_a (z.alloc _)))).trans (by rw [← R]; exact KeepsWalks.setCell _ _ _)
  clear R
  refine ⟨_, _, run_endRound none a0, rfl, ⟨⟨_, (World.putObj_heap_other a7).trans b1, ?_, by simp⟩, World.putObj_heap_same ax, (World.putObj_heap_other ad).trans ap, ai.grown (grownBy_putObj_a _ _ _) ai.size (fun k e => by cases e; exact ab)⟩, al.trans (au.trans (KeepsWalks.putObj _ a0 rfl))⟩
  have := Q.kept (grownBy_putObj_a Z l (.loop { { Bgv fn T n D .ready none with state := .busy } with state := if (none : Option Code).isNone then .ready else .done, pending := none })) (ownsRow_ne_a Q a0 (fun F e => by cases e))
  simpa using this
def Bqc (lk:List ((Par×Par)×Value))(ss:List (Par×Par)):Prop:=ss.Nodup/\∀ k,k∈ss↔k∈lk.map (·.1)
set_option maxRecDepth 100000 in
def Bl1 (n g:Nat)(C:Array Value)(eg:∀ args w,(callFunc g args).run prog w=.ok (.enter g args) w)(S:List (Par×Par)->Prop)(N:Nat)(hN:N<=1000000)(w:World)(X:SeqGives Fence.wide (n-1) prog g C prV S N w) :
 CallsIn Fence.wide n prog 207 #[.slice none 0 0,.func (.func g) #[] C] w fun e w'=>∃ (v:Value) (ss:List (Par×Par)),e=.returned v/\S ss/\w'.ownsRow w.heap.size 166 4 v ss.length (ss.flatMap L1)/\(v=.slice none 0 0↔ss = [])/\Below w.heap.size w w':=by
 have a3:prog.follows .mixedOrders=true:=kV;have a9:176≠166:=fV;have Z:Fence.wide.round=none:=rfl;refine callsIn_of_wp_marks func207 rfl trivial ?_ rfl;simp only[ntmps207,A7s,A3f,A30,Nat.reduceAdd,Nat.reduceSub,Array.replicate_succ,Array.replicate_zero,List.push_toArray,List.append_toArray,A3q,A4x]
 gi_wp2
 refine wpIn_rangeFunc ?_;intro fn a8;rw[Z];obtain⟨d,z⟩:∃ d,w.alloc (.cells #[.slice none 0 0] 176)=d:=⟨_,rfl⟩;have a0:d.heap.size=w.heap.size+1:=by rw[<-z];simp
 have a1:d.heap[w.heap.size]?=some (.cells #[.slice none 0 0] 176 (0,0)):=by rw[<-z];exact World.alloc_heap_new w _
 have I:Below w.heap.size w d:=by rw[<-z];exact (Below.refl _ w).alloc (A08 _) _
 rw[z];obtain⟨u,j⟩:∃ u,(d.alloc (.deferred (some []))).alloc (.loop (Bgv fn (.func (.func g) #[] C) w.heap.size d.heap.size .ready none))=u:=⟨_,rfl⟩;have V:∀ k,k<d.heap.size->u.heap[k]?=d.heap[k]?:=fun k hk=>by
  rw[<-j];exact (Below.heap_alloc _ _ k gV).trans (Below.heap_alloc _ _ k hk)
 have J:Below w.heap.size w u:=by rw[<-j];exact (I.alloc I.size _).alloc (by have:=I.size;simp;omega) _
 have aa:u.heap.size=d.heap.size+2:=by rw[<-j];simp
 have hM:Bou w fn (.func (.func g) #[] C) w.heap.size (d.heap.size+1) d.heap.size [] u :=
  ⟨⟨_,(V w.heap.size oV).trans a1,⟨rfl,.inl ⟨rfl,rfl⟩⟩,mV⟩,
   by rw[<-j];have:=World.alloc_heap_new (d.alloc (.deferred (some []))) (.loop (Bgv fn (.func (.func g) #[] C) w.heap.size d.heap.size .ready none));rwa[World.size_alloc]at this,
   by rw[<-j];exact (Below.heap_alloc _ _ _ mV).trans (World.alloc_heap_new d _),J⟩
 refine⟨d.heap.size+1,[{ target:=.collected d.heap.size,args:=#[] }],u,{ target:=.fn (.func g) C,args:=#[.func (.yield (d.heap.size+1)) #[] #[]] },u,g,
  #[.func (.yield (d.heap.size+1)) #[] #[]]++C,u,?_,?_,?_,?_,fun h=>(by cases h),?_⟩
 ·rw[<-j];exact run_enterLoop_outer _ _ _ _ _
 ·simp[resolve,go_sem]
 ·intro f' a6;exact trivial
 ·simp[invoke,go_sem,eg]
 refine (X (d.heap.size+1) (Bou w fn (.func (.func g) #[] C) w.heap.size (d.heap.size+1) d.heap.size) u J (Bjf _ _ _ _ _ _ _ J.size)
  (fun a4 x W hJ hl=>Boy (n-1-1) w fn _ w.heap.size (d.heap.size+1) d.heap.size oV oV oV (A08 _) oV N hN a4 x W hJ hl) hM).mono ?_
 rintro e W2 ⟨⟨v0,rfl⟩,ss,hS,O⟩;obtain⟨v,hv,F,U⟩:=O.box;have E:=run_endLoop (P:=prog) O.L (by simp[Bgv]);obtain⟨H,m⟩:∃ H,W2.putObj (d.heap.size+1) (.loop { Bgv fn (.func (.func g) #[] C) w.heap.size d.heap.size .ready none with state:=.exhausted })=H:=⟨_,rfl⟩;rw[m]at E;have T:W2.grownBy H (some (d.heap.size+1)):=by rw[<-m];exact grownBy_putObj_a _ _ _
 have a2:H.heap[w.heap.size]?=some (.cells #[v] 176 (0,0)):=by rw[<-m];exact (World.putObj_heap_other oV).trans hv
 have Q:H.heap[d.heap.size]?=some (.deferred (some [])):=by rw[<-m];exact (World.putObj_heap_other oV).trans O.K
 have t:=F.kept T (ownsRow_ne_a F O.L (fun Y e=>by cases e));have R:Below w.heap.size w H:=O.below.grown T O.below.size (fun k e=>by cases e;omega);obtain⟨a5,a7⟩:=cell_of_box_a a2;clear m;refine⟨none,H,E,?_⟩
 gi_wp2
 rw[<-a0];refine⟨mV,.inl ⟨_,_,rfl,run_takeDeferred Q,?_⟩⟩;exact⟨_,results_tmp rfl _ _ _,v,ss,rfl,hS,t.kept (grownBy_putObj_a _ _ _) (ownsRow_ne_a t Q (fun Y e=>by cases e)),U,R.grown (grownBy_putObj_a _ _ _) R.size (fun k e=>by cases e;omega)⟩
def Bl0 (n h g:Nat)(es:Array MapEntry)(d:Nat)(j:List ((Par×Par)×Value))(H:Stamped es d)(t:es.toList.map (fun e=>(e.key,e.val))=j.map (fun p=>(prV p.1,p.2)))(u:(j.map (·.1)).Nodup)(w:World)(F:w.cell? ⟨h,0,none⟩=some (.map (some g)))(m:h<w.heap.size)(z:w.heap[g]?=some (.map es d)) :
 SeqGives Fence.wide n prog 168 #[.pointer (some ⟨h,0,none⟩)] prV (Bqc j) j.length w:=fun l J W v C E h0=>by
 exact Brj n l h g es d j J H t u E W C ((v.cell (p:=⟨h,0,none⟩) m).trans F) ((v.block g (Aw z)).trans z) h0
def Bn8 (g:Nat)(m:Array Value)(u:∀ args w,(callFunc g args).run prog w=.ok (.enter g args) w)(S:List (Par×Par)->Prop)(N:Nat)(z:N<=1000000)(w:World)(d:SeqGives Fence.wide 0 prog g m prV S N w) :
 Calls prog 166 #[.func (.func g) #[] m] w fun e w'=>∃ (v:Value) (ss:List (Par×Par)),e=.returned v/\S ss/\w'.ownsRow w.heap.size 166 4 v ss.length (ss.flatMap L1)/\(v=.slice none 0 0↔ss = [])/\Below w.heap.size w w':=by
 have n:prog.follows .mixedOrders=true:=kV
 have t:=callsIn_wide.1 (Bl1 1 g m u S N z w d);clear d
 go_enter func166,ntmps166
 go_wp2_with (go_at_call 207;refine t.mono ?_;rintro e w' ⟨v,ss,rfl,C,j,h,E⟩)
 go_ret
 exact⟨v,ss,rfl,C,j,h,E⟩
end
end Go.Proofs.YtnjlhkppabfebaaGreatDoor
section
namespace Go.Proofs
open Go.Shelf
def Tryz.sortPar_ren:Go.Shelf.Ren:=⟨fun|6=>45|15=>87|14=>86|28=>149|29=>150|20=>141|21=>142|22=>143|23=>144|24=>145|25=>146|26=>147|27=>148|46=>193|47=>194|48=>195|49=>196|50=>197|57=>219|n=>n,fun|22=>34|24=>77|25=>107|3=>3|39=>152|0=>0|53=>217|55=>219|4=>4|46=>211|45=>210|50=>186|5=>5|9=>9|66=>254|70=>258|76=>273|77=>274|n=>n,fun|n=>n⟩
theorem Tryz.sortPar:Go.Proofs.SlLaysF0.n6 Tryz.prog Tryz.sortPar_ren:={
 mixed:=by kernel_rfl
 f6:=⟨Tryz.f45.name,by decide,Tryz.func45.trans (congrArg some (by kernel_rfl))⟩
 f14:=⟨Tryz.f86.name,by decide,Tryz.func86.trans (congrArg some (by kernel_rfl))⟩
 f15:=Tryz.func87.trans (congrArg some (by kernel_rfl))
 f20:=⟨Tryz.f141.name,by decide,Tryz.func141.trans (congrArg some (by kernel_rfl))⟩
 f21:=⟨Tryz.f142.name,by decide,Tryz.func142.trans (congrArg some (by kernel_rfl))⟩
 f22:=⟨Tryz.f143.name,by decide,Tryz.func143.trans (congrArg some (by kernel_rfl))⟩
 f23:=⟨Tryz.f144.name,by decide,Tryz.func144.trans (congrArg some (by kernel_rfl))⟩
 f24:=⟨Tryz.f145.name,by decide,Tryz.func145.trans (congrArg some (by kernel_rfl))⟩
 f25:=⟨Tryz.f146.name,by decide,Tryz.func146.trans (congrArg some (by kernel_rfl))⟩
 f26:=⟨Tryz.f147.name,by decide,Tryz.func147.trans (congrArg some (by kernel_rfl))⟩
 f27:=⟨Tryz.f148.name,by decide,Tryz.func148.trans (congrArg some (by kernel_rfl))⟩
 f28:=Tryz.func149.trans (congrArg some (by kernel_rfl))
 f29:=Tryz.func150.trans (congrArg some (by kernel_rfl))
 f46:=⟨Tryz.f193.name,by decide,Tryz.func193.trans (congrArg some (by kernel_rfl))⟩
 f47:=Tryz.func194.trans (congrArg some (by kernel_rfl))
 f48:=Tryz.func195.trans (congrArg some (by kernel_rfl))
 f49:=⟨Tryz.f196.name,by decide,Tryz.func196.trans (congrArg some (by kernel_rfl))⟩
 f50:=⟨Tryz.f197.name,by decide,Tryz.func197.trans (congrArg some (by kernel_rfl))⟩
 f57:=⟨Tryz.f219.name,by decide,Tryz.func219.trans (congrArg some (by kernel_rfl))⟩
 t0:=Tryz.underlying0
 a0:=Tryz.isAgg0
 z0:=Tryz.sizeOf0
 v0:=Tryz.zeroValue0
 t3:=Tryz.underlying3
 a3:=Tryz.isAgg3
 z3:=Tryz.sizeOf3
 v3:=Tryz.zeroValue3
 t4:=Tryz.underlying4
 a4:=Tryz.isAgg4
 z4:=Tryz.sizeOf4
 v4:=Tryz.zeroValue4
 t5:=Tryz.underlying5
 a5:=Tryz.isAgg5
 z5:=Tryz.sizeOf5
 v5:=Tryz.zeroValue5
 t9:=Tryz.underlying9
 a9:=Tryz.isAgg9
 z9:=Tryz.sizeOf9
 v9:=Tryz.zeroValue9
 t22:=Tryz.underlying34
 a22:=Tryz.isAgg34
 z22:=Tryz.sizeOf34
 v22:=Tryz.zeroValue34
 t25:=Tryz.underlying107
 a25:=Tryz.isAgg107
 z25:=Tryz.sizeOf107
 v25:=Tryz.zeroValue107
 t39:=Tryz.underlying152
 a39:=Tryz.isAgg152
 z39:=Tryz.sizeOf152
 v39:=Tryz.zeroValue152
 t45:=Tryz.underlying210
 a45:=Tryz.isAgg210
 z45:=Tryz.sizeOf210
 v45:=Tryz.zeroValue210
 t46:=Tryz.underlying211
 a46:=Tryz.isAgg211
 z46:=Tryz.sizeOf211
 v46:=Tryz.zeroValue211
 t50:=Tryz.underlying186
 a50:=Tryz.isAgg186
 z50:=Tryz.sizeOf186
 v50:=Tryz.zeroValue186
 t53:=Tryz.underlying217
 a53:=Tryz.isAgg217
 z53:=Tryz.sizeOf217
 v53:=Tryz.zeroValue217
 t55:=Tryz.underlying219
 a55:=Tryz.isAgg219
 z55:=Tryz.sizeOf219
 v55:=Tryz.zeroValue219
 t66:=Tryz.underlying254
 a66:=Tryz.isAgg254
 z66:=Tryz.sizeOf254
 v66:=Tryz.zeroValue254
 t70:=Tryz.underlying258
 a70:=Tryz.isAgg258
 z70:=Tryz.sizeOf258
 v70:=Tryz.zeroValue258
 t76:=Tryz.underlying273
 a76:=Tryz.isAgg273
 z76:=Tryz.sizeOf273
 v76:=Tryz.zeroValue273
 t77:=Tryz.underlying274
 a77:=Tryz.isAgg274
 z77:=Tryz.sizeOf274
 v77:=Tryz.zeroValue274 }
def Tryz.sortPr_ren:Go.Shelf.Ren:=⟨fun|6=>167|15=>87|14=>208|28=>149|29=>150|20=>225|21=>226|22=>227|23=>228|24=>229|25=>230|26=>231|27=>232|46=>254|47=>194|48=>195|49=>255|50=>256|57=>268|n=>n,fun|22=>176|24=>166|25=>181|3=>3|39=>152|0=>0|53=>217|55=>219|4=>4|46=>211|45=>210|50=>186|5=>5|9=>9|66=>254|70=>258|76=>273|77=>274|n=>n,fun|n=>n⟩
theorem Tryz.sortPr:Go.Proofs.SlLaysF0.n6 Tryz.prog Tryz.sortPr_ren:={
 mixed:=by kernel_rfl
 f6:=⟨Tryz.f167.name,by decide,Tryz.func167.trans (congrArg some (by kernel_rfl))⟩
 f14:=⟨Tryz.f208.name,by decide,Tryz.func208.trans (congrArg some (by kernel_rfl))⟩
 f15:=Tryz.func87.trans (congrArg some (by kernel_rfl))
 f20:=⟨Tryz.f225.name,by decide,Tryz.func225.trans (congrArg some (by kernel_rfl))⟩
 f21:=⟨Tryz.f226.name,by decide,Tryz.func226.trans (congrArg some (by kernel_rfl))⟩
 f22:=⟨Tryz.f227.name,by decide,Tryz.func227.trans (congrArg some (by kernel_rfl))⟩
 f23:=⟨Tryz.f228.name,by decide,Tryz.func228.trans (congrArg some (by kernel_rfl))⟩
 f24:=⟨Tryz.f229.name,by decide,Tryz.func229.trans (congrArg some (by kernel_rfl))⟩
 f25:=⟨Tryz.f230.name,by decide,Tryz.func230.trans (congrArg some (by kernel_rfl))⟩
 f26:=⟨Tryz.f231.name,by decide,Tryz.func231.trans (congrArg some (by kernel_rfl))⟩
 f27:=⟨Tryz.f232.name,by decide,Tryz.func232.trans (congrArg some (by kernel_rfl))⟩
 f28:=Tryz.func149.trans (congrArg some (by kernel_rfl))
 f29:=Tryz.func150.trans (congrArg some (by kernel_rfl))
 f46:=⟨Tryz.f254.name,by decide,Tryz.func254.trans (congrArg some (by kernel_rfl))⟩
 f47:=Tryz.func194.trans (congrArg some (by kernel_rfl))
 f48:=Tryz.func195.trans (congrArg some (by kernel_rfl))
 f49:=⟨Tryz.f255.name,by decide,Tryz.func255.trans (congrArg some (by kernel_rfl))⟩
 f50:=⟨Tryz.f256.name,by decide,Tryz.func256.trans (congrArg some (by kernel_rfl))⟩
 f57:=⟨Tryz.f268.name,by decide,Tryz.func268.trans (congrArg some (by kernel_rfl))⟩
 t0:=Tryz.underlying0
 a0:=Tryz.isAgg0
 z0:=Tryz.sizeOf0
 v0:=Tryz.zeroValue0
 t3:=Tryz.underlying3
 a3:=Tryz.isAgg3
 z3:=Tryz.sizeOf3
 v3:=Tryz.zeroValue3
 t4:=Tryz.underlying4
 a4:=Tryz.isAgg4
 z4:=Tryz.sizeOf4
 v4:=Tryz.zeroValue4
 t5:=Tryz.underlying5
 a5:=Tryz.isAgg5
 z5:=Tryz.sizeOf5
 v5:=Tryz.zeroValue5
 t9:=Tryz.underlying9
 a9:=Tryz.isAgg9
 z9:=Tryz.sizeOf9
 v9:=Tryz.zeroValue9
 t22:=Tryz.underlying176
 a22:=Tryz.isAgg176
 z22:=Tryz.sizeOf176
 v22:=Tryz.zeroValue176
 t25:=Tryz.underlying181
 a25:=Tryz.isAgg181
 z25:=Tryz.sizeOf181
 v25:=Tryz.zeroValue181
 t39:=Tryz.underlying152
 a39:=Tryz.isAgg152
 z39:=Tryz.sizeOf152
 v39:=Tryz.zeroValue152
 t45:=Tryz.underlying210
 a45:=Tryz.isAgg210
 z45:=Tryz.sizeOf210
 v45:=Tryz.zeroValue210
 t46:=Tryz.underlying211
 a46:=Tryz.isAgg211
 z46:=Tryz.sizeOf211
 v46:=Tryz.zeroValue211
 t50:=Tryz.underlying186
 a50:=Tryz.isAgg186
 z50:=Tryz.sizeOf186
 v50:=Tryz.zeroValue186
 t53:=Tryz.underlying217
 a53:=Tryz.isAgg217
 z53:=Tryz.sizeOf217
 v53:=Tryz.zeroValue217
 t55:=Tryz.underlying219
 a55:=Tryz.isAgg219
 z55:=Tryz.sizeOf219
 v55:=Tryz.zeroValue219
 t66:=Tryz.underlying254
 a66:=Tryz.isAgg254
 z66:=Tryz.sizeOf254
 v66:=Tryz.zeroValue254
 t70:=Tryz.underlying258
 a70:=Tryz.isAgg258
 z70:=Tryz.sizeOf258
 v70:=Tryz.zeroValue258
 t76:=Tryz.underlying273
 a76:=Tryz.isAgg273
 z76:=Tryz.sizeOf273
 v76:=Tryz.zeroValue273
 t77:=Tryz.underlying274
 a77:=Tryz.isAgg274
 z77:=Tryz.sizeOf274
 v77:=Tryz.zeroValue274 }
end Go.Proofs
end
namespace Go.Proofs.YtnjlhkppabfebaaGreatDoor
open Go.Proofs.Tryz
open Go.RowKit Go.MapKept
section
open Go.RowKit Go.Sort
def Azd (w:World):PH:=fun g=>w.heap[g]?
def A0a (w:World):Bv (Azd w) PH.mt w:=⟨fun _ _ h=>h,Fj.mt w,fun _=>.inr rfl,fun _ _ _ _ _ _ h _=>h⟩
@[reducible] def Cl.yes:Cl:=⟨True⟩
def Agm [Fl:Cl](hF:Fl.on){w w':World}{N:PH}(h:B0 (Azd w) PH.mt w N PH.mt w'):∃ n v,w'=grow (w.drewN n) v:=by
 have u:=h.dr hF;refine⟨w'.drawn-w.drawn,w'.heap.extract w.heap.size w'.heap.size,?_⟩;obtain⟨hp,tp,O,v,K⟩:=w;obtain⟨d,L,C,J,z⟩:=w';have e:=u.tape;have E:=u.dr;have j:=h.io.1;have m:=h.io.2;have F:=h.sz;have t:=fun g H=>h.old g H rfl;simp only at e E j m F t;subst e j m;unfold grow World.drewN;simp only[World.mk.injEq,and_true,true_and];refine⟨?_,oV⟩;apply Baq;intro i;by_cases hi:i<hp.size
 ·rw[A5s hi];exact t i hi
 rw[Array.getElem?_append_right oV,Array.getElem?_extract];by_cases I:i<d.size
 ·rw[if_pos oV];congr 1;omega
 rw[if_neg oV,A43 oV]
def Fn0.exact [Fl:Cl](hF:Fl.on){P:Program}{f:FuncId}{args:List Value}{r:Value}(h:∀ u,Fn0 P f args u (fun v _=>v=r))(w:World):Calls P f args.toArray w fun e w'=>e=.returned r/\∃ n z,w'=grow (w.drewN n) z:=by
 refine Calls.mono (h (Azd w) w (A0a w)) fun e w' t=>?_;obtain⟨v,E,C,d,_,g,j,m⟩:=t;subst j m;exact⟨d,Agm hF g⟩
def Ai5 (d off size:Nat)(w:World):Go.Proofs.CmpLays prog 46 #[] (fun p:Par=>[.int .i64 p.1,.string (mkS p.2)]) 2 Bk d off size w :=
 fun m g e _ x y=>@Fn0.exact Cl.yes trivial _ _ _ _ (fun u=>@Afb Cl.yes u x y) _
def Boz (d off size:Nat)(w:World):Go.Proofs.CmpLays prog 113 #[] (fun p:Par×Par=>[.int .i64 p.1.1,.string (mkS p.1.2),.int .i64 p.2.1,.string (mkS p.2.2)]) 4 Oc d off size w :=
 fun m g e _ x y=>@Fn0.exact Cl.yes trivial _ _ _ _ (fun u=>@Bke Cl.yes u x y) _
end
section
open Go.RowKit Go.Sort
variable {W:World}{gb:Nat}
section
variable {κ:Type} {c:κ->κ->Int}
def Ord.swo (h:Ord c):SWO (ltOf c) where
 irrefl x:=by simp[ltOf,h.irr x]
 trans x y z h1 h2:=by
  simp only[ltOf,decide_eq_true_eq]at *
  exact h.trans x y z h1 h2
 ntrans x y z h1 h2:=by
  simp only[ltOf,decide_eq_false_iff_not]at *
  intro d;rcases A4q (c x y) 0 with e|e|e
  ·exact h1 e
  ·rw[h.eq x y e]at d;exact h2 d
  exact h2 (h.trans y x z ((h.sym y x).2 e) d)
def Ord.tot (h:Ord c)(x y:κ)(d:ltOf c x y=false)(g:ltOf c y x=false):x=y:=by
 simp only[ltOf,decide_eq_false_iff_not]at *
 rcases A4q (c x y) 0 with e|e|e
 ·exact absurd e d
 ·exact h.eq x y e
 exact absurd ((h.sym y x).2 e) g
def E6 (c:κ->κ->Int)(l:List κ):List κ:=l.mergeSort fun x y=>!(ltOf c) y x
def Ir (l:List κ):(E6 c l).Perm l:=List.mergeSort_perm _ _
def Va (h:Ord c){l:List κ}(m:l.Nodup):Hb c (E6 c l):=by
 have g:(E6 c l).Pairwise fun a b=>(!(ltOf c) b a)=true:=by
  refine List.pairwise_mergeSort (fun a b d g j=>?_) (fun a b=>?_) l
  ·simp only[A3w]at g j⊢;exact h.swo.ntrans d b a j g
  simp only[A4b,A3w];cases e:ltOf c b a with
  |false=>exact .inl rfl
  |true =>
   right;simp only[ltOf,decide_eq_true_eq,decide_eq_false_iff_not]at *
   have:=(h.sym b a).1 e;omega
 have j:(E6 c l).Nodup:=(Ir l).nodup_iff.2 m;refine (g.and j).imp fun {a b} ⟨e1,e2⟩=>?_;simp only[A3w,ltOf,decide_eq_false_iff_not]at e1;rcases A4q (c a b) 0 with e|e|e
 ·exact e
 ·exact absurd (h.eq a b e) e2
 exact absurd ((h.sym b a).2 e) e1
end
section
variable {κ:Type} [Inhabited κ] {enc:κ->List Value} {k:Nat}
def Qb (d:∀ x,(enc x).length=k):∀ (ss:List κ) (t:Nat),t<ss.length*k->(ss.flatMap enc)[t]?=some ((enc ss.toArray[t/k]!)[t%k]!)
 |[],t,h=>by simp at h
 |x::ss,t,h=>by
  have g:0<k:=by
   rcases A2a k with h0|h0
   ·rw[h0]at h;simp at h
   exact h0
  rw[A6o];by_cases e:t<k
  ·rw[A1r (by rw[d];exact e),A49 e,A5i e];have:t<(enc x).length:=by rw[d];exact e
   simp[getElem!_pos,this]
  rw[A18 (by rw[d];omega),d,Qb d ss (t-k) (by simp only[A3f,A16]at h;omega)];have j:t/k=(t-k)/k+1:=by rw[Nat.div_eq_sub_div g oV]
  have m:t%k=(t-k)%k:=Nat.mod_eq_sub_mod oV;rw[j,m];simp
def Ani (u:∀ x,(enc x).length=k){e:TypeId}{d:Array Value}{ss:List κ}(h:W.heap[gb]?=some (.cells d e (0,0)))(g:d.toList.take (ss.length*k)=ss.flatMap enc):HoldsK enc k W gb 0 ss.toArray:=by
 intro t m;rw[size_flatK]at m;have j:t<ss.length*k:=by simpa using m
 have n:d[t]?=some ((flatK enc k ss.toArray)[t]!):=by
  rw[get_flatK enc k _ t m,<-Qb u ss t j,<-g,A3y,if_pos j,A6u]
 constructor
 ·simp[World.cell?,h,n]
 simp[World.frozen?,h]
def Bpv (n:∀ x,(enc x).length=k){ts:List κ}(h:HoldsK enc k W gb 0 ts.toArray){j i:Nat}{p:κ}{x:Value}(v:ts[j]?=some p)(hi:(enc p)[i]?=some x):W.cell? ⟨gb,j*k+i,none⟩=some x:=by
 obtain⟨e,rfl⟩:=A05.1 v;obtain⟨d,rfl⟩:=A05.1 hi;rw[n]at d;have g:j*k+i<ts.toArray.size*k:=by
  have:(j+1)*k<=ts.length*k:=A13 k e;rw[A16]at this;simp;omega
 have m:=(h (j*k+i) (by rw[size_flatK];exact g)).1;rw[A2w,get_flatK enc k _ _ g]at m;rw[m];have t:(j*k+i)/k=j:=by rw[A89,Nat.add_mul_div_right _ _ oV,A49 d];omega
 have u:(j*k+i)%k=i:=by rw[A89,Nat.add_mul_mod_self_right,A5i d]
 rw[t,u];simp[getElem!_pos,e,d,n]
def Bho {e w:World}{d off m:Nat}{n:Array κ}{u:Array Obj}(h:Below e.heap.size e w)(v:e.heap.size<=d):Below e.heap.size e (sortWorldK enc k w d off m n u):=by
 refine⟨h.os,h.tape,h.output,A04 h.size (size_sortWorldK_c enc k w d off m n u),fun j t=>?_⟩;rw[<-h.block j t];have g:j<w.heap.size:=A2s t h.size;unfold sortWorldK grow putRowK putRow mapBlock Sort.ahead;simp only;rw[A5s (by rw[A83];exact g),A8c,if_neg oV]
end
def Fn0.ofB {P:Program}{f:FuncId}{args:List Value}{u:PH}{R:Value->PH->Prop}(Q:Value->World->World->Prop)(h:∀ w,Fj u w->Calls P f args.toArray w fun e w'=>∃ v,e=.returned v/\Q v w w'/\Below w.heap.size w w')
 (O:∀ v w w' F,Q v w w'->PH.le u F->(∀ g o,w.heap.size<=g->w'.heap[g]?=some o->F g=some o)->R v F):Fn0 P f args u R:=by
 intro w n;refine Calls.mono (h w n.pu) fun e w' K=>?_;obtain⟨v,H,I,C⟩:=K;have E:w.heap.size<=w'.heap.size:=C.size;have m:∀ g,g<w.heap.size->w'.heap[g]?=w.heap[g]?:=fun g n=>Below.block C g n;have g1:Fj (fun g=>if g<w.heap.size then u g else w'.heap[g]?) w':=by
  intro g o d;simp only at d;split at d
  ·rename_i hlt;rw[m g hlt];exact n.pu g o d
  exact d
 have g2:Adw (fun g=>if g<w.heap.size then u g else w'.heap[g]?) w':=by
  intro g cs t fr j z d N;simp only;split
  ·rename_i hlt;rw[m g hlt]at d;exact n.cl g cs t fr j z d N
  exact d
 have J:PH.le u (fun g=>if g<w.heap.size then u g else w'.heap[g]?):=fun g o d=>by simp only;rw[if_pos (n.pu.lt d)];exact d
 refine⟨v,_,PH.mt,H,⟨g1,Fj.mt _,fun _=>.inr rfl,g2⟩,⟨E,fun g n _=>m g n,fun g n=>by simp only;rw[if_pos n],fun _ _ h=>h,⟨C.os,C.output⟩,fun f=>f.elim⟩,rfl,O v w w' _ I J (fun g o L d=>by show (if g<w.heap.size then u g else w'.heap[g]?)=some o;rw[if_neg oV];exact d)⟩
end
section
open Go.RowKit Go.MapKept Go.Shelf Go.Sort
variable {g:Nat}
def Bg0 {κ:Type}(c:κ->κ->Int)(enc:κ->List Value)(k:Nat)(keys:List κ)(v:Value)(w w':World):Prop :=
 ∃ (ts:List κ) (a:Option Addr) (cap:Nat),v=.slice a ts.length cap/\ts.length<=cap/\Hb c ts/\(∀ x,x∈ts↔x∈keys)/\∀ (j:Nat) (p:κ),ts[j]?=some p->∃ b,a=some ⟨b,0,none⟩/\w.heap.size<=b/\∀ (i:Nat) (x:Value),(enc p)[i]?=some x->w'.cell? ⟨b,j*k+i,none⟩=some x
def Bg0.list {κ:Type}{c:κ->κ->Int}{enc:κ->List Value}{k:Nat}{d:List κ}{v:Value}{w w':World}{F:PH}(val:κ->Value)(C:∀ p,(val p).cells.toList=enc p)(h:Bg0 c enc k d v w w')(L:∀ g o,w.heap.size<=g->w'.heap[g]?=some o->F g=some o) :
 ∃ ts:List κ,Ac F v k (ts.map val)/\Hb c ts/\∀ x,x∈ts↔x∈d:=by
 obtain⟨ts,a,cap,rfl,I,K,J,n⟩:=h;refine⟨ts,⟨a,cap,by rw[A03],by rw[A03];exact I,fun j e E=>?_⟩,K,J⟩;rw[A1a]at E;obtain⟨p,hp,rfl⟩:=A5n.1 E;obtain⟨b,e,H,N⟩:=n j p hp;refine⟨b,0,e,fun i x hi=>?_⟩;rw[<-A6u,C]at hi;have z:=N i x hi;unfold World.cell? at z;simp only at z;split at z
 ·rename_i cs t fr hh;exact⟨cs,t,fr,L b _ H hh,by rw[A2w];simpa using z⟩
 cases z
def Nf (x:Par):(Ci x).length=2:=rfl
def Ip (P:Program)(st:List KI×S):List KI×S:=match one P (Ff P 200 st).1 (Ff P 200 st).2 with|some st'=>st'|none=>st
section
variable {P:Program} [A6 P] {fn:Func} {Post:Ce} {st:List KI×S} {u m:PH}
def G.pastI (h:G P fn Post (Ip P st) u m):G P fn Post st u m:=by
 unfold Ip at h;split at h
 ·rename_i st' he;exact⟨Mq 200 st (Pa A6.mx he h.out)⟩
 exact h
def Fn0.weak {f:FuncId}{args:List Value}{R j:Value->PH->Prop}(h:Fn0 P f args u R)(H:∀ v d,R v d->j v d):Fn0 P f args u j:=fun w F=>Calls.mono (h w F) fun e w' ⟨v,d,I,n,t,z,C,E⟩=>⟨v,d,I,n,t,z,C,H _ _ E⟩
end
def Bm5 (R g:Nat)(es:Array MapEntry)(d:Nat)(C:List (Par×Value))(hs:Stamped es d)(K:es.toList.map (fun e=>(e.key,e.val))=C.map (fun p=>(Ap p.1,p.2)))(O:(C.map (·.1)).Nodup)(hN:C.length<=1000000)(w:World)(N:w.cell? ⟨R,0,none⟩=some (.map (some g)))(hg:w.heap[g]?=some (.map es d)) :
 Calls prog 109 #[.func (.func 165) #[] #[.pointer (some ⟨R,0,none⟩)],.func (.func 46) #[] #[]] w fun e w'=>∃ v,e=.returned v/\Bg0 Bk Ci 2 (C.map (·.1)) v w w'/\Below w.heap.size w w':=by
 have a0:prog.follows .mixedOrders=true:=kV;have T:R<w.heap.size:=by
  unfold World.cell? at N;split at N
  ·rename_i h;exact Aw h
  cases N
 have c1:=Bl8 _ _ call165 (Bpm C) C.length hN w (Bk7 0 R g es d C hs K O w N T hg);have c2:∀ (v:Value) (ss:List Par) (W:World),Bpm C ss->W.ownsRow w.heap.size 77 2 v ss.length (ss.flatMap Ci)->Below w.heap.size w W->Calls prog 45 #[v,.func (.func 46) #[] #[]] W fun e w'=>e=.returned (.tuple #[])/\Bg0 Bk Ci 2 (C.map (·.1)) v w w'/\Below w.heap.size w w':=by
  intro v ss W E n H;rcases n.2 with ⟨rfl,hz⟩|⟨F,cap,a1,rfl,t,I,r1,r2,r3,r4⟩
  ·have Y:ss = []:=A2l hz;subst Y;refine (AnyF.slices_SortFunc_none Tryz.sortPar none 0 _ W).mono ?_;rintro e w' ⟨rfl,rfl⟩;exact⟨rfl,⟨[],none,0,rfl,A08 _,List.Pairwise.nil,E.2,fun j p X=>by simp at X⟩,H⟩
  have hH:HoldsK Ci 2 W F 0 ss.toArray:=Ani (enc:=Ci) (k:=2) Nf I r4;have J:F<W.heap.size:=Aw I;have Z:ss.toArray.size<4611686018427387904:=by
   have:=Ym (fun x:Par=>x) (L:=ss) (l:=C.map (·.1)) (by simpa using E.1) (fun p hp=>(E.2 p).1 hp);simp at this;simp;omega
  have z:=AnyQ.slices_SortFunc_total Tryz.sortPar 2 (fun w=>kV) (fun w=>kV) Ci (fun _=>rfl) (fun x v hv=>by simp at hv;rcases hv with rfl|rfl<;>rfl) Bk Et.swo 46 #[] F 0 cap ss.toArray W call46 (Ai5 F 0 _ W) hH J Z Et.tot
  change Calls prog 45 _ _ _ at z;simp only[A7s]at z;refine Calls.mono z ?_;rintro e w' ⟨rfl,nn,os,rfl⟩;have hp:=Ir (c:=Bk) ss;refine⟨rfl,⟨E6 Bk ss,some ⟨F,0,none⟩,cap,by rw[hp.length_eq],by rw[hp.length_eq];exact r1,Va Et E.1,fun x=>(hp.mem_iff).trans (E.2 x),fun j p X=>⟨F,rfl,t,fun i x hi=>?_⟩⟩,Bho H t⟩;have h2:=holdsK_sortWorldK_c Ci 2 W F 0 ss.toArray (E6 Bk ss).toArray nn os hH J (by simp[hp.length_eq]);exact Bpv (enc:=Ci) (k:=2) Nf h2 X hi
 clear N hg hs K O
 go_enter func109,ntmps109
 go_wp2_with (go_at_call 164;refine c1.mono ?_;rintro e w' ⟨v,ss,rfl,E,n,Q,H⟩)
 have c3:=c2 v ss w' E n H;clear E n Q H c2 c1
 go_wp2_with (go_at_call 45;refine c3.mono ?_;rintro e w' ⟨rfl,U,V⟩)
 go_ret
 exact⟨v,rfl,U,V⟩
def Bl9 {u:PH}{j g:Nat}{o:Obj}{e:List (Par×Value)}(H:Xn u j 0 (.map (some g)))(F:u g=some o)(z:Hu Ap o e)(E:e.length<=1000000) :
 Fn0 prog 109 [.func (.func 165) #[] #[.pointer (some ⟨j,0,none⟩)],.func (.func 46) #[] #[]] u fun v C=>∃ ts:List Par,Ac C v 2 (ts.map Ap)/\Hb Bk ts/\∀ x,x∈ts↔x∈e.map (·.1):=by
 have t:=z.nodup;obtain⟨es,d,rfl,n,I⟩:=z;refine Fn0.ofB (fun v w w'=>Bg0 Bk Ci 2 (e.map (·.1)) v w w') (fun w hp=>?_) (fun v w w' C h _ J=>Bg0.list (enc:=Ci) Ap (fun _=>rfl) h J);exact Bm5 j g es d e I n t E w (H.cell hp) (hp g _ F)
def Bpt {u:PH}:Fn0 prog 110 [.map (some g)] u fun v d=>∃ b,v=.func (.func 165) #[] #[.pointer (some ⟨b,0,none⟩)]/\Xn d b 0 (.map (some g)):=by
 have h:Ag prog 110 [.map (some g)] u PH.mt (fun v d n=>∃ b,v=.func (.func 165) #[] #[.pointer (some ⟨b,0,none⟩)]/\Xn n b 0 (.map (some g))):=by
  refine Ag.o func110<|G.pastI<|G.pub 0 121 [.map (some g)] kV kV ?_;intro b z t;exact G.r (.func (.func 165) #[] #[.pointer (some ⟨b,0,none⟩)]) ⟨b,rfl,_,_,_,Ab _ _ _,rfl⟩
 refine Fn0.weak h.giveAll ?_;rintro v d ⟨E,C,_,l2,b,e,j⟩;exact⟨b,e,j.mono l2⟩
end
section
open Go.RowKit Go.MapKept Go.Shelf Go.Sort
variable {g:Nat}{u:PH}
def Bi9 (x:Par×Par):(L1 x).length=4:=rfl
def Boj (P g:Nat)(es:Array MapEntry)(d:Nat)(z:List ((Par×Par)×Value))(hs:Stamped es d)(J:es.toList.map (fun e=>(e.key,e.val))=z.map (fun p=>(prV p.1,p.2)))(N:(z.map (·.1)).Nodup)(hN:z.length<=1000000)(w:World)(K:w.cell? ⟨P,0,none⟩=some (.map (some g)))(hg:w.heap[g]?=some (.map es d)) :
 Calls prog 111 #[.func (.func 168) #[] #[.pointer (some ⟨P,0,none⟩)],.func (.func 113) #[] #[]] w fun e w'=>∃ v,e=.returned v/\Bg0 Oc L1 4 (z.map (·.1)) v w w'/\Below w.heap.size w w':=by
 have Y:prog.follows .mixedOrders=true:=kV;have Q:P<w.heap.size:=by
  unfold World.cell? at K;split at K
  ·rename_i h;exact Aw h
  cases K
 have Z:=Bn8 _ _ call168 (Bqc z) z.length hN w (Bl0 0 P g es d z hs J N w K Q hg);have c2:∀ (v:Value) (ss:List (Par×Par)) (W:World),Bqc z ss->W.ownsRow w.heap.size 166 4 v ss.length (ss.flatMap L1)->Below w.heap.size w W->Calls prog 167 #[v,.func (.func 113) #[] #[]] W fun e w'=>e=.returned (.tuple #[])/\Bg0 Oc L1 4 (z.map (·.1)) v w w'/\Below w.heap.size w w':=by
  intro v ss W C m F;rcases m.2 with ⟨rfl,hz⟩|⟨E,cap,a0,rfl,n,H,r1,r2,r3,r4⟩
  ·have V:ss = []:=A2l hz;subst V;refine (AnyF.slices_SortFunc_none Tryz.sortPr none 0 _ W).mono ?_;rintro e w' ⟨rfl,rfl⟩;exact⟨rfl,⟨[],none,0,rfl,A08 _,List.Pairwise.nil,C.2,fun j p U=>by simp at U⟩,F⟩
  have hH:HoldsK L1 4 W E 0 ss.toArray:=Ani (enc:=L1) (k:=4) Bi9 H r4;have I:E<W.heap.size:=Aw H;have X:ss.toArray.size<4611686018427387904:=by
   have:=Ym (fun x:Par×Par=>x) (L:=ss) (l:=z.map (·.1)) (by simpa using C.1) (fun p hp=>(C.2 p).1 hp);simp at this;simp;omega
  have t:=AnyQ.slices_SortFunc_total Tryz.sortPr 4 (fun w=>kV) (fun w=>kV) L1 (fun _=>rfl) (fun x v hv=>by simp at hv;rcases hv with rfl|rfl|rfl|rfl<;>rfl) Oc A0t.swo 113 #[] E 0 cap ss.toArray W call113 (Boz E 0 _ W) hH I X A0t.tot
  change Calls prog 167 _ _ _ at t;simp only[A7s]at t;refine Calls.mono t ?_;rintro e w' ⟨rfl,nn,os,rfl⟩;have hp:=Ir (c:=Oc) ss;refine⟨rfl,⟨E6 Oc ss,some ⟨E,0,none⟩,cap,by rw[hp.length_eq],by rw[hp.length_eq];exact r1,Va A0t C.1,fun x=>(hp.mem_iff).trans (C.2 x),fun j p U=>⟨E,rfl,n,fun i x hi=>?_⟩⟩,Bho F n⟩;have h2:=holdsK_sortWorldK_c L1 4 W E 0 ss.toArray (E6 Oc ss).toArray nn os hH I (by simp[hp.length_eq]);exact Bpv (enc:=L1) (k:=4) Bi9 h2 U hi
 clear K hg hs J N
 go_enter func111,ntmps111
 go_wp2_with (go_at_call 166;refine Z.mono ?_;rintro e w' ⟨v,ss,rfl,C,m,O,F⟩)
 have c3:=c2 v ss w' C m F;clear C m O F c2 Z
 go_wp2_with (go_at_call 167;refine c3.mono ?_;rintro e w' ⟨rfl,R,T⟩)
 go_ret
 exact⟨v,rfl,R,T⟩
def Bnx {j g:Nat}{o:Obj}{e:List ((Par×Par)×Value)}(F:Xn u j 0 (.map (some g)))(E:u g=some o)(t:Hu prV o e)(C:e.length<=1000000) :
 Fn0 prog 111 [.func (.func 168) #[] #[.pointer (some ⟨j,0,none⟩)],.func (.func 113) #[] #[]] u fun v z=>∃ ts:List (Par×Par),Ac z v 4 (ts.map prV)/\Hb Oc ts/\∀ x,x∈ts↔x∈e.map (·.1):=by
 have n:=t.nodup;obtain⟨es,d,rfl,m,H⟩:=t;refine Fn0.ofB (fun v w w'=>Bg0 Oc L1 4 (e.map (·.1)) v w w') (fun w hp=>?_) (fun v w w' z h _ I=>Bg0.list (enc:=L1) prV (fun _=>rfl) h I);exact Boj j g es d e H m n C w (F.cell hp) (hp g _ E)
def Bqe :Fn0 prog 112 [.map (some g)] u fun v d=>∃ b,v=.func (.func 168) #[] #[.pointer (some ⟨b,0,none⟩)]/\Xn d b 0 (.map (some g)):=by
 have h:Ag prog 112 [.map (some g)] u PH.mt (fun v d m=>∃ b,v=.func (.func 168) #[] #[.pointer (some ⟨b,0,none⟩)]/\Xn m b 0 (.map (some g))):=by
  refine Ag.o func112<|G.pastI<|G.pub 0 122 [.map (some g)] kV kV ?_;intro b t n;exact G.r (.func (.func 168) #[] #[.pointer (some ⟨b,0,none⟩)]) ⟨b,rfl,_,_,_,Ab _ _ _,rfl⟩
 refine Fn0.weak h.giveAll ?_;rintro v d ⟨C,z,_,l2,b,e,j⟩;exact⟨b,e,j.mono l2⟩
end
section
variable {u:PH}{v:Value}
def Af.le {m0 m:PH}{t:TypeId}{sz:Nat}{es:List Value}(h:Af m0 m v t sz es):PH.le m0 m:=by
 rcases h.2 with ⟨_,_,rfl⟩|⟨g,cap,rest,d,rfl,_⟩
 ·exact PH.le_refl _
 exact Jw _ d
def Bpz {x p:Value}{q:Rat}(e:Hx u)(h:Bg u x q)(d:Tx q):Fn0 prog 107 [x,p] u fun v _=>v=.string (mkS (Ae q)):=by
 obtain⟨b,a,n,c,b',g,t,j,rfl⟩:=h.opn;refine Fn0.o func107<|G.c call108 (Uf e h d) ?_;rintro C z m rfl;exact G.nF 0 0<|G.r _ ⟨rfl,rfl⟩
def Afk (p:Par×Rat):A9 3 [Bt p]:=fun e d=>by
 simp at d;subst d;exact⟨rfl,fun y g=>by simp[Bt,Value.cells]at g;rcases g with rfl|rfl|rfl<;>rfl⟩
def Aj6 (p:(Par×Par)×Rat):A9 5 [D8 p]:=fun e d=>by
 simp at d;subst d;exact⟨rfl,fun y g=>by simp[D8,Value.cells]at g;rcases g with rfl|rfl|rfl|rfl|rfl<;>rfl⟩
def Blo {κ:Type}{c:κ->κ->Int}{f:κ->Rat}{ts d:List κ}(n:Hb c ts)(g:∀ x,x∈ts↔x∈d)(h0:∀ p∈d,f p≠0)(j:∀ k,k∉d->f k=0):Can c f (ts.map fun p=>(p,f p)):=by
 have e:(ts.map fun p=>(p,f p)).map (·.1)=ts:=by rw[A9h];simp[Function.comp_def]
 refine⟨by rw[e];exact n,fun p hp=>?_,fun k m=>j k fun h=>m (by rw[e];exact (g k).2 h)⟩;obtain⟨x,t,rfl⟩:=A1b.1 hp;exact⟨rfl,h0 x ((g x).1 t)⟩
def Bo6 {F:CF}{N:Nat}(ht:Hx u)(hv:Bgu u v F N)(sF:CFS F)(hN:N<=1000000) :
 Fn0 prog 58 [v] u fun v' u'=>∃ r,v'=.tuple #[r,.int .i64 0]/\No u' r F N:=by
 obtain⟨b,a,n,c,b',a',n',c',g1,g2,o1,o2,rfl,hc,e1,e2,h1,h2⟩:=hv;obtain⟨k1,R,q1,z1,n1⟩:=h1.at;obtain⟨k2,T,q2,z2,n2⟩:=h2.at;refine Fn0.o func58<|G.pastI<|G.pastI<|G.pub 1000 43 [.int .i64 0] kV kV ?_;intro e hu hm;refine G.c call107 (Bpz (p:=.pointer (some ⟨e,0,none⟩)) ht hc (SB.tx sF.c)) ?_;rintro v1 u1 l1 rfl;refine G.c call110 (Bpt (g:=g1)) ?_;rintro v2 u2 l2 ⟨b2,rfl,a9⟩;refine G.c call109 (Bl9 a9 ((l1.trans l2) _ _ e1) R oV) ?_;rintro v3 u3 l3 ⟨ts,W,a3,V⟩;have ah:=(l1.trans l2).trans l3;obtain⟨ta,tc,rfl⟩:=Ac.opn W;rw[A03]at W⊢;have a1:ts.length<=N:=by
  have:=Ym (fun x:Par=>x) (L:=ts) (l:=k1.map (·.1)) (by simpa using a3.nodup Et) (fun p hp=>(V p).1 hp);simp at this;omega
 obtain⟨m0,a2⟩:∃ m0:PH,m0=PH.mt.upd e (.cells [Value.int .i64 0].toArray 43 (0,0)):=⟨_,rfl⟩;rw[<-a2];refine G.l (ι:=Nat×(Option Addr×Nat×Nat)) (fun i=>[(1,.p 0 0),(2,.p 1 0),(4,.v (.pointer (some ⟨e,0,none⟩))),(5,.v (.func (.func 107) #[] #[.pointer (some ⟨e,0,none⟩)])),(6,.p 3005 0),(20,sV ta ts.length tc),(21,iV ts.length),(22,iV i.1)])
  (fun i=>[(0,⟨124,[bV b,sV a n c,bV b',sV a' n' c',.v (.map (some g1)),.v (.map (some g2))]⟩),(1,⟨33,[tV [],sV none 0 0,sV none 0 0]⟩),(3005,⟨33,[tV (Ae F.c),sV i.2.1 i.2.2.1 i.2.2.2,sV none 0 0]⟩)])
  (fun i u' m'=>i.1<=ts.length/\Af m0 m' (.slice i.2.1 i.2.2.1 i.2.2.2) 79 3 ((ts.take i.1).map fun p=>Bt (p,F.s p)))
  (fun i=>ts.length-i.1) (0,(none,0,0)) ⟨mV,Af.nil _ _ _⟩ ?_
 rintro J ⟨i,⟨xa,xn,xc⟩⟩ hJ u4 m4 l4 ⟨hi,hA⟩;simp only at hi hA hJ;have K:=ah.trans l4;by_cases H:i<ts.length
 ·refine G.lT i ts.length ?_;have E:ts[i]?=some ts[i]:=A01 H;obtain⟨ba,oa,rfl,ea⟩:=Ac.at' (W.mono l4) (j:=i) (e:=Ap ts[i]) (by simp[E]);obtain⟨y,m,Y⟩:=A1b.1 ((V ts[i]).1 (A09 H));obtain⟨h,af,_⟩:=q1 y m;have z:=Abv R.nodup (show (y.1,y.2)∈k1 from m);rw[Y]at z h;obtain⟨w1,w2,w3,w4,w5,w6,w7,w8,X⟩:=h.opn;rw[X]at z h;refine G.a ba oa ts.length tc i 2 oV<|G.lU (some 2) ba (oa+i*2) (.agg #[.int .i64 ts[i].1,.string (mkS ts[i].2)]) ea<|G.mapIs (et:=120) Bq fz g1 o1 k1 ts[i] (.agg #[.bool w1,.slice w2 w3 w4,.bool w5,.slice w6 w7 w8]) kV kV (.inl (K _ _ e1)) R z<|G.c call107 (Bpz (p:=.pointer (some ⟨e,0,none⟩)) (ht.mono K) (h.mono K) (SB.tx (sF.s _))) ?_;rintro v5 u5 l5 rfl;refine G.B 79 3 40 (.agg #[.int .i64 0,.string (mkS []),.string (mkS [])]) [.agg #[.int .i64 ts[i].1,.string (mkS ts[i].2),.string (mkS (Ae (F.s ts[i])))]] (Afk (ts[i],F.s ts[i])) ?_;intro g6 u6 l6 e6;have ab:((ts.take i).map fun p=>Bt (p,F.s p)).length=i:=gV;refine G.append 79 3 40 (.agg #[.int .i64 0,.string (mkS []),.string (mkS [])]) m0 ((ts.take i).map fun p=>Bt (p,F.s p)) [.agg #[.int .i64 ts[i].1,.string (mkS ts[i].2),.string (mkS (Ae (F.s ts[i])))]] (.slice xa xn xc) g6 0 1 1 kV rfl rfl oV hA e6 (Afk (ts[i],F.s ts[i])) rfl oV oV oV ?_;intro v7 m7 P;rw[show ((ts.take i).map fun p=>Bt (p,F.s p))++[.agg #[.int .i64 ts[i].1,.string (mkS ts[i].2),.string (mkS (Ae (F.s ts[i])))]]=(ts.take (i+1)).map fun p=>Bt (p,F.s p) by rw[A1n,E,A1i];rfl]at P;obtain⟨a7,c7,rfl⟩:=P.shape;exact G.i i<|G.b (hJ (i+1,(a7,((ts.take (i+1)).map fun p=>Bt (p,F.s p)).length,c7)) _ _ _ cV ((l4.trans l5).trans l6) ⟨dV,P⟩ dV)
 obtain rfl:i=ts.length:=oV;refine G.lF ts.length ts.length ?_;rw[A15]at hA;have ae:xn=ts.length:=by have:=hA.len;simpa using this
 subst ae;refine G.c call112 (Bqe (g:=g2)) ?_;rintro v5 u5 l5 ⟨b5,rfl,aa⟩;refine G.c call111 (Bnx aa ((K.trans l5) _ _ e2) T oV) ?_;rintro v6 u6 l6 ⟨d,U,O,I⟩;have ai:=(K.trans l5).trans l6;obtain⟨qa,qc,rfl⟩:=Ac.opn U;rw[A03]at U⊢;have Q:d.length<=N:=by
  have:=Ym (fun x:Par×Par=>x) (L:=d) (l:=k2.map (·.1)) (by simpa using O.nodup A0t) (fun p hp=>(I p).1 hp);simp at this;omega
 refine G.l (ι:=Nat×(Option Addr×Nat×Nat)) (fun i=>[(1,.p 0 0),(2,.p 1 0),(4,.v (.pointer (some ⟨e,0,none⟩))),(5,.v (.func (.func 107) #[] #[.pointer (some ⟨e,0,none⟩)])),(6,.p 3005 0),(43,sV qa d.length qc),(44,iV d.length),(45,iV i.1)])
  (fun i=>[(0,⟨124,[bV b,sV a n c,bV b',sV a' n' c',.v (.map (some g1)),.v (.map (some g2))]⟩),(1,⟨33,[tV [],sV none 0 0,sV none 0 0]⟩),(3005,⟨33,[tV (Ae F.c),sV xa ts.length xc,sV i.2.1 i.2.2.1 i.2.2.2]⟩)])
  (fun i u' m'=>i.1<=d.length/\Af m4 m' (.slice i.2.1 i.2.2.1 i.2.2.2) 99 5 ((d.take i.1).map fun p=>D8 (p,F.t p)))
  (fun i=>d.length-i.1) (0,(none,0,0)) ⟨mV,Af.nil _ _ _⟩ ?_
 rintro J2 ⟨i,⟨ya,yn,yc⟩⟩ a0 u7 m7 l7 ⟨ac,hB⟩;simp only at ac hB a0;have Z:=ai.trans l7;by_cases H:i<d.length
 ·refine G.lT i d.length ?_;have E:d[i]?=some d[i]:=A01 H;obtain⟨ba,oa,rfl,ea⟩:=Ac.at' (U.mono l7) (j:=i) (e:=prV d[i]) (by simp[E]);obtain⟨y,m,Y⟩:=A1b.1 ((I d[i]).1 (A09 H));obtain⟨h,af,_⟩:=q2 y m;have z:=Abv T.nodup (show (y.1,y.2)∈k2 from m);rw[Y]at z h;obtain⟨w1,w2,w3,w4,w5,w6,w7,w8,X⟩:=h.opn;rw[X]at z h;refine G.a ba oa d.length qc i 4 oV<|G.lU (some 4) ba (oa+i*4) (.agg #[.int .i64 d[i].1.1,.string (mkS d[i].1.2),.int .i64 d[i].2.1,.string (mkS d[i].2.2)]) ea<|G.mapIs (et:=120) Bhr fz g2 o2 k2 d[i] (.agg #[.bool w1,.slice w2 w3 w4,.bool w5,.slice w6 w7 w8]) kV kV (.inl (Z _ _ e2)) T z<|G.c call107 (Bpz (p:=.pointer (some ⟨e,0,none⟩)) (ht.mono Z) (h.mono Z) (SB.tx (sF.t _))) ?_;rintro v8 u8 l8 rfl;refine G.B 99 5 64 (.agg #[.int .i64 0,.string (mkS []),.int .i64 0,.string (mkS []),.string (mkS [])]) [.agg #[.int .i64 d[i].1.1,.string (mkS d[i].1.2),.int .i64 d[i].2.1,.string (mkS d[i].2.2),.string (mkS (Ae (F.t d[i])))]] (Aj6 (d[i],F.t d[i])) ?_;intro g9 u9 l9 e9;have ab:((d.take i).map fun p=>D8 (p,F.t p)).length=i:=gV;refine G.append 99 5 64 (.agg #[.int .i64 0,.string (mkS []),.int .i64 0,.string (mkS []),.string (mkS [])]) m4 ((d.take i).map fun p=>D8 (p,F.t p)) [.agg #[.int .i64 d[i].1.1,.string (mkS d[i].1.2),.int .i64 d[i].2.1,.string (mkS d[i].2.2),.string (mkS (Ae (F.t d[i])))]] (.slice ya yn yc) g9 0 1 1 kV rfl rfl oV hB e9 (Aj6 (d[i],F.t d[i])) rfl oV oV oV ?_;intro ak aj C;rw[show ((d.take i).map fun p=>D8 (p,F.t p))++[.agg #[.int .i64 d[i].1.1,.string (mkS d[i].1.2),.int .i64 d[i].2.1,.string (mkS d[i].2.2),.string (mkS (Ae (F.t d[i])))]]=(d.take (i+1)).map fun p=>D8 (p,F.t p) by rw[A1n,E,A1i];rfl]at C;obtain⟨a4,a5,rfl⟩:=C.shape;exact G.i i<|G.b (a0 (i+1,(a4,((d.take (i+1)).map fun p=>D8 (p,F.t p)).length,a5)) _ _ _ cV ((l7.trans l8).trans l9) ⟨dV,C⟩ dV)
 obtain rfl:i=d.length:=oV;refine G.lF d.length d.length ?_;rw[A15]at hB;have ag:yn=d.length:=by have:=hB.len;simpa using this
 subst ag;have ad:m7 e=some (.cells [Value.int .i64 0].toArray 43 (0,0)):=hB.le _ _ (hA.le _ _ (by rw[a2];exact Ab _ _ _));refine G.lM none e 0 (.int .i64 0) (fun i y m=>by
  match i,m with
  |0,m=>simp[Value.cells]at m;subst m;exact⟨_,_,_,ad,rfl⟩
  |k+1,m=>simp[Value.cells]at m) ?_
 refine G.nF 0 0<|G.give m4 _ _ kV hB (fun _=>.inl rfl) ?_;intro u8 l8 a6;refine G.give m0 _ _ kV hA (fun _=>.inl rfl) ?_;intro u9 l9 a8;refine G.drop PH.mt kV (PH.mt_le _)<|G.r (.tuple #[.agg #[.string (mkS (Ae F.c)),.slice xa ts.length xc,.slice ya d.length yc],.int .i64 0]) ⟨rfl,_,rfl,ts.map (fun p=>(p,F.s p)),d.map (fun p=>(p,F.t p)),xa,xc,ya,yc,by rw[A03,A03],?_,?_,Blo a3 V (fun p hp=>?_) z1,Blo O I (fun p hp=>?_) z2,by rw[A03];exact a1,by rw[A03];exact Q⟩
 ·rw[A03,A9h];exact a8
 ·rw[A03,A9h];exact a6.mono l9
 ·obtain⟨y,m,rfl⟩:=A1b.1 hp;exact (q1 y m).2.1 rfl
 obtain⟨y,m,rfl⟩:=A1b.1 hp;exact (q2 y m).2.1 rfl
end
section
variable {s:List UInt8}{u:PH}
def Sf {q:Rat}(h:q≠0):Ae q≠[48]:=by
 intro e;unfold Ae at e;split at e
 ·have:=Im (e.trans E5.symm);exact h (A4r.1 this)
 have:(47:UInt8)∈Lib.itoa q.num++47::Lib.itoa (q.den:Int):=mV;rw[e]at this;simp at this
def Re (p q:Par)(r:Bool)(h:decide (Bk p q<0)=r):Fn0 prog 49 [Ap p,Ap q] u fun v _=>v=.bool r:=by
 refine Fn0.o func49<|G.c call46 (Afb p q) ?_;rintro g e d rfl;cases r with
 |true =>
  exact G.lT' (Bk p q) 0 (of_decide_eq_true h)<|G.r (.bool true) ⟨rfl,rfl⟩
 |false =>
  exact G.lF' (Bk p q) 0 (of_decide_eq_false h)<|G.r (.bool false) ⟨rfl,rfl⟩
theorem Aa2 (h:Hn s=true):1<=s.length/\s.length<=12:=by
 unfold Hn at h;split at h
 ·cases h
 grind
theorem Y3 (h:Hn s=true){i:Nat}{c:UInt8}(hi:s[i]?=some c):(97<=c.toNat/\c.toNat<=122)\/(i≠0/\(c.toNat=45\/(48<=c.toNat/\c.toNat<=57))):=by
 unfold Hn at h;split at h
 ·cases h
 simp only[Aym]at h
 match i,hi with
 |0,hi=>grind
 |i+1,hi=>grind
theorem Asw (h:Hn s=true):Fn0 prog 117 [.string (mkS s)] u fun v _=>v=.bool true:=by
 obtain⟨E,F⟩:=Aa2 h;refine Fn0.o func117<|G.convSB (some .string) 5 s kV kV kV ?_;intro R P L t;obtain⟨a,c,rfl⟩:=Ac.opn t;rw[Au]at t⊢;refine G.l (ι:=Nat) (fun i=>[(0,tV s),(7,sV a s.length c),(8,iV s.length),(9,iV i)]) (fun _=>[])
  (fun i O K=>i<=s.length/\K=PH.mt) (fun i=>s.length-i) 0 ⟨oV,rfl⟩ ?_
 rintro J i m Q N l2 ⟨hi,rfl⟩;by_cases d:i<s.length
 ·refine G.lT i s.length ?_;have g:s[i]?=some s[i]:=A01 d;obtain⟨b,off,rfl,e⟩:=Ac.at' (t.mono l2) (j:=i) (e:=.int .u8 (s[i].toNat:Int)) (by simp[Fn,g]);have I:=Y3 h g;generalize s[i].toNat=n at e I;refine G.a b off s.length c i 1 d<|G.lU none b (off+i*1) (.int .u8 (n:Int)) e ?_;by_cases H:97<=n/\n<=122
  ·exact G.cmpG .geq .u8 (n:Int) 97 true kV rfl (by simp[Db];omega)<|G.cmpG .leq .u8 (n:Int) 122 true kV rfl (by simp[Db];omega)<|G.i i<|G.b (m (i+1) _ _ _ cV l2 ⟨oV,rfl⟩ oV)
  by_cases C:97<=n
  ·grind
  refine G.cmpG .geq .u8 (n:Int) 97 false kV rfl (by simp[Db];omega)<|G.eF i 0 ?_;by_cases z:n=45
  ·exact G.cmpG .neq .u8 (n:Int) 45 false kV rfl (by simp[Db];omega)<|G.i i<|G.b (m (i+1) _ _ _ cV l2 ⟨oV,rfl⟩ oV)
  exact G.cmpG .neq .u8 (n:Int) 45 true kV rfl (by simp[Db];omega)<|G.cmpG .lss .u8 (n:Int) 48 false kV rfl (by simp[Db];omega)<|G.cmpG .gtr .u8 (n:Int) 57 false kV rfl (by simp[Db];omega)<|G.i i<|G.b (m (i+1) _ _ _ cV l2 ⟨oV,rfl⟩ oV)
 obtain rfl:i=s.length:=oV;exact G.lF s.length s.length<|G.hT s.length 1<|G.kT s.length 12<|G.r (.bool true) ⟨rfl,rfl⟩
end
section
variable {F:CF}{N:Nat}{u:PH}{v:Value}
section
variable {P:Program}
def Boq {A B:Type}{h:A->B}{fs:List A}{x y z:B}(d:fs.map h = [x,y,z]):∃ f g k,fs = [f,g,k]:=by
 have h0:=congrArg List.length d;simp only[A03,A3f,A30]at h0
 match fs,h0 with
 |[f,g,k],_=>exact⟨f,g,k,rfl⟩
def Bfg {t:TypeId}(h:P.underlying t=some .string)(d:Nat)(s:List UInt8)(w:World):(Op.equalIn (d+1) t (.string (mkS s)) (.string (mkS s))).run P w=.ok true w:=by
 rw[run_equalIn_string w d _ _ _ h,Auf];simp
def Bf3 {t tp ti ts tr:TypeId}{k:IntKind}(z:(P.fieldsOf t).toList.map Abc = [(true,tp,0),(true,tr,2)])(R:P.underlying t=some (.struct (P.fieldsOf t)))(hp:P.stoodInHeld t=false)
 (E:(P.fieldsOf tp).toList.map Abc = [(true,ti,0),(true,ts,1)]) (j:P.underlying tp=some (.struct (P.fieldsOf tp))) (I:P.stoodInHeld tp=false) (h:szB P tp=some 2) (hi:P.underlying ti=some (.int k)) (Q:P.underlying ts=some .string) (J:P.underlying tr=some .string) (d:Nat) (x:Par×Rat) (w:World) :
 (Op.equalIn (d+3) t (Bt x) (Bt x)).run P w=.ok true w:=by
 have e:Qj P tp=some true:=by unfold Qj;rw[j]
 unfold Bt;rw[run_equalIn_struct w (d+2) t _ _ R hp];generalize (P.fieldsOf t).toList=fs at z;obtain⟨f,g,H⟩:=Akl z;subst H;simp only[A2u,A7m,A3g,Abc,A2i,bne_iff_ne,ne_eq,and_true]at z;obtain⟨⟨T,L,V⟩,U,O,W⟩:=z;obtain⟨⟨m,n⟩,C⟩:=x;simp only[Op.eqFields,ne_eq,T,U,not_false_eq_true,if_true,Sem.run_bind,L,O,V,W];rw[Jq e h,Result.andThen_ok,Jq e h,Result.andThen_ok];have K:=Qn E j I hi Q d (m,n) (m,n) w;unfold Ap at K;have X:(#[Value.int .i64 m,.string (mkS n),.string (mkS (Ae C))].extract 0 (0+2)) = #[.int .i64 m,.string (mkS n)]:=rfl;simp only[X,K,Result.andThen_ok,decide_true,A72,A4z,if_false,Sem.run_bind];rw[Jh (Qc J) (v:=.string (mkS (Ae C))) rfl,Result.andThen_ok,Jh (Qc J) (v:=.string (mkS (Ae C))) rfl,Result.andThen_ok,Bfg J];simp
def Boo {t tp ti ts tr:TypeId}{k:IntKind}(J:(P.fieldsOf t).toList.map Abc = [(true,tp,0),(true,tp,2),(true,tr,4)])(W:P.underlying t=some (.struct (P.fieldsOf t)))(hp:P.stoodInHeld t=false)
 (E:(P.fieldsOf tp).toList.map Abc = [(true,ti,0),(true,ts,1)]) (j:P.underlying tp=some (.struct (P.fieldsOf tp))) (H:P.stoodInHeld tp=false) (h:szB P tp=some 2) (hi:P.underlying ti=some (.int k)) (O:P.underlying ts=some .string) (L:P.underlying tr=some .string) (d:Nat) (x:(Par×Par)×Rat) (w:World) :
 (Op.equalIn (d+3) t (D8 x) (D8 x)).run P w=.ok true w:=by
 have e:Qj P tp=some true:=by unfold Qj;rw[j]
 unfold D8;rw[run_equalIn_struct w (d+2) t _ _ W hp];generalize (P.fieldsOf t).toList=fs at J;obtain⟨f,g,g',K⟩:=Boq J;subst K;simp only[A2u,A7m,A3g,Abc,A2i,bne_iff_ne,ne_eq,and_true]at J;obtain⟨⟨X,T,o1⟩,⟨Y,U,o2⟩,Z,V,o3⟩:=J;obtain⟨⟨⟨m,n⟩,⟨z,C⟩⟩,I⟩:=x;simp only[Op.eqFields,ne_eq,X,Y,Z,not_false_eq_true,if_true,Sem.run_bind,T,U,V,o1,o2,o3];rw[Jq e h,Result.andThen_ok,Jq e h,Result.andThen_ok];have Q:=Qn E j H hi O d (m,n) (m,n) w;have R:=Qn E j H hi O d (z,C) (z,C) w;unfold Ap at Q R;have x1:(#[Value.int .i64 m,.string (mkS n),.int .i64 z,.string (mkS C),.string (mkS (Ae I))].extract 0 (0+2)) = #[.int .i64 m,.string (mkS n)]:=rfl;have x2:(#[Value.int .i64 m,.string (mkS n),.int .i64 z,.string (mkS C),.string (mkS (Ae I))].extract 2 (2+2)) = #[.int .i64 z,.string (mkS C)]:=rfl;simp only[x1,Q,Result.andThen_ok,decide_true,A72,A4z,if_false,Sem.run_bind];rw[Jq e h,Result.andThen_ok,Jq e h,Result.andThen_ok];simp only[x2,R,Result.andThen_ok,decide_true,A72,A4z,if_false,Sem.run_bind];rw[Jh (Qc L) (v:=.string (mkS (Ae I))) rfl,Result.andThen_ok,Jh (Qc L) (v:=.string (mkS (Ae I))) rfl,Result.andThen_ok,Bfg L];simp
end
def Bgh (x:Par×Rat)(w:World):(Op.equal 79 (Bt x) (Bt x)).run prog w=.ok true w :=
 Bf3 (P:=prog) (t:=79) (tp:=77) (ti:=3) (ts:=9) (tr:=29) (k:=.i64) kV kV kV kV kV kV kV kV kV kV 9997 x w
def Bqu (x:(Par×Par)×Rat)(w:World):(Op.equal 99 (D8 x) (D8 x)).run prog w=.ok true w :=
 Boo (P:=prog) (t:=99) (tp:=77) (ti:=3) (ts:=9) (tr:=29) (k:=.i64) kV kV kV kV kV kV kV kV kV kV 9997 x w
def Azl (u:PH)(v:Value)(F:CF)(K:Nat):Prop:=∃ r,v=.tuple #[r,.int .i64 0]/\No u r F K
def No.opn {K:Nat}(h:No u v F K):∃ d m g e n j,v=.agg #[.string (mkS (Ae F.c)),.slice d m g,.slice e n j]:=by
 obtain⟨T,Q,d,g,e,j,rfl,_⟩:=h;exact⟨_,_,_,_,_,_,rfl⟩
def Bgo (h:Bgu u v F N):∃ b a n c b' d j g g1 g2,v=.agg #[.bool b,.slice a n c,.bool b',.slice d j g,.map (some g1),.map (some g2)]:=by
 obtain⟨b,a,n,c,b',d,j,g,g1,g2,m,t,e,_⟩:=h;exact⟨_,_,_,_,_,_,_,_,_,_,e⟩
def Bsi {F H:CF}{N M:Nat}{v w:Value}(e:Bgu u v F N)(g:Bgu u w H M)(ok:Aw3 F H):Fn0 prog 56 [v,w] u fun m d=>Bgu d m (F.mul H) (M+N+N*M) :=
 Fn0.weak (Ag.giveAll (Bsk e g ok)) fun v d ⟨t,n,j,l2,h⟩=>h.give j l2
def CF.num (k:Rat):CF:=⟨k,fun _=>0,fun _=>0⟩
end
section
variable {b c n:Nat}{x:List UInt8}
section rules
variable [Cl] {P:Program} [A6 P] {fn:Func} {Post:Ce} {st:List KI×S} {u m:PH}
def FnK (P:Program)(f:FuncId)(args:List Value)(u m:PH)(R:Value->PH->Prop):Prop:=Ag P f args u m fun v u' m'=>m'=m/\R v u'
def FnK.of {R:Value->PH->Prop}{f:FuncId}{args:List Value}(e:P.funcs[f]?=some fn)(d:fn.body.isSome=true)(g:Nat.ble args.length fn.ntmps=true)(h:G P fn ⟨fun v t j=>j=m/\R v t,m⟩ (st0 fn args) u m):FnK P f args u m R:=Ag.of e d g h
def G.callK (f:Nat)(args:List Value){R:Value->PH->Prop}(h:Aj P (adv P st)=.call f args)(Q:∀ args w,(callFunc f args).run P w=.ok (.enter f args) w)(c:FnK P f args u m R)
 (k:∀ v d,PH.le u d->R v d->G P fn Post (nx (adv P st) v) d m):G P fn Post st u m:=by
 refine G.big (K:=fun v d t=>t=m/\R v d) h mV Dv (.inl fun v d t N=>by rw[N.1];exact fun g o U=>U) (fun I o j w z=>?_) (fun v d t J L=>?_)
 ·refine Hq j Q w _ (Calls.mono (c w z) fun e w' T=>?_);obtain⟨v,d,t,C,E,F,H⟩:=T;exact⟨v,C,d,t,E,F,H⟩
 obtain⟨rfl,O⟩:=L;exact k v d J O
end rules
section
def Av8 {u m:PH}(L:List (List UInt8))(H:n<=L.length)(F:n<=1000000)(h:∀ j s,L[j]?=some s->ElP m b (0+j*1) (.string (mkS s)))(z:∀ j s,j<n->L[j]?=some s->s≠x) :
 FnK prog 212 [.slice (some ⟨b,0,none⟩) n c,.string (mkS x)] u m fun v _=>v=.int .i64 (-1):=by
 refine FnK.of func212 kV kV<|G.l (ι:=Nat) (fun i=>[(0,sV (some ⟨b,0,none⟩) n c),(1,tV x),(7,iV n),(8,iV i)]) (fun _=>[])
  (fun i K E=>i<=n/\E=m) (fun i=>n-i) 0 ⟨oV,rfl⟩ ?_
 rintro J i t N I C ⟨hi,rfl⟩;by_cases g:i<n
 ·refine G.lT i n ?_;have d:L[i]?=some L[i]:=A01 oV;exact G.a b 0 n c i 1 g<|G.lM none b (0+i*1) (.string (mkS L[i])) (h i _ d)<|G.w x L[i] (fun e=>z i _ g d e.symm)<|G.i i<|G.b (t (i+1) _ _ _ cV C ⟨oV,rfl⟩ oV)
 obtain rfl:i=n:=oV;exact G.lF i i<|G.r (.int .i64 (-1)) ⟨rfl,rfl⟩
def Aiw {u m:PH}(L:List (List UInt8))(g:n<=L.length)(e:n<=1000000)(d:∀ j s,L[j]?=some s->ElP m b (0+j*1) (.string (mkS s)))(h:∀ j s,j<n->L[j]?=some s->s≠x) :
 FnK prog 182 [.slice (some ⟨b,0,none⟩) n c,.string (mkS x)] u m fun v _=>v=.bool false:=by
 refine FnK.of func182 kV kV<|G.callK _ _ kV call212 (Av8 (c:=c) L g e d h) ?_;rintro C z t rfl;exact G.hF (-1) 0<|G.r (.bool false) ⟨rfl,rfl⟩
structure Rc (L:List (List UInt8)):Prop where
 word:∀ s∈L,Hn s=true
 nodup:L.Nodup
def Aqj {u m:PH}{b k c:Nat}{L:List (List UInt8)}(h:Rc L)(J:L.length<=1000)(H:L.length<=c)(g:L[k]?=some x)(t:∀ j s,L[j]?=some s->ElP m b (0+j*1) (.string (mkS s))) :
 FnK prog 130 [.slice (some ⟨b,0,none⟩) L.length c,.int .i64 k] u m fun v _=>v=.int .i64 0:=by
 obtain⟨d,E⟩:=A05.1 g;refine FnK.of func130 kV kV<|G.a b 0 L.length c k 1 d<|G.lM none b (0+k*1) (.string (mkS x)) (t k x g)<|G.c call117 (Asw (h.word x (A1k g))) ?_;rintro Q N K rfl;refine G.sliceTo 1 (some ⟨b,0,none⟩) L.length c k kV oV<|G.a b 0 L.length c k 1 d<|G.lM none b (0+k*1) (.string (mkS x)) (t k x g)<|G.callK _ _ kV call182 (Aiw (n:=k) (c:=c) (x:=x) L oV oV t fun j s I F e=>?_) ?_
 ·obtain⟨z,C⟩:=A05.1 F;have:=(A9e (h₀:=z) (h₁:=d) h.nodup).1 (by rw[C,E,e]);omega
 rintro R O l2 rfl;exact G.r (.int .i64 0) ⟨rfl,rfl⟩
def D9 (a:List UInt8×Nat):Value:=.agg #[.string (mkS a.1),.int .i64 a.2]
def nmV (s:List UInt8):Value:=.string (mkS s)
def G6 (L:List (List UInt8)):A9 1 (L.map nmV):=by
 intro e d;obtain⟨s,_,rfl⟩:=A1b.1 d;exact⟨rfl,A1o.1 rfl⟩
end
end
structure Aq4 (T:List (List UInt8×Nat)):Prop where
 names:Rc (T.map (·.1))
 kind:∀ a∈T,1<=a.2/\a.2<=3
def Rc.take {L:List (List UInt8)}(h:Rc L)(k:Nat):Rc (L.take k):=⟨fun s d=>h.word s (A27 d),h.nodup.sublist (List.take_sublist _ _)⟩
def getElem?_snoc_last {α:Type}(l:List α)(x:α):(l++[x])[l.length]?=some x:=mV
def Ae5 {u:PH}{v w x y:Value}{T:List (List UInt8×Nat)}(h:Ac u v 2 (T.map D9))(ok:Aq4 T)(hl:T.length<=1000)(X:∃ a n c,w=.slice a n c)(Y:∃ a n c,x=.slice a n c)(Z:∃ z:Int,y=.int .i64 z) :
 Fn0 prog 72 [.agg #[v,w,x,y]] u fun r _=>r=.int .i64 0:=by
 obtain⟨a,c,rfl⟩:=h.opn;obtain⟨wa,wn,wc,rfl⟩:=X;obtain⟨xa,xn,xc,rfl⟩:=Y;obtain⟨z,rfl⟩:=Z;rw[A03]at h⊢;refine Fn0.o func72<|G.l (ι:=Nat×(Option Addr×Nat×Nat)) (fun i=>[(3,sV i.2.1 i.2.2.1 i.2.2.2),(8,sV a T.length c),(9,iV T.length),(10,iV i.1)]) (fun _=>[])
  (fun i u' m'=>i.1<=T.length/\Af PH.mt m' (.slice i.2.1 i.2.2.1 i.2.2.2) 9 1 (((T.map (·.1)).take i.1).map nmV)) (fun i=>T.length-i.1) (0,(none,0,0)) ⟨mV,Af.nil _ _ _⟩ ?_
 rintro J ⟨i,na,nn,nc⟩ Q u1 m1 R ⟨hi,H⟩;simp only at hi H Q;by_cases E:i<T.length
 ·refine G.lT i T.length ?_;have F:T[i]?=some T[i]:=A01 E;have I:=ok.kind T[i] (A09 E);have m:((T.map (·.1)).take (i+1))=(T.map (·.1)).take i++[T[i].1]:=by
   rw[A1n,A1a,F];rfl
  have d:=ok.names.take (i+1);rw[m]at d;have C:((T.map (·.1)).take i).length=i:=gV;generalize hL:(T.map (·.1)).take i=L at H m d C;obtain⟨N,U,rfl,P⟩:=Ac.at' (h.mono R) (j:=i) (e:=D9 T[i]) (by simp[F]);generalize T[i]=q at P I m d;refine G.a N U T.length c i 2 E<|G.lU (some 2) N (U+i*2) (.agg #[.string (mkS q.1),.int .i64 q.2]) P<|G.B 9 1 16 (.string (mkS [])) [.string (mkS q.1)] (G6 [q.1]) ?_;intro g2 u2 l2 V;refine G.k 9 1 16 (.string (mkS [])) PH.mt (L.map nmV) [.string (mkS q.1)] (.slice na nn nc) g2 0 1 1 H V (G6 [q.1]) ?_;intro v3 m3 g;rw[show L.map nmV++[.string (mkS q.1)]=(L++[q.1]).map nmV by rw[A1i];rfl]at g;obtain⟨K,O,rfl⟩:=g.ptr mV;have t:=g.cap;rw[A03]at g t⊢;refine G.callK _ _ kV call130 (Aqj (b:=K) (k:=i) (c:=O) (x:=q.1) (L:=L++[q.1]) d gV t (by rw[<-C];exact getElem?_snoc_last L q.1) fun j s W=>g.el (by rw[A1a,W];rfl)) ?_;rintro v4 u4 l4 rfl;exact G.nF 0 0<|G.lF q.2 1<|G.gF q.2 3<|G.i i<|G.b (Q (i+1,(some ⟨K,0,none⟩,(L++[q.1]).length,O)) _ _ _ cV ((R.trans l2).trans l4) ⟨dV,by dsimp only;rw[m];exact g⟩ dV)
 obtain rfl:i=T.length:=oV;exact G.lF T.length T.length<|G.pastI<|G.drop PH.mt kV (PH.mt_le _)<|G.r (.int .i64 0) ⟨rfl,rfl⟩
section
variable {α:Type}
abbrev Al:Type:=Nat×Nat×Nat
def Cm (f:Al):Value:=.agg #[.int .i64 f.1,.int .i64 f.2.1,.int .i64 f.2.2]
def Ad1 {α:Type}(p:α->Bool)(T:List α):Int:=match T.findIdx? p with|some k=>(k:Int)|none=>-1
def Av0 {p:α->Bool}{T:List α}{i:Nat}(hi:i<T.length)(h:p T[i]=true)(h0:∀ j (d:j<i),p (T[j]'oV)=false):Ad1 p T=(i:Int):=by
 have:T.findIdx? p=some i:=A52.2 ⟨hi,h,fun j d=>by simp[h0 j d]⟩;unfold Ad1;rw[this]
def Abp {p:α->Bool}{T:List α}(h0:∀ x∈T,p x=false):Ad1 p T = -1:=by
 have:T.findIdx? p=none:=List.findIdx?_eq_none_iff.2 h0;unfold Ad1;rw[this]
def Alt {u m:PH}{v cap:Value}{T:List Al}{fid:Nat}(p:Al->Bool)(h:Ac u v 3 (T.map Cm))(Q:T.length<=1000000)
 (g:∀ args w,(callFunc fid args).run prog w=.ok (.enter fid args) w) (K:∀ f∈T,∀ C,PH.le u C->FnK prog fid [Cm f,cap] C m fun v _=>v=.bool (p f)) :
 FnK prog 103 [v,.func (.func fid) #[] #[cap]] u m fun P _=>P=.int .i64 (Ad1 p T):=by
 obtain⟨a,c,rfl⟩:=h.opn;rw[A03]at h⊢;refine FnK.of func103 kV kV<|G.l (ι:=Nat) (fun i=>[(0,sV a T.length c),(1,.v (.func (.func fid) #[] #[cap])),(7,iV T.length),(8,iV i)]) (fun _=>[])
  (fun i C N=>i<=T.length/\(∀ j (d:j<T.length),j<i->p (T[j]'d)=false)/\N=m) (fun i=>T.length-i) 0 ⟨oV,fun j d h=>oV,rfl⟩ ?_
 rintro J i I O R z ⟨hi,h0,rfl⟩;by_cases n:i<T.length
 ·refine G.lT i T.length ?_;have t:T[i]?=some T[i]:=A01 n;obtain⟨E,F,rfl,H⟩:=Ac.at' (h.mono z) (j:=i) (e:=Cm T[i]) (by simp[t]);refine G.a E F T.length c i 3 oV<|G.lU (some 3) E (F+i*3) (Cm T[i]) H<|G.callK fid [Cm T[i],cap] kV g (K T[i] (A09 n) O z) ?_;rintro V U l2 rfl;cases hp:p T[i] with
  |true =>
   rw[Av0 n hp fun j d=>h0 j oV d];exact G.r (.int .i64 i) ⟨rfl,rfl⟩
  |false =>
   refine G.i i ?_;exact G.b (I (i+1) _ _ _ cV (z.trans l2) ⟨oV,fun j d h=>by
    rcases (by omega:j<i\/j=i) with e|rfl
    ·exact h0 j d e
    exact hp,rfl⟩ oV)
 obtain rfl:i=T.length:=oV;refine G.lF T.length T.length ?_;rw[Abp fun x L=>by obtain⟨j,d,rfl⟩:=A2y L;exact h0 j d d];exact G.r (.int .i64 (-1)) ⟨rfl,rfl⟩
def Mu {u m:PH}{v cap:Value}{T:List Al}{fid:Nat}(h:Ac u v 3 (T.map Cm))(j:T.length<=1000000)
 (d:∀ args w,(callFunc fid args).run prog w=.ok (.enter fid args) w) (g:∀ f∈T,∀ e,PH.le u e->FnK prog fid [Cm f,cap] e m fun v _=>v=.bool false) :
 FnK prog 61 [v,.func (.func fid) #[] #[cap]] u m fun n _=>n=.bool false:=by
 obtain⟨a,c,rfl⟩:=h.opn;refine FnK.of func61 kV kV<|G.callK _ _ kV call103 (Alt (cap:=cap) (fun _=>false) h j d g) ?_;rintro C z t rfl;rw[Abp fun x _=>rfl];exact G.hF (-1) 0<|G.r (.bool false) ⟨rfl,rfl⟩
def Y2 {u m:PH}{f g:Al}{b:Nat}(e:ElP m b 0 (Cm g))(h:f.1≠g.1):FnK prog 132 [Cm f,.pointer (some ⟨b,0,none⟩)] u m fun v _=>v=.bool false:=by
 refine FnK.of func132 kV kV<|G.f 75 b 0 0 0<|G.lM none b (0+0) (.int .i64 g.1) (fun i x d=>?_) ?_
 ·have:i=0/\x=.int .i64 g.1:=by
   match i,d with
   |0,d=>exact⟨rfl,by simpa[Value.cells] using d.symm⟩
   |i+1,d=>simp[Value.cells]at d
  obtain⟨rfl,rfl⟩:=this;exact e 0 _ rfl
 exact G.eF f.1 g.1<|G.r (.bool false) ⟨rfl,rfl⟩
structure Da (T:List (List UInt8×Nat))(F:List Al)(lab:Int):Prop where
 ok:∀ f∈F,∃ n k,T[f.1]?=some (n,k)/\((f.2.1=1/\k=2/\f.2.2<=1)\/(f.2.1=2/\k=3/\f.2.2=0))/\(f.1:Int)≠lab
 nodup:(F.map (·.1)).Nodup
end
section
variable {b:Nat}{m u:PH}
def Ac.cap {a:Option Addr}{n c sz:Nat}{es:List Value}(h:Ac u (.slice a n c) sz es):es.length<=c:=by
 obtain⟨_,_,e,d,_⟩:=h;cases e;exact d
def L9 {b off:Nat}{q:List UInt8×Nat}(h:ElP u b off (D9 q)):ElP u b (off+1) (.int .i64 q.2):=fun i x d=>by
 match i,d with
 |0,d =>
  have:x=.int .i64 q.2:=by simpa[Value.cells] using d.symm
  subst this;exact h 1 _ rfl
 |i+1,d=>simp[Value.cells]at d
def Ph {t:TypeId}{xs:List Value}{e:Value}(g:e.cells=xs.toArray):ElP (m.upd b (.cells xs.toArray t (0,0))) b 0 e:=fun i x d=>by
 refine⟨_,_,_,Ab _ _ _,?_⟩;rw[g]at d;simpa using d
def Ahq {g:Al}(e:ElP m b 0 (Cm g)):ElP m b (0+0) (.int .i64 g.1):=fun i x d=>by
 match i,d with
 |0,d =>
  have:x=.int .i64 g.1:=by simpa[Value.cells] using d.symm
  subst this;exact e 0 _ rfl
 |i+1,d=>simp[Value.cells]at d
def Aon {v w x:Value}{T:List (List UInt8×Nat)}{F:List Al}{lab:Int}(h:Ac u v 2 (T.map D9))(hF:Ac u x 3 (F.map Cm))(ok:Da T F lab)(hl:T.length<=1000)(a1:F.length<=1000)(hw:∃ a n c,w=.slice a n c) :
 Fn0 prog 74 [.agg #[v,w,x,.int .i64 lab]] u fun r _=>r=.int .i64 0:=by
 obtain⟨a,c,rfl⟩:=h.opn;obtain⟨a',K,rfl⟩:=hF.opn;obtain⟨wa,wn,wc,rfl⟩:=hw;have O:=hF.cap;rw[A03]at h hF O⊢;rw[A03];refine Fn0.o func74<|G.l (ι:=Nat) (fun i=>[(1,.p 0 0),(9,sV a' F.length K),(10,iV F.length),(11,iV i)]) (fun _=>[(0,⟨27,[sV a T.length c,sV wa wn wc,sV a' F.length K,iV lab]⟩)])
  (fun i u' m'=>i<=F.length/\m'=PH.mt) (fun i=>F.length-i) 0 ⟨oV,rfl⟩ ?_
 rintro J i V u1 m1 L ⟨hi,rfl⟩;by_cases I:i<F.length
 ·refine G.lT i F.length ?_;have W:F[i]?=some F[i]:=A01 I;obtain⟨n,k,X,C,t⟩:=ok.ok F[i] (A09 I);have d:∀ f∈F.take i,f.1≠(F[i]).1:=by
   intro f hf;obtain⟨j,hj,rfl⟩:=A2y hf;rw[A1e]at hj;rw[A7w];intro e;have:=(A9e (xs:=F.map (·.1)) (h₀:=by rw[A03];omega) (h₁:=by rw[A03];omega) (i:=j) (j:=i) ok.nodup).1 (by rw[A3v,A3v];exact e);omega
  obtain⟨N,R,rfl,ea⟩:=Ac.at' (hF.mono L) (j:=i) (e:=Cm F[i]) (by simp[W]);have E:=(hF.mono L).take' i (by rw[A03];omega);rw[<-A5g]at E;have a2:(F.take i).length=i:=by rw[A1e];omega
  generalize F[i]=f at ea X C t d;obtain⟨Y,a0⟩:=A05.1 X;obtain⟨U,Z,rfl,eb⟩:=Ac.at' (h.mono L) (j:=f.1) (e:=D9 (n,k)) (by simp[X]);refine G.a N R F.length K i 3 I<|G.lU (some 3) N (R+i*3) (.agg #[.int .i64 f.1,.int .i64 f.2.1,.int .i64 f.2.2]) ea<|G.lF f.1 0<|G.hF f.1 T.length<|G.a U Z T.length c f.1 2 Y<|G.f 73 U (Z+f.1*2) 1 1<|G.lU none U (Z+f.1*2+1) (.int .i64 k) (L9 eb) ?_;rcases C with ⟨k1,k2,k3⟩|⟨k1,k2,k3⟩
  ·refine G.eT f.2.1 1<|G.eT k 2 ?_;by_cases k0:f.2.2=0
   ·refine G.eT f.2.2 0<|G.eF f.2.1 2<|G.pastI<|G.pub 3003 75 [.int .i64 f.1,.int .i64 f.2.1,.int .i64 f.2.2] kV kV ?_;intro H Q P;refine G.f 75 H 0 0 0<|G.lM none H (0+0) (.int .i64 f.1) (Ahq (g:=f) (Ph rfl))<|G.eF' f.1 lab t<|G.sliceTo 3 (some ⟨N,R,none⟩) F.length K i kV oV<|G.callK _ _ kV call61 (Mu E (by rw[A1e];omega) call132 fun f' z u' _=>Y2 (g:=f) (Ph rfl) (d f' z)) ?_;rintro v2 u2 l2 rfl;exact G.drop PH.mt kV (PH.mt_le _)<|G.i i<|G.b (V (i+1) _ _ _ cV (L.trans l2) ⟨oV,rfl⟩ oV)
   refine G.eF f.2.2 0<|G.eT f.2.2 1<|G.eF f.2.1 2<|G.pastI<|G.pub 3003 75 [.int .i64 f.1,.int .i64 f.2.1,.int .i64 f.2.2] kV kV ?_;intro H Q P;refine G.f 75 H 0 0 0<|G.lM none H (0+0) (.int .i64 f.1) (Ahq (g:=f) (Ph rfl))<|G.eF' f.1 lab t<|G.sliceTo 3 (some ⟨N,R,none⟩) F.length K i kV oV<|G.callK _ _ kV call61 (Mu E (by rw[A1e];omega) call132 fun f' z u' _=>Y2 (g:=f) (Ph rfl) (d f' z)) ?_;rintro v2 u2 l2 rfl;exact G.drop PH.mt kV (PH.mt_le _)<|G.i i<|G.b (V (i+1) _ _ _ cV (L.trans l2) ⟨oV,rfl⟩ oV)
  refine G.eF f.2.1 1<|G.eT f.2.1 2<|G.eT k 3<|G.eT f.2.2 0<|G.pastI<|G.pub 3003 75 [.int .i64 f.1,.int .i64 f.2.1,.int .i64 f.2.2] kV kV ?_;intro H Q P;refine G.f 75 H 0 0 0<|G.lM none H (0+0) (.int .i64 f.1) (Ahq (g:=f) (Ph rfl))<|G.eF' f.1 lab t<|G.sliceTo 3 (some ⟨N,R,none⟩) F.length K i kV oV<|G.callK _ _ kV call61 (Mu E (by rw[A1e];omega) call132 fun f' z u' _=>Y2 (g:=f) (Ph rfl) (d f' z)) ?_;rintro v2 u2 l2 rfl;exact G.drop PH.mt kV (PH.mt_le _)<|G.i i<|G.b (V (i+1) _ _ _ cV (L.trans l2) ⟨oV,rfl⟩ oV)
 obtain rfl:i=F.length:=oV;exact G.lF F.length F.length<|G.r (.int .i64 0) ⟨rfl,rfl⟩
end
section
variable {L:List Bool}{b c n:Nat}{m m0 u:PH}
def Awk (F:n=L.length)(E:n<=1000000)(g:∀ (j:Nat) s,L[j]?=some s->ElP m b (0+j*1) (.bool s))(t:∀ s∈L,s=true) :
 FnK prog 183 [.slice (some ⟨b,0,none⟩) n c,.bool false] u m fun v _=>v=.int .i64 (-1):=by
 refine FnK.of func183 kV kV<|G.l (ι:=Nat) (fun i=>[(0,sV (some ⟨b,0,none⟩) n c),(1,bV false),(7,iV n),(8,iV i)]) (fun _=>[])
  (fun i I C=>i<=n/\C=m) (fun i=>n-i) 0 ⟨oV,rfl⟩ ?_
 rintro J i h K H z ⟨hi,rfl⟩;by_cases e:i<n
 ·refine G.lT i n ?_;have d:L[i]?=some true:=by
   rw[A01 oV];exact congrArg some (t _ (A09 oV))
  exact G.a b 0 n c i 1 e<|G.lM none b (0+i*1) (.bool true) (g i _ d)<|G.eqB false true kV<|G.i i<|G.b (h (i+1) _ _ _ cV z ⟨oV,rfl⟩ oV)
 obtain rfl:i=n:=oV;exact G.lF i i<|G.r (.int .i64 (-1)) ⟨rfl,rfl⟩
def Aiq (g:n=L.length)(e:n<=1000000)(d:∀ (j:Nat) s,L[j]?=some s->ElP m b (0+j*1) (.bool s))(h:∀ s∈L,s=true) :
 FnK prog 131 [.slice (some ⟨b,0,none⟩) n c,.bool false] u m fun v _=>v=.bool false:=by
 refine FnK.of func131 kV kV<|G.callK _ _ kV call183 (Awk (c:=c) (L:=L) g e d h) ?_;rintro C z t rfl;exact G.hF (-1) 0<|G.r (.bool false) ⟨rfl,rfl⟩
abbrev Br:Type:=List UInt8×List Nat×(Option Addr×Nat)
def Hs (r:Br):Value:=.agg #[.string (mkS r.1),.slice r.2.2.1 r.2.1.length r.2.2.2]
structure Py (u:PH)(n:Nat)(R:List Br):Prop where
 names:Rc (R.map (·.1))
 ne:∀ r∈R,r.2.1≠[]
 lt:∀ r∈R,∀ a∈r.2.1,a<n
 len:∀ r∈R,r.2.1.length<=1000
 asc:∀ r∈R,∀ (k:Nat) x y,r.2.1[k]?=some x->r.2.1[k+1]?=some y->x<y
 all:∀ a<n,∃ r∈R,a∈r.2.1
 at':∀ r∈R,Ac u (.slice r.2.2.1 r.2.1.length r.2.2.2) 1 (Ai r.2.1)
def Aqk (g n:Nat)(L:List Bool):Arr:=⟨.slice (some ⟨g,0,none⟩) n n,4,1,L.map .bool⟩
def Ajq (a:Option Addr)(c:Nat)(L:List (List UInt8)):Arr:=⟨.slice a L.length c,9,1,L.map nmV⟩
def Ak5 {g n:Nat}:(Aqk g n L).At m0 m=Af m0 m (.slice (some ⟨g,0,none⟩) n n) 4 1 (L.map .bool):=rfl
def Ak3 {a:Option Addr}{L:List (List UInt8)}:(Ajq a c L).At m0 m=Af m0 m (.slice a L.length c) 9 1 (L.map nmV):=rfl
def Sd (L:List Bool)(a:Nat):(L.map Value.bool).set a (.bool true)=(L.set a true).map Value.bool:=by rw[A2g]
def Aha {w x y:Value}{a0:Option Addr}{n c0:Nat}{R:List Br}(hR:Ac u w 2 (R.map Hs))(ok:Py u n R)(hn:n<=1000)(aw:0<n)(hl:R.length<=1000)(hx:∃ a n c,x=.slice a n c)(hy:∃ z:Int,y=.int .i64 z) :
 Fn0 prog 73 [.agg #[.slice a0 n c0,w,x,y]] u fun r _=>r=.int .i64 0:=by
 obtain⟨a,c,rfl⟩:=hR.opn;obtain⟨xa,xn,xc,rfl⟩:=hx;obtain⟨z,rfl⟩:=hy;rw[A03]at hR⊢;refine Fn0.o func73<|G.make 4 1 1 (.bool false) n kV rfl rfl oV oV oV ?_;rintro v1 m1 ae ⟨ad,rfl⟩;obtain⟨g,rfl,_⟩:=ae.some';refine G.l (ι:=Nat×List Bool×List (List UInt8)×(Option Addr×Nat)) (fun i=>[(3,sV i.2.2.2.1 i.2.2.1.length i.2.2.2.2),(4,sV (some ⟨g,0,none⟩) n n),(16,sV a R.length c),(17,iV R.length),(18,iV i.1)]) (fun _=>[])
  (fun i u' m'=>i.1<=R.length/\i.2.1.length=n/\i.2.2.1=(R.map (·.1)).take i.1/\(∀ r∈R.take i.1,∀ q∈r.2.1,i.2.1[q]?=some true)/\Bag m' [Aqk g n i.2.1,Ajq i.2.2.2.1 i.2.2.2.2 i.2.2.1]) (fun i=>R.length-i.1) (0,List.replicate n false,[],(none,0))
  ⟨mV,mV,mV,mV,⟨PH.mt,by rw[Ak5,A8z];exact ae,PH.mt,Af.nil _ _ _,trivial⟩⟩ ?_
 rintro J ⟨i,L,N,⟨na,nc⟩⟩ hJ u2 m2 l2 ⟨hi,hL,hN,K,O⟩;simp only at hi hL hN K O hJ;by_cases a8:i<R.length
 ·refine G.lT i R.length ?_;have a7:R[i]?=some R[i]:=A01 a8;have t:R[i]∈R:=A09 a8;have Y:(R.map (·.1)).take (i+1)=N++[R[i].1]:=by
   rw[A1n,A1a,a7,hN];rfl
  have a4:R.take (i+1)=R.take i++[R[i]]:=by
   rw[A1n,a7];rfl
  have h:=ok.names.take (i+1);rw[Y]at h;have ai:N.length=i:=by rw[hN];simp;omega
  obtain⟨ba,oa,rfl,ea⟩:=Ac.at' (hR.mono l2) (j:=i) (e:=Hs R[i]) (by simp[a7]);generalize R[i]=q at ea t Y a4 h;obtain⟨P,d,qa,qc⟩:=q;have ar:d≠[]:=ok.ne _ t;have aj:∀ p∈d,p<n:=ok.lt _ t;have ay:d.length<=1000:=ok.len _ t;have ah:∀ (k:Nat) x y,d[k]?=some x->d[k+1]?=some y->x<y:=ok.asc _ t;have an:Ac u2 (.slice qa d.length qc) 1 (Ai d):=(ok.at' _ t).mono l2;have ax:0<d.length:=A4f.2 ar;simp only at Y h;refine G.a ba oa R.length c i 2 a8<|G.lU (some 2) ba (oa+i*2) (.agg #[.string (mkS P),.slice qa d.length qc]) ea<|G.B 9 1 16 (.string (mkS [])) [.string (mkS P)] (G6 [P]) ?_;intro g3 u3 l3 e3;obtain⟨mm,aa,a3⟩:=O.focus 1 rfl;rw[Ak3]at aa;refine G.k 9 1 16 (.string (mkS [])) mm (N.map nmV) [.string (mkS P)] (.slice na N.length nc) g3 0 1 1 aa e3 (G6 [P]) ?_;intro v4 m4 C;rw[show N.map nmV++[.string (mkS P)]=(N++[P]).map nmV by rw[A1i];rfl]at C;obtain⟨b4,c4,rfl⟩:=C.ptr mV;have T:=C.cap;rw[A03]at C T⊢;have F:=a3 (Ajq (some ⟨b4,0,none⟩) c4 (N++[P])) m4 C;simp only[A2j,A2p]at F;refine G.callK _ _ kV call130 (Aqj (b:=b4) (k:=i) (c:=c4) (x:=P) (L:=N++[P]) h gV T (by rw[<-ai];exact getElem?_snoc_last N P) fun j s hs=>C.el (by rw[A1a,hs];rfl)) ?_;rintro v5 u5 l5 rfl;refine G.nF 0 0<|G.eF d.length 0 ?_;generalize N++[P]=N' at F Y;clear C a3 aa O T h;have av:∀ p∈d,p<n:=aj;refine G.l (ι:=Nat×List Bool) (fun j=>[(3,sV (some ⟨b4,0,none⟩) N'.length c4),(4,sV (some ⟨g,0,none⟩) n n),(6,.p 5003 0),(16,sV (some ⟨ba,oa,none⟩) R.length c),(17,iV R.length),(18,iV i),(39,sV qa d.length qc),(40,iV d.length),(41,iV j.1)])
   (fun _=>[(5003,⟨70,[tV P,sV qa d.length qc]⟩)])
   (fun j u' m'=>j.1<=d.length/\j.2.length=n/\(∀ r∈R.take i,∀ q∈r.2.1,j.2[q]?=some true)/\(∀ q∈d.take j.1,j.2[q]?=some true)/\Bag m' [Aqk g n j.2,Ajq (some ⟨b4,0,none⟩) c4 N']) (fun j=>d.length-j.1) (0,L)
   ⟨mV,hL,K,mV,F⟩ ?_
  rintro J2 ⟨j,L2⟩ ag u6 m6 l6 ⟨hj,a6,E,v,H⟩;simp only at hj a6 E v H ag;have W:=an.mono ((l3.trans l5).trans l6);by_cases V:j<d.length
  ·refine G.lT j d.length ?_;have ao:d[j]?=some d[j]:=A01 V;have ak:d[j]<n:=aj _ (A09 V);have a5:d.take (j+1)=d.take j++[d[j]]:=by rw[A1n,ao];rfl
   obtain⟨bq,oq,rfl,eq⟩:=Ac.at' W (j:=j) (e:=.int .i64 (d[j]:Int)) (by simp[Ai,ao]);generalize d[j]=p at eq ak a5;refine G.a bq oq d.length qc j 1 V<|G.lU none bq (oq+j*1) (.int .i64 p) eq<|G.lF p 0<|G.hF p n<|G.a g 0 n n p 1 ak ?_;obtain⟨au,ap,a9⟩:=H.focus 0 rfl;rw[Ak5]at ap;refine G.storeA 1 au (L2.map Value.bool) g n n p (.bool true) kV ap (by rw[A03];omega) rfl rfl ?_;intro m7 af;rw[Sd]at af;have Q:=a9 (Aqk g n (L2.set p true)) m7 af;simp only[A2p]at Q;refine G.i j ?_;have U:∀ q,L2[q]?=some true->(L2.set p true)[q]?=some true:=fun q I=>by
    rw[A1z];split
    ·subst_vars;rw[if_pos oV]
    exact I
   exact G.b (ag (j+1,L2.set p true) _ _ _ cV l6 ⟨dV,by simp[a6],fun r Z q I=>U q (E r Z q I),by
    intro q I;dsimp only at I⊢;rw[a5,A1h,A12]at I;rcases I with I|rfl
    ·exact U q (v q I)
    rw[A1z];simp;omega,Q⟩ dV)
  obtain rfl:j=d.length:=oV;refine G.lF d.length d.length ?_;rw[A15]at v;refine G.l (ι:=Nat) (fun k=>[(3,sV (some ⟨b4,0,none⟩) N'.length c4),(4,sV (some ⟨g,0,none⟩) n n),(6,.p 5003 0),(10,iV (k+1:Nat)),(16,sV (some ⟨ba,oa,none⟩) R.length c),(17,iV R.length),(18,iV i)])
   (fun _=>[(5003,⟨70,[tV P,sV qa d.length qc]⟩)])
   (fun k u' m'=>k+1<=d.length/\m'=m6) (fun k=>d.length-k) 0
   ⟨oV,rfl⟩ ?_
  rintro J3 k aq u8 m8 l8 ⟨hk,rfl⟩;have X:=W.mono l8;by_cases a2:k+1<d.length
  ·refine G.lT (k+1:Nat) d.length ?_;have al:d[k]?=some d[k]:=A01 oV;have am:d[k+1]?=some d[k+1]:=A01 a2;have a1:=ah k _ _ al am;obtain⟨bq,oq,rfl,ac⟩:=Ac.at' X (j:=k+1) (e:=.int .i64 (d[k+1]:Int)) (by simp[Ai,am]);obtain⟨_,_,e',ab⟩:=Ac.at' X (j:=k) (e:=.int .i64 (d[k]:Int)) (by simp[Ai,al]);cases e';generalize d[k]=p1 at ab a1;generalize d[k+1]=p2 at ac a1;exact G.a bq oq d.length qc (k+1) 1 a2<|G.lU none bq (oq+(k+1)*1) (.int .i64 p2) ac<|G.s (k+1:Nat) 1 k<|G.a bq oq d.length qc k 1 oV<|G.lU none bq (oq+k*1) (.int .i64 p1) ab<|G.kF p2 p1<|G.p (k+1:Nat) 1 (k+1+1:Nat)<|G.b (aq (k+1) _ _ _ cV l8 ⟨oV,rfl⟩ oV)
  refine G.lF (k+1:Nat) d.length<|G.i i ?_;exact G.b (hJ (i+1,L2,N',(some ⟨b4,0,none⟩,c4)) _ _ _ cV ((((l2.trans l3).trans l5).trans l6).trans l8) ⟨dV,a6,Y.symm,by
   intro r Z q I;dsimp only at Z I⊢;rw[a4,A1h,A12]at Z;rcases Z with Z|rfl
   ·exact E r Z q I
   exact v q I,H⟩ dV)
 obtain rfl:i=R.length:=oV;refine G.lF R.length R.length ?_;rw[A15]at K;refine G.callK _ _ kV call131 (Aiq (b:=g) (c:=n) (L:=L) hL.symm oV (fun j s hs=>O.el 0 rfl (x:=Aqk g n L) rfl (by show (L.map Value.bool)[j]?=_;rw[A1a,hs];rfl)) fun s hs=>by
  obtain⟨j,hj,rfl⟩:=A2y hs;obtain⟨r,Z,I⟩:=ok.all j oV;have:=K r Z j I;rw[A01 hj]at this;exact A28 this) ?_
 rintro v3 u3 l3 rfl;exact G.drop PH.mt kV (PH.mt_le _)<|G.r (.int .i64 0) ⟨rfl,rfl⟩
end
structure Bl (u:PH)(T:List (List UInt8×Nat))(R:List Br)(F:List Al)(lab:Int):Prop where
 att:Aq4 T
 rel:Py u T.length R
 feat:Da T F lab
 t1:0<T.length
 t2:T.length<=12
 r1:0<R.length
 r2:R.length<=6
 f2:F.length<=8
 l1:-1<=lab
 l2:∀ l:Nat,lab=(l:Int)->∃ n,T[l]?=some (n,2)
def Py.mono {u d:PH}{n:Nat}{R:List Br}(h:Py u n R)(e:PH.le u d):Py d n R:=⟨h.names,h.ne,h.lt,h.len,h.asc,h.all,fun r g=>(h.at' r g).mono e⟩
def Bl.mono {u d:PH}{T:List (List UInt8×Nat)}{R:List Br}{F:List Al}{lab:Int}(h:Bl u T R F lab)(e:PH.le u d):Bl d T R F lab:=⟨h.att,h.rel.mono e,h.feat,h.t1,h.t2,h.r1,h.r2,h.f2,h.l1,h.l2⟩
def H5 (u:PH)(v:Value)(T:List (List UInt8×Nat))(R:List Br)(F:List Al)(lab:Int):Prop :=
 ∃ a c b d e f,v=.agg #[.slice a T.length c,.slice b R.length d,.slice e F.length f,.int .i64 lab]/\Ac u (.slice a T.length c) 2 (T.map D9)/\Ac u (.slice b R.length d) 2 (R.map Hs)/\Ac u (.slice e F.length f) 3 (F.map Cm)
def H5.mono {u j:PH}{v:Value}{T:List (List UInt8×Nat)}{R:List Br}{F:List Al}{lab:Int}(h:H5 u v T R F lab)(g:PH.le u j):H5 j v T R F lab:=by
 obtain⟨a,c,b,d,e,f,z,m,n,t⟩:=h;exact⟨a,c,b,d,e,f,z,m.mono g,n.mono g,t.mono g⟩
def Adn {u:PH}{v:Value}{T:List (List UInt8×Nat)}{R:List Br}{F:List Al}{lab:Int}(h:H5 u v T R F lab)(ok:Bl u T R F lab) :
 Fn0 prog 39 [v] u fun r _=>r=.int .i64 0:=by
 obtain⟨a,c,b,d,e,f,rfl,hT,W,hF⟩:=h;have t1:=ok.t1;have t2:=ok.t2;have r1:=ok.r1;have r2:=ok.r2;have f2:=ok.f2;have lo:=ok.l1;have hi:lab<T.length:=by
  rcases A5q lab 0 with t|I
  ·omega
  obtain⟨n,K⟩:=ok.l2 lab.toNat oV;obtain⟨hk,_⟩:=A05.1 K;omega
 refine Fn0.o func39<|G.eF T.length 0<|G.gF T.length 12<|G.eF R.length 0<|G.gF R.length 6<|G.gF F.length 8<|G.buildU 100 1 8 (.nilFunc) [.func (.func 72) #[] #[],.func (.func 73) #[] #[],.func (.func 74) #[] #[]] kV (fun x O=>by
  simp only[A1g,A11,or_false]at O;rcases O with rfl|rfl|rfl<;>exact⟨rfl,A1o.1 rfl⟩) rfl oV mV mV ?_
 intro g u1 Y U;refine G.l (ι:=Nat) (fun i=>[(1,.p 0 0),(34,sV (some ⟨g,0,none⟩) 3 3),(35,iV (3:Nat)),(36,iV i)])
  (fun _=>[(0,⟨27,[sV a T.length c,sV b R.length d,sV e F.length f,iV lab]⟩)])
  (fun i u' Z=>i<=3/\Z=PH.mt) (fun i=>3-i) 0 ⟨oV,rfl⟩ ?_
 rintro J i H u2 m2 l2 ⟨X,rfl⟩;have m:=Y.trans l2;have E:=U.mono l2;by_cases t:i<3
 ·refine G.lT i (3:Nat)<|G.a g 0 3 3 i 1 t ?_;rcases (by omega:i=0\/i=1\/i=2) with rfl|rfl|rfl
  ·refine G.lU none g (0+0*1) (.func (.func 72) #[] #[]) (E 0 _ rfl)<|G.c call72 (Ae5 (w:=.slice b R.length d) (x:=.slice e F.length f) (y:=.int .i64 lab) (hT.mono m) ok.att oV ⟨_,_,_,rfl⟩ ⟨_,_,_,rfl⟩ ⟨_,rfl⟩) ?_;rintro Q P z rfl;exact G.nF 0 0<|G.p (0:Nat) 1 (0+1:Nat)<|G.b (H (0+1) _ _ _ cV (l2.trans z) ⟨oV,rfl⟩ oV)
  ·refine G.lU none g (0+1*1) (.func (.func 73) #[] #[]) (E 1 _ rfl)<|G.c call73 (Aha (a0:=a) (c0:=c) (x:=.slice e F.length f) (y:=.int .i64 lab) (W.mono m) (ok.rel.mono m) oV oV oV ⟨_,_,_,rfl⟩ ⟨_,rfl⟩) ?_;rintro Q P z rfl;exact G.nF 0 0<|G.p (1:Nat) 1 (1+1:Nat)<|G.b (H (1+1) _ _ _ cV (l2.trans z) ⟨oV,rfl⟩ oV)
  refine G.lU none g (0+2*1) (.func (.func 74) #[] #[]) (E 2 _ rfl)<|G.c call74 (Aon (w:=.slice b R.length d) (hT.mono m) (hF.mono m) ok.feat oV oV ⟨_,_,_,rfl⟩) ?_;rintro Q P z rfl;exact G.nF 0 0<|G.p (2:Nat) 1 (2+1:Nat)<|G.b (H (2+1) _ _ _ cV (l2.trans z) ⟨oV,rfl⟩ oV)
 obtain rfl:i=3:=oV;refine G.lF (3:Nat) (3:Nat)<|G.lF lab (-1)<|G.hF lab T.length ?_;rcases A5q lab 0 with N|I
 ·exact G.hF lab 0<|G.r (.int .i64 0) ⟨rfl,rfl⟩
 refine G.hT lab 0 ?_;obtain⟨l,rfl⟩:∃ l:Nat,lab=(l:Int):=⟨lab.toNat,oV⟩;obtain⟨n,K⟩:=ok.l2 l rfl;obtain⟨C,L,rfl,V⟩:=Ac.at' (hT.mono m) (j:=l) (e:=D9 (n,2)) (by simp[K]);exact G.a C L T.length c l 2 oV<|G.f 73 C (L+l*2) 1 1<|G.lU none C (L+l*2+1) (.int .i64 (2:Nat)) (L9 V)<|G.nF (2:Nat) 2<|G.r (.int .i64 0) ⟨rfl,rfl⟩
section
variable {n:Nat}{v:Value}{z:Int}
def Azo (n:Nat):(Aa n).getD 0 0=n%1000000000:=by
 by_cases h:n=0
 ·subst h;rw[A7];rfl
 rw[Dz h];rfl
def A0k (n:Nat):(Aa n).getD 1 0=n/1000000000%1000000000:=by
 by_cases h:n=0
 ·subst h;rw[A7];rfl
 rw[Dz h];show (Aa (n/1000000000)).getD 0 0=_;rw[Azo]
def Alh (h:n<1000000000000000000):(Aa n).length<=2:=by
 by_cases h0:n=0
 ·subst h0;rw[A7];simp
 rw[Dz h0];by_cases d:n/1000000000=0
 ·rw[d,A7];simp
 rw[Dz d,show n/1000000000/1000000000=0 by omega,A7];simp
def Aa9 (d:0<=z)(e:z<18446744073709551616):IntKind.u64.wrap z=z:=by
 simp only[IntKind.wrap,IntKind.signed,IntKind.bits];simp;omega
section rules
variable {P:Program} [A6 P] {fn:Func} {Post:Ce} {st:List KI×S} {u m:PH}
def G.mul64 (x y z:Int)(h:Aj P (adv P st)=.bin .mul (.int .u64 x) (.int .u64 y))(g:x*y=z)(d:0<=z)(e:z<18446744073709551616)
 (k:G P fn Post (nx (adv P st) (.int .u64 z)) u m):G P fn Post st u m :=
 G.bin _ h C0 (fun t w=>by simp[binOp,Op.intArith,g,Aa9 d e]) k
def G.add64 (x y z:Int)(h:Aj P (adv P st)=.bin .add (.int .u64 x) (.int .u64 y))(g:x+y=z)(d:0<=z)(e:z<18446744073709551616)
 (k:G P fn Post (nx (adv P st) (.int .u64 z)) u m):G P fn Post st u m :=
 G.bin _ h C0 (fun t w=>by simp[binOp,Op.intArith,g,Aa9 d e]) k
end rules
def Abu {u:PH}(h:Dk u v n)(g:n<1000000000000000000)(i:Nat):Fn0 prog 209 [v,.int .i64 i] u fun r _=>r=.int .u64 (((Aa n).getD i 0:Nat):Int):=by
 have j:=Alh g;obtain⟨a,c,rfl,_⟩:=id h;refine Fn0.o func209 ?_;by_cases d:i<(Aa n).length
 ·refine G.lT i ((Aa n).length:Int) ?_;obtain⟨b,off,rfl,e⟩:=h.at d;exact G.a b off (Aa n).length c i 1 d<|G.lU none b (off+i*1) _ e<|G.r _ ⟨rfl,rfl⟩
 refine G.lF i ((Aa n).length:Int) ?_;rw[Fs d];exact G.r (.int .u64 0) ⟨rfl,rfl⟩
def Aoc {u:PH}(h:Dk u v n)(d:n<1000000000000000000):Fn0 prog 210 [v] u fun r _=>r=.int .u64 (n:Int):=by
 obtain⟨a,c,rfl,_⟩:=id h;refine Fn0.o func210<|G.c call209 (Abu h d 1) ?_;rintro t g e rfl;rw[A0k];refine G.mul64 ((n/1000000000%1000000000:Nat):Int) 1000000000 _ kV rfl oV oV<|G.c call209 (Abu (h.mono e) d 0) ?_;rintro C j l2 rfl;rw[Azo];exact G.add64 (((n/1000000000%1000000000:Nat):Int)*1000000000) ((n%1000000000:Nat):Int) (n:Int) kV oV oV oV<|G.r _ ⟨rfl,rfl⟩
def Aom {u:PH}(h:Bi u v z)(j:z.natAbs<1000000000000000000):Fn0 prog 170 [v] u fun r _=>r=.tuple #[.int .i64 z,.bool true]:=by
 obtain⟨a,H,c,rfl,g⟩:=h;obtain⟨a,c,e,_⟩:=id g;cases e;have C:=Alh j;generalize E:z.natAbs=n at g j C⊢;refine Fn0.o func170<|G.gF ((Aa n).length:Int) 3<|G.c call209 (Abu g j 2) ?_;rintro L I t rfl;rw[Fs (k:=2) oV];refine G.cmpG .gtr .u64 ((0:Nat):Int) 4 false kV rfl (by simp[Db])<|G.c call209 (Abu (g.mono t) j 2) ?_;rintro N J l2 rfl;rw[Fs (k:=2) oV];refine G.mul64 ((0:Nat):Int) 1000000000 0 kV oV oV oV<|G.mul64 0 1000000000 0 kV oV oV oV<|G.c call210 (Aoc (g.mono (t.trans l2)) j) ?_;rintro O K F rfl;refine G.add64 0 (n:Int) (n:Int) kV oV oV oV<|G.cmpG .gtr .u64 (n:Int) 4611686018427387904 false kV rfl (by simp[Db];omega) ?_;by_cases d:z<0
 ·rw[decide_eq_true d];refine G.convI .u64 .i64 .u64 (n:Int) (n:Int) kV ?_ ?_
  ·simp only[IntKind.wrap,IntKind.signed,IntKind.bits];simp;omega
  exact G.neg (n:Int) z kV oV oV oV<|G.r (.tuple #[.int .i64 z,.bool true]) ⟨rfl,rfl⟩
 rw[decide_eq_false d];refine G.convI .u64 .i64 .u64 (n:Int) (n:Int) kV ?_ ?_
 ·simp only[IntKind.wrap,IntKind.signed,IntKind.bits];simp;omega
 obtain rfl:z=(n:Int):=oV;exact G.r (.tuple #[.int .i64 n,.bool true]) ⟨rfl,rfl⟩
end
section
variable {q:Rat}{u:PH}{z:Int}
def Jk (h:z.natAbs<1000000000000000000):Lib.nDigits z.natAbs<=400:=A04 (Cz (k:=18) oV oV) oV
def Aa6 (h:z.natAbs<1000000000000000000):Fn0 prog 116 [.string (mkS (Lib.itoa z))] u fun v _=>v=.tuple #[.int .i64 z,.bool true]:=by
 refine Fn0.o func116<|G.c call134 (Jn (Jk h)) ?_;rintro H C m rfl;refine G.c call169 (Zc (Jk h)) ?_;intro I E l2 d;obtain⟨g,e,t,j,rfl⟩:=d.opn;refine G.c call170 (Aom d h) ?_;rintro J F n rfl;exact G.r (.tuple #[.int .i64 z,.bool true]) ⟨rfl,rfl⟩
def Ayv (h:Tx q):Fn0 prog 115 [.string (mkS (Ae q))] u fun v _=>v=.tuple #[.string (mkS (Lib.itoa q.num)),.string (mkS (Lib.itoa (q.den:Int))),.bool true]:=by
 refine Fn0.o func115<|G.c call75 (Gu h) ?_;rintro m g e rfl;refine G.c call133 (Ay5 h) ?_;rintro n j l2 rfl;by_cases d:q.den=1
 ·rw[if_pos d,decide_eq_false (by simp[d]),d,show ((1:Nat):Int)=1 from rfl,Hf];exact G.r (.tuple #[.string (mkS (Lib.itoa q.num)),.string (mkS [49]),.bool true]) ⟨rfl,rfl⟩
 rw[if_neg d,decide_eq_true d];exact G.r (.tuple #[.string (mkS (Lib.itoa q.num)),.string (mkS (Lib.itoa (q.den:Int))),.bool true]) ⟨rfl,rfl⟩
def Afu (h:z.natAbs<=1000000000):Fn0 prog 114 [.string (mkS (Lib.itoa z))] u fun v _=>v=.bool true:=by
 refine Fn0.o func114<|G.c call116 (Aa6 (z:=z) oV) ?_;rintro g e d rfl;exact G.hT z (-1000000000)<|G.kT z 1000000000<|G.r (.bool true) ⟨rfl,rfl⟩
structure Dat (q:Rat):Prop where
 num:q.num.natAbs<=1000000000
 den:q.den<=12
def Dat.tx (h:Dat q):Tx q:=⟨Jk (by have:=h.num;omega),by have:=Jk (z:=(q.den:Int)) (by have:=h.den;omega);simpa using this⟩
def Ase :Ae q≠[]:=by
 intro e;unfold Ae at e;split at e
 ·by_cases h:q.num<0
  ·rw[N2 h]at e;cases e
  rw[Lib.itoa,if_neg h]at e;exact Gk _ e
 simp at e
def Awh {s:List UInt8}(h:Dat q):Fn0 prog 59 [D9 (s,2),.string (mkS (Ae q))] u fun v _=>v=.bool true:=by
 have d:=h.den;have hp:=q.den_pos;refine Fn0.o func59<|G.eF (2:Nat) 1<|G.eT (2:Nat) 2<|G.c call115 (Ayv h.tx) ?_;rintro t j e rfl;refine G.c call116 (Aa6 (z:=(q.den:Int)) oV) ?_;rintro C m l2 rfl;refine G.w (Ae q) [] Ase<|G.c call114 (Afu h.num) ?_;rintro E n g rfl;exact G.hT q.den 1<|G.kT q.den 12<|G.r (.bool true) ⟨rfl,rfl⟩
end
section
variable {p:Par}{q:Rat}{u:PH}{x:Value}
def CF.one1 (p:Par)(q:Rat):CF:=⟨1,Nh (fun _=>0) p q,Nh (fun _=>0) (p,p) (q*q)⟩
def Bkp {κ:Type}[DecidableEq κ](a:κ)(k:κ):Nh (fun _=>(0:Rat)) a 0 k=0:=by unfold Nh;split<;>rfl
def Bsg (t:Bg u x q)(F:SB q)(N:SB (q*q)) :
 Ag prog 105 [Ap p,x] u PH.mt fun v' u' m'=>Bjh m' u' v' (CF.one1 p q) 1:=by
 obtain⟨xb,xa,xn,xc,V,U,X,W,rfl⟩:=t.opn;refine Ag.o func105<|G.callO _ _ kV call55 (Bma (n:=1) oV oV) ?_;rintro v1 u1 m1 H T _;rw[By];obtain⟨b,a,n,c,b',C,I,E,g1,g2,o1,o2,rfl,h1,d,rfl,h4,h5⟩:=T;refine G.c call161 (Aao (t.mono H) (A04 F.sz.1 oV)) ?_;rintro v2 u2 l2 rfl;by_cases m:q=0
 ·refine G.nF' (sgn q.num) 0 (fun e=>e (A0g.2 m)) ?_;subst m;exact G.r (.agg #[.bool b,.slice a n c,.bool b',.slice C I E,.map (some g1),.map (some g2)]) ⟨b,a,n,c,b',C,I,E,g1,g2,o1,o2,rfl,h1.mono l2,d,rfl,((h4.mf l2).up (A1t 1) (A08 _)).congr fun k=>(Bkp p k).symm,((h5.mf l2).up (A1t 1) (A08 _)).congr fun k=>by
   show (0:Rat)=Nh (fun _=>(0:Rat)) (p,p) (0*0) k;rw[show (0:Rat)*0=0 by decide +kernel,Bkp]⟩
 refine G.nT' (sgn q.num) 0 (fun e=>m (A0g.1 e)) ?_;obtain⟨l,ho,q2,q3,q4⟩:=(h4.mf l2).at;refine G.mapPut (et:=120) Bq g1 o1 l p (.agg #[.bool xb,.slice xa xn xc,.bool V,.slice U X W]) kV kV (by rw[Ad _ _ d,Ab]) ho ?_;intro v J;have T:=N3.put ho q2 q3 q4 J (t.mono (H.trans l2)) (fun _=>m) F.sz (A08 _);refine G.c call99 (Ga (t.mono (H.trans l2)) (t.mono (H.trans l2)) F.big F.big) ?_;intro v3 u3 O r3;obtain⟨yb,ya,yn,yc,Z,Y,a1,a0,rfl⟩:=r3.opn;obtain⟨l',j,P,Q,R⟩:=(h5.mf (l2.trans O)).at;refine G.mapPut (et:=120) Bhr g2 o2 l' (p,p) (.agg #[.bool yb,.slice ya yn yc,.bool Z,.slice Y a1 a0]) kV kV (by rw[Ad _ _ (Ne.symm d),Ab]) j ?_;intro z K;have L:q*q≠0:=fun e=>by
  rcases Rat.mul_eq_zero.1 e with e|e<;>exact m e
 have r2:=N3.put j P Q R K r3 (fun _=>L) N.sz (A08 _);refine G.drop ((PH.mt.upd g1 v).upd g2 z) kV (fun g o h=>?_) ?_
 ·by_cases e:g=g2
  ·subst e;rw[Ab]at h⊢;exact h
  rw[Ad _ _ e]at h⊢;by_cases e:g=g1
  ·subst e;rw[Ab]at h⊢;exact h
  rw[Ad _ _ e]at h;cases h
 exact G.r (.agg #[.bool b,.slice a n c,.bool b',.slice C I E,.map (some g1),.map (some g2)]) ⟨b,a,n,c,b',C,I,E,g1,g2,v,z,rfl,h1.mono (l2.trans O),d,rfl,T.mf O,r2⟩
def Bpl (j:Bg u x q)(g:SB q)(d:SB (q*q)) :
 Fn0 prog 105 [Ap p,x] u fun n e=>Bgu e n (CF.one1 p q) 1 :=
 Fn0.weak (Ag.giveAll (Bsg j g d)) fun v e ⟨z,t,m,l2,h⟩=>h.give m l2
def Bir {n:Int}(e:-9223372036854775808<=n)(g:n<=9223372036854775807):Fn0 prog 55 [.int .i64 n] u fun m d=>Bgu d m (CF.num (n:Rat)) 0 :=
 Fn0.weak (Ag.giveAll (Bma e g)) fun v d ⟨z,t,j,l2,h⟩=>Bjh.give (F:=CF.num (n:Rat)) h j l2
end
end Go.Proofs.YtnjlhkppabfebaaGreatDoor
