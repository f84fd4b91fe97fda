import Derived.Test.YtemmheaocgmebaaGreatDoorTie
import Derived.Test.YtemmheaocgmebaaGreatDoorV16
set_option linter.defProp false
set_option linter.unusedSimpArgs false
set_option linter.unusedSectionVars false
set_option linter.unusedVariables false
namespace Go.Proofs.YtemmheaocgmebaaGreatDoor.refreshleverage
open Go.ChangeShapes Go.WideShapes Go.ChangeAt Go.RowKit
theorem own:ownKnob Tryz.prog.godebug=none:=by kernel_rfl
theorem gTab:Tryz.prog.globalNamed "internal/strconv.uint64pow10" = some 1:=by kernel_rfl
theorem gTabType:(Tryz.prog.globals[1]?).map (·.type)=some 343:=by kernel_rfl
theorem underA:Tryz.prog.underlying 343=some (.array 20 246):=by kernel_rfl
theorem underE:Tryz.prog.underlying 246=some (.int .u64):=by kernel_rfl
theorem cellsE:Tryz.prog.cellsOf 246=1:=by kernel_rfl
theorem cellsA:Tryz.prog.cellsOf 343=20:=by kernel_rfl
theorem underS:Tryz.prog.underlying 22=some (.slice 3):=by kernel_rfl
theorem underI:Tryz.prog.underlying 3=some (.int .i64):=by kernel_rfl
theorem underB:Tryz.prog.underlying 4=some .bool:=by kernel_rfl
theorem cellsI:Tryz.prog.cellsOf 3=1:=by kernel_rfl
theorem pow10_eq:(Rows.laid_internal_strconv_uint64pow10:DataW Unit)=Lib.tabData .u64 Lib.pow10Tab:=by kernel_rfl
theorem table {W:World} (h:laidMetH Tryz.prog Rows.refreshLeverageRow.laid W):Lib.TabIs Tryz.prog W "internal/strconv.uint64pow10" .u64 Lib.pow10Tab:=by
  have h':laidMet Tryz.prog Rows.refreshLeverageRow.laid W:=h
  have h2:=h'.tail.tail
  exact Lib.tabIs_of_head gTab gTabType underA underE cellsE cellsA (rest:=[("strconv.ErrRange",Rows.laid_strconv_ErrRange),("strconv.ErrSyntax",Rows.laid_strconv_ErrSyntax)]) (by rw[<-pow10_eq];exact h2)
def allU (W:World):PH:=fun g=>W.heap[g]?
theorem allGood (W:World):Bv (allU W) PH.mt W:=⟨fun _ _ h=>h,Fj.mt W,fun _=>.inr rfl,fun _ _ _ _ _ _ h _=>h⟩
theorem tabAll {W:World} (h:Lib.TabIs Tryz.prog W "internal/strconv.uint64pow10" .u64 Lib.pow10Tab):Hx (allU W):=by
  intro w hp
  unfold Lib.TabIs at h⊢
  unfold World.var? at h⊢
  rw[gTab]at h⊢
  simp only[Option.bind_some]at h⊢
  cases hb:W.heap[1]? with
  |none=>rw[hb]at h;simp at h
  |some o=>rw[hp _ o hb];rw[hb]at h;exact h
theorem walked {W:World} {v:Value} {ts:List Int} (hL:Lib.TabIs Tryz.prog W "internal/strconv.uint64pow10" .u64 Lib.pow10Tab) (hv:Ac (allU W) v 1 (Fc ts)) (hw:∀ n∈ts,(Lit.int .i64 n).wf=true) :
    Calls Tryz.prog 4 #[v] W fun e W'=>e=.returned (.bool true)/\W'.os=W.os/\W'.output=W.output/\∀ g,g<W.heap.size->W'.heap[g]?=W.heap[g]?:=by
  have hb:∀ n∈ts,-9223372036854775808<=n/\n<=9223372036854775807:=fun n hn=>by
    have:=hw n hn
    simp[Lit.wf,IntKind.min,IntKind.max,IntKind.signed,IntKind.bits]at this
    omega
  have h:=Bd2 (tabAll hL) hv (fun n hn=>(hb n hn).1) (fun n hn=>(hb n hn).2) W (allGood W)
  refine Calls.mono h fun e W' he=>?_
  obtain⟨r,u',m',e1,e2,e3,e4,e5⟩:=he
  subst e5
  exact⟨e1,e3.io.1,e3.io.2,fun g hg=>e3.old g hg rfl⟩
theorem kept {W W':World} (ho:W'.os=W.os) (hp:W'.output=W.output) (hb:∀ g,g<W.heap.size->W'.heap[g]?=W.heap[g]?) (may:MemPlace->Prop):W.keptBut W' may:=by
  refine⟨ho,hp,fun i hi=>?_⟩
  rw[hb i hi]
  split<;>simp_all
set_option maxRecDepth 100000 in
theorem contract (H:Type) (enc:TypeId×Value->H) (W:World) (base:Nat) (args:Array Value) (ds gs:List (DataW H)) (before:List MemPlace)
    (hval:∀ (j:Nat) t v,Tryz.f4.params[j]?=some t->args[j]?=some v->Value.okWide Tryz.prog W .any base t v)
    (hW:DataW.Whole enc Tryz.prog Tryz.f4.params.toList Rows.refreshLeverageSpec.vars false W args.toList ds gs before) (hL:laidMetH Tryz.prog Rows.refreshLeverageRow.laid W) :
    Calls Tryz.prog 4 args W fun e W'=>∃ v,e=.returned v/\Rows.refreshLeverageSpec.post enc Tryz.prog Tryz.f4 false true false false W args v W':=by
  have hW':=hW
  obtain⟨p,q,hA0,hV,rfl,hfz,hnd⟩:=hW
  have hA:DataW.TrodAll enc Tryz.prog W 0 (fun _=>true) true Tryz.f4.params.toList args.toList ds p:=hA0
  rw[Tryz.params4]at hA hval
  obtain⟨v0,d0,hargs0,rfl,h0⟩:=trodAll_one hA
  obtain⟨rfl,rfl⟩:=trodVars_none hV
  obtain rfl:args = #[v0]:=by cases args;simp_all
  obtain⟨a0,len,cap,rfl⟩:=okWide_slice underS (hval 0 22 v0 rfl rfl)
  obtain⟨fuel,hf⟩:=h0
  clear hA0
  simp only[List.append_nil]at hW'
  have hlt:∀ x∈p,x.block<W.heap.size:=fun x hx=>by simpa using hW'.lt x hx
  have fin:∀ (ts:List Int),Ac (allU W) (.slice a0 len cap) 1 (Fc ts)->(∀ n∈ts,(Lit.int .i64 n).wf=true) ->
      (∀ W':World,(∀ g,g<W.heap.size->W'.heap[g]?=W.heap[g]?)->DataW.Trod enc Tryz.prog W' 0 (fun b=>decide (b<W.heap.size)) true 22 (.slice a0 len cap) d0 p) ->
      Calls Tryz.prog 4 #[.slice a0 len cap] W fun e W'=>∃ v,e=.returned v/\Rows.refreshLeverageSpec.post enc Tryz.prog Tryz.f4 false true false false W #[.slice a0 len cap] v W':=by
    intro ts hls hwf hread
    refine Calls.mono (walked (table hL) hls hwf) fun e W' ⟨he,ho,hpt,hbk⟩=>?_
    subst he
    refine⟨_,rfl,_,_,_,[],p,[],hW',?_,?_,rfl,kept ho hpt hbk _,fun h=>by cases h⟩
    · exact trodAll_mk1 (shut_bool underB true)
    · exact trodAll_mk1 (hread W' hbk)
  rcases open_ints underS underI cellsI hf with ⟨hcs,hx⟩|⟨a,len',cap',zs,hcs,hba,hl,hm,hz,hx,hcell,hwz⟩
  · simp[Value.cells]at hcs
    obtain⟨rfl,rfl,rfl⟩:=hcs
    simp only[Prod.mk.injEq]at hx
    obtain⟨rfl,rfl⟩:=hx
    exact fin [] (Ac.nil _ _ _ _) (fun n hn=>by simp at hn) (fun W' _=>shut_slice_nil underS)
  · simp[Value.cells]at hcs
    obtain⟨rfl,rfl,rfl⟩:=hcs
    simp only[Prod.mk.injEq]at hx
    obtain⟨rfl,rfl⟩:=hx
    simp only[if_true]at hz
    refine fin (zs.take len) ?_ (fun n hn=>hwz n (List.mem_of_mem_take hn)) (fun W' hbk=>?_)
    · refine⟨some a,cap,by rw[Cq,List.length_take];congr 1;omega,by rw[Cq,List.length_take];omega,fun j e hj=>?_⟩
      have hjl:j<len:=by
        rcases Nat.lt_or_ge j len with h'|h'
        · exact h'
        · rw[List.getElem?_eq_none (by rw[Cq,List.length_take];omega)]at hj;cases hj
      have hc0:=hcell 0 (by omega)
      obtain⟨b,off,spot⟩:=a
      have hspot:spot=none:=by simpa[Addr.add] using World.cell?_spot hc0
      subst hspot
      refine⟨b,off,rfl,fun i x hi=>?_⟩
      have hej:e=.int .i64 (zs.getD j 0):=by
        simp[Fc,List.getElem?_take,hjl]at hj
        obtain⟨z,hz1,rfl⟩:=hj
        simp[List.getD,hz1]
      subst hej
      match i,hi with
      |0,hi =>
        simp[Value.cells]at hi
        subst hi
        have hc:=hcell j (by omega)
        rw[Ed]at hc
        unfold World.cell? at hc
        simp only at hc
        split at hc
        · rename_i cs t fr hb
          exact⟨cs,t,fr,hb,by simpa using hc⟩
        · cases hc
    · have hab:a.block<W.heap.size\/zs.length=0:=by
        rcases Nat.eq_zero_or_pos zs.length with h'|h'
        · exact .inr h'
        · left
          obtain⟨b,off,spot⟩:=a
          exact hlt (.cell b off) (MemPlace.mem_row.2 ⟨0,h',by simp⟩)
      refine⟨2,?_⟩
      show DataW.trod enc Tryz.prog W' 0 (fun b=>decide (b<W.heap.size)) true (0+2) 22 [.slice (some a) len cap]=_
      refine shut_ints 0 underS underI cellsI (Nat.zero_le _) hl hm ?_ (fun i hi=>?_) hwz
      · split
        · exact hz
        · rename_i hnb
          rcases hab with h'|h'
          · simp[h']at hnb
          · omega
      · have hc:=hcell i hi
        unfold World.cell? at hc⊢
        rw[block_add]at hc⊢
        rw[hbk a.block (by rcases hab with h'|h';exact h';omega)]
        exact hc
noncomputable def laidWorld (os:Os):World :=
  let N:=(World.settled Tryz.prog os).heap.size
  let w0:=World.holding Tryz.prog os ⟨#[.cells #[.string ⟨#[118,97,108,117,101,32,111,117,116,32,111,102,32,114,97,110,103,101]⟩] 369,.cells #[.string ⟨#[105,110,118,97,108,105,100,32,115,121,110,116,97,120]⟩] 369],#[],[]⟩
  let put (h:Array Obj) (g:Nat) (cs:Array Value):Array Obj:=h.modify g fun
    |.cells _ t frozen=>.cells cs t frozen
    |o=>o
  let h0:=put (put w0.heap 3 #[.iface 367 (.pointer (some ⟨N,0,none⟩))]) 2 #[.iface 367 (.pointer (some ⟨N+1,0,none⟩))]
  let h1:=put h0 1 (Lib.pow10Tab.map fun z=>Value.int .u64 z).toArray
  let h2:=put h1 4 (([0,1,28,2,29,14,24,3,30,22,20,15,25,17,4,8,31,27,13,23,21,19,16,7,26,12,18,6,11,5,10,9]:List Int).map fun z=>Value.int .u8 z).toArray
  let h3:=put h2 5 (([0,1,56,2,57,49,28,3,61,58,42,50,38,29,17,4,62,47,59,36,45,43,51,22,53,39,33,30,24,18,12,5,63,55,48,27,60,41,37,16,46,35,44,21,52,32,23,11,54,26,40,15,34,20,31,10,25,14,19,9,13,8,7,6]:List Int).map fun z=>Value.int .u8 z).toArray
  { w0 with heap:=h3 }
theorem laid_met (os:Os):laidMet Tryz.prog Rows.refreshLeverageRow.laid ((laidWorld os).forCall (fun _ _=>0) ⟨#[],#[.slice none 0 0],[]⟩).memory :=
  laidMet_of_run' 8 (by kernel_rfl) (by kernel_rfl)
theorem reads (os:Os) {H:Type} (enc:TypeId×Value->H):∃ places,DataW.whole enc Tryz.prog ((laidWorld os).forCall (fun _ _=>0) ⟨#[],#[.slice none 0 0],[]⟩).memory Tryz.f4.params.toList Rows.refreshLeverageSpec.vars false #[Value.slice none 0 0].toList 8=some ([.nil],[],places) :=
  ⟨[],by kernel_rfl⟩
set_option maxRecDepth 100000 in
theorem lifted (os:Os) (started:os.Started) (H:Type) (enc:TypeId×Value->H) (F:Stop.Interp) :
    ReturnsInHanded {} Tryz.checked os 4 .any ((OpenSpec.ofChange Rows.refreshLeverageSpec).preRow enc Tryz.prog Tryz.f4 Rows.refreshLeverageRow.domain false Rows.refreshLeverageRow.laid) (((OpenSpec.ofChange Rows.refreshLeverageSpec).at F).post enc Tryz.prog Tryz.f4 false true false false):=by
  obtain⟨places,hx⟩:=reads os enc
  refine returnsInHanded_of_row (C:=Tryz.checked) (s:=OpenSpec.ofChange Rows.refreshLeverageSpec) own started (by kernel_rfl) Tryz.func4
    (witness_row_atRef (enc:=enc) (C:=Tryz.checked) false (laidWorld os) #[.slice none 0 0] rfl (by kernel_rfl) (by kernel_rfl) (by kernel_rfl)
      (OpenSpec.preRow_of_cond 8 hx (by kernel_rfl) (fun k hk=>by cases hk) (by kernel_rfl) (laid_met os))) ?_
  intro W base args ds gs before hval hW _ _ _ hL _ _
  exact contract H enc W base args ds gs before hval hW hL
theorem goes:false=Rows.refreshLeverageRow.goesBy Tryz.pinned.checked.prog:=by kernel_rfl
theorem said:Rows.RefreshLeverageSaid :=
  OpenClaim.holds_of_cond 4 Tryz.f4 rfl rfl rfl rfl rfl rfl rfl ⟨rfl,rfl,rfl,rfl,rfl⟩ rfl rfl rfl rfl rfl (by kernel_rfl) Tryz.func4 closed
    (of_decide_eq_true (by kernel_rfl)) (by unfold Func.isWrapper;first|(rw[if_pos (by decide +kernel)];kernel_rfl)|(rw[if_neg (by decide +kernel)];exact⟨rfl,rfl⟩))
    (fun os started H enc _ F=>by rw[OpenClaim.pre_eq_preRow];exact lifted os started H enc F)
theorem plain (f:FuncId) (fn:Func) (hf:Tryz.pinned.checked.prog.funcNamed "joinlearn/joinlearnlaw17.RefreshLeverage" = some f) (hfn:Tryz.pinned.checked.prog.funcs[f]?=some fn) :
    true=Tryz.pinned.checked.prog.looks []/\∀ (j:Nat) t,fn.params[j]?=some t->Tryz.pinned.checked.prog.wantsStandIn t=false:=by
  obtain rfl:f=4:=Option.some.inj ((show Tryz.prog.funcNamed "joinlearn/joinlearnlaw17.RefreshLeverage" = some 4 by kernel_rfl).symm.trans hf) |>.symm
  obtain rfl:fn=Tryz.f4:=(Option.some.inj (Tryz.func4.symm.trans hfn)).symm
  refine⟨by kernel_rfl,fun j t ht=>?_⟩
  rw[Tryz.params4]at ht
  obtain rfl:t=22:=by simpa using Array.mem_of_getElem? ht
  exact (show Tryz.prog.wantsStandIn 22=false by kernel_rfl)
theorem card:Rows.RefreshLeverageCardSaid :=
  Claim7.holds_tied_plain_at .later [] _ _ _ _ said (fun _ h=>by cases h) (by kernel_rfl) (fun _ h=>by cases h) refreshLeverage_row_tie rfl ⟨rfl,rfl⟩ (by kernel_rfl) rfl plain goes
#print axioms card
end Go.Proofs.YtemmheaocgmebaaGreatDoor.refreshleverage
