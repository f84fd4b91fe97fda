/-
  PROVED: for every list of ints, schema, list of texts, cofactor and list of parameters, 'joinlearnlaw12.EncodeExact' returns true and leaves its arguments as they were. Condition: the listed package-level variables hold what the program's text lays (the card ties them).
-/
import Derived.Test.YtnjlhkppabfebaaGreatDoorCards
import Derived.Test.YtnjlhkppabfebaaGreatDoorTie
import Derived.WalkKit
import Derived.ProofKit
import Derived.OpenShut
import Derived.Deep.DeepHandedRow
import Derived.Deep.DeepWitnessRowRef
import Derived.Lib.LaidTab
import Derived.Stop.LaidErr
import Derived.Test.YtnjlhkppabfebaaGreatDoorX13
set_option linter.defProp false
set_option linter.unusedVariables false
set_option linter.unusedSimpArgs false
set_option linter.unusedSectionVars false
set_option linter.unusedVariables false
namespace Go.Proofs.YtnjlhkppabfebaaGreatDoor.encodeexact
open Go.ChangeShapes Go.WideShapes Go.ChangeAt Go.RowKit
theorem own:ownKnob Tryz.prog.godebug=none:=by kernel_rfl
theorem gTab:Tryz.prog.globalNamed "internal/strconv.uint64pow10" = some 3:=by kernel_rfl
theorem gTabType:(Tryz.prog.globals[3]?).map (·.type)=some 311:=by kernel_rfl
theorem underA:Tryz.prog.underlying 311=some (.array 20 219):=by kernel_rfl
theorem underE:Tryz.prog.underlying 219=some (.int .u64):=by kernel_rfl
theorem cellsE:Tryz.prog.cellsOf 219=1:=by kernel_rfl
theorem cellsA:Tryz.prog.cellsOf 311=20:=by kernel_rfl
theorem underS:Tryz.prog.underlying 22=some (.slice 3):=by kernel_rfl
theorem underI:Tryz.prog.underlying 3=some (.int .i64):=by kernel_rfl
theorem underB:Tryz.prog.underlying 4=some .bool:=by kernel_rfl
theorem cellsI:Tryz.prog.cellsOf 3=1:=by kernel_rfl
theorem pow10_eq:(Rows.laid_internal_strconv_uint64pow10:DataW Unit)=Lib.tabData .u64 Lib.pow10Tab:=by kernel_rfl
theorem table {W:World} (h:laidMetH Tryz.prog Rows.encodeExactRow.laid W):Lib.TabIs Tryz.prog W "internal/strconv.uint64pow10" .u64 Lib.pow10Tab:=by
  have h':laidMet Tryz.prog Rows.encodeExactRow.laid W:=h
  have h2:=h'.tail.tail
  exact Lib.tabIs_of_head gTab gTabType underA underE cellsE cellsA (rest:=[("strconv.ErrRange",Rows.laid_strconv_ErrRange),("strconv.ErrSyntax",Rows.laid_strconv_ErrSyntax)]) (by rw[<-pow10_eq];exact h2)
theorem tabAll {W:World} (h:Lib.TabIs Tryz.prog W "internal/strconv.uint64pow10" .u64 Lib.pow10Tab):Hx (Bh4 W):=by
  intro w hp
  unfold Lib.TabIs at h⊢
  unfold World.var? at h⊢
  rw[gTab]at h⊢
  simp only[Option.bind_some]at h⊢
  cases hb:W.heap[3]? with
  |none=>rw[hb]at h;simp at h
  |some o=>rw[hp _ o hb];rw[hb]at h;exact h
theorem walked {W:World} {v xv ov cv pv:Value} {ts:List Int} {A:List Hv} {R:List H2} {F:List C9} {lab:Int} {os:List (List UInt8)} {c0:List UInt8} {S:List K3} {Q:List H3} {ps:List Par} (hL:Lib.TabIs Tryz.prog W "internal/strconv.uint64pow10" .u64 Lib.pow10Tab) (hv:Ac (Bh4 W) v 1 (Fc ts)) (hw:∀ z∈ts,-9223372036854775808<=z/\z<=9223372036854775807)
    (hX:R0 (Bh4 W) xv A R F lab) (hXm:Bsc (Bh4 W) A R) (hO:Ac (Bh4 W) ov 1 (os.map nmV)) (hC:Bim (Bh4 W) cv c0 S Q) (hCm:Bse c0 S Q) (hP:Ac (Bh4 W) pv 2 (ps.map Ap)) :
    Calls Tryz.prog 3 #[v,xv,ov,cv,pv] W fun e W'=>e=.returned (.bool true)/\W'.os=W.os/\W'.output=W.output/\∀ g,g<W.heap.size->W'.heap[g]?=W.heap[g]?:=by
  have h:=Bqw (tabAll hL) hv (fun n hn=>(hw n hn).1) (fun n hn=>(hw n hn).2) hX hXm hO hC hCm hP W (Bsr W)
  refine Calls.mono h fun e W' he=>?_
  obtain⟨r,u',m',e1,e2,e3,e4,e5⟩:=he
  subst e5
  exact⟨e1,e3.io.1,e3.io.2,fun g hg=>e3.old g hg rfl⟩
theorem params_ok:(Tryz.f3.params.toList.all fun t=>Tryz.prog.readableRec t&&decide (t<Tryz.prog.types.size))=true:=by kernel_rfl
theorem laidOut:laidOutB Tryz.prog=true:=by kernel_rfl
theorem underT:Tryz.prog.underlying 28=some (.slice 9):=by kernel_rfl
theorem underP:Tryz.prog.underlying 34=some (.slice 77):=by kernel_rfl
set_option maxRecDepth 100000 in
theorem contract (H:Type) (enc:TypeId×Value->H) (W:World) (base:Nat) (args:Array Value) (ds gs:List (DataW H)) (before:List MemPlace)
    (hval:∀ (j:Nat) t v,Tryz.f3.params[j]?=some t->args[j]?=some v->Value.okWide Tryz.prog W .any base t v)
    (hW:DataW.Whole enc Tryz.prog Tryz.f3.params.toList Rows.encodeExactSpec.vars false W args.toList ds gs before) (hL:laidMetH Tryz.prog Rows.encodeExactRow.laid W) :
    Calls Tryz.prog 3 args W fun e W'=>∃ v,e=.returned v/\Rows.encodeExactSpec.post enc Tryz.prog Tryz.f3 false true false false W args v W':=by
  have hW':=hW
  obtain⟨p,q,hA0,hV,rfl,hfz,hnd⟩:=hW
  obtain⟨rfl,rfl⟩:=trodVars_none hV
  simp only[List.append_nil]at hW'
  have hlt:∀ x∈p,x.block<W.heap.size:=fun x hx=>by simpa using hW'.lt x hx
  have hA:DataW.TrodAll enc Tryz.prog W 0 (fun _=>true) true Tryz.f3.params.toList args.toList ds p:=hA0
  have again:=fun (W':World) hb=>Bor (W':=W') laidOut hb params_ok hA0 hlt
  rw[Tryz.params3]at hA hval
  obtain⟨v0,vs0,d0,ds0,p0,q0,a0,rfl,_,h0,hA⟩:=trodAll_cons hA
  obtain⟨v1,vs1,d1,ds1,p1,q1,rfl,rfl,_,h1,hA⟩:=trodAll_cons hA
  obtain⟨v2,vs2,d2,ds2,p2,q2,rfl,rfl,_,h2,hA⟩:=trodAll_cons hA
  obtain⟨v3,vs3,d3,ds3,p3,q3,rfl,rfl,_,h3,hA⟩:=trodAll_cons hA
  obtain⟨v4,vs4,d4,ds4,p4,q4,rfl,rfl,_,h4,hA⟩:=trodAll_cons hA
  obtain⟨rfl,rfl,_⟩:=trodAll_nil hA
  obtain rfl:args = #[v0,v1,v2,v3,v4]:=by cases args;simp_all
  obtain⟨s0,n0,k0,rfl⟩:=okWide_slice underS (hval 0 22 v0 rfl rfl)
  obtain⟨s2,n2,k2,rfl⟩:=okWide_slice underT (hval 2 28 v2 rfl rfl)
  obtain⟨s4,n4,k4,rfl⟩:=okWide_slice underP (hval 4 34 v4 rfl rfl)
  obtain⟨f0,h0⟩:=h0
  obtain⟨f1,h1⟩:=h1
  obtain⟨f2,h2⟩:=h2
  obtain⟨f3,h3⟩:=h3
  obtain⟨f4,h4⟩:=h4
  obtain⟨ts,b0,c0,e0,hts,hz,_⟩:=Brb h0
  obtain⟨os,b2,c2,e2,hos,_,_⟩:=Bsp h2
  obtain⟨ps,b4,c4,e4,hps,_,_⟩:=Bsq h4
  obtain⟨A,R,F,lab,l1,hX,hXm⟩:=Bsu h1
  obtain⟨c,S,Q,l3,hC,hCm⟩:=Bst h3
  rw[<-Bsv rfl l1]at hX
  rw[<-Bsv rfl l3]at hC
  have e0':Value.slice s0 n0 k0=.slice b0 ts.length c0:=by simpa[Value.cells] using e0
  have e2':Value.slice s2 n2 k2=.slice b2 os.length c2:=by simpa[Value.cells] using e2
  have e4':Value.slice s4 n4 k4=.slice b4 ps.length c4:=by simpa[Value.cells] using e4
  rw[<-e0']at hts
  rw[<-e2']at hos
  rw[<-e4']at hps
  refine Calls.mono (walked (table hL) hts hz hX hXm hos hC hCm hps) fun e W' ⟨he,ho,hpt,hbk⟩=>?_
  subst he
  refine⟨_,rfl,_,_,_,[],p,[],hW',?_,?_,rfl,Bso ho hpt hbk _,fun h=>by cases h⟩
  · exact trodAll_mk1 (shut_bool underB true)
  · exact again W' hbk
noncomputable def laidWorld (os:Os):World :=
  let N:=(World.settled Tryz.prog os).heap.size
  let w0:=World.holding Tryz.prog os ⟨#[.cells #[.string ⟨#[118,97,108,117,101,32,111,117,116,32,111,102,32,114,97,110,103,101]⟩] 318,.cells #[.string ⟨#[105,110,118,97,108,105,100,32,115,121,110,116,97,120]⟩] 318],#[],[]⟩
  let put (h:Array Obj) (g:Nat) (cs:Array Value):Array Obj:=h.modify g fun
    |.cells _ t frozen=>.cells cs t frozen
    |o=>o
  let h0:=put (put w0.heap 2 #[.iface 316 (.pointer (some ⟨N,0,none⟩))]) 1 #[.iface 316 (.pointer (some ⟨N+1,0,none⟩))]
  let h1:=put h0 3 (Lib.pow10Tab.map fun z=>Value.int .u64 z).toArray
  let h2:=put h1 4 (([0,1,28,2,29,14,24,3,30,22,20,15,25,17,4,8,31,27,13,23,21,19,16,7,26,12,18,6,11,5,10,9]:List Int).map fun z=>Value.int .u8 z).toArray
  let h3:=put h2 5 (([0,1,56,2,57,49,28,3,61,58,42,50,38,29,17,4,62,47,59,36,45,43,51,22,53,39,33,30,24,18,12,5,63,55,48,27,60,41,37,16,46,35,44,21,52,32,23,11,54,26,40,15,34,20,31,10,25,14,19,9,13,8,7,6]:List Int).map fun z=>Value.int .u8 z).toArray
  { w0 with heap:=h3 }
theorem laid_met (os:Os):laidMet Tryz.prog Rows.encodeExactRow.laid ((laidWorld os).forCall (fun _ _=>0) ⟨#[],#[.slice none 0 0,.agg #[.slice none 0 0,.slice none 0 0,.slice none 0 0,.int .i64 0],.slice none 0 0,.agg #[.string ⟨#[]⟩,.slice none 0 0,.slice none 0 0],.slice none 0 0],[]⟩).memory :=
  laidMet_of_run' 8 (by kernel_rfl) (by kernel_rfl)
theorem reads (os:Os) {H:Type} (enc:TypeId×Value->H):∃ places,DataW.whole enc Tryz.prog ((laidWorld os).forCall (fun _ _=>0) ⟨#[],#[.slice none 0 0,.agg #[.slice none 0 0,.slice none 0 0,.slice none 0 0,.int .i64 0],.slice none 0 0,.agg #[.string ⟨#[]⟩,.slice none 0 0,.slice none 0 0],.slice none 0 0],[]⟩).memory Tryz.f3.params.toList Rows.encodeExactSpec.vars false #[Value.slice none 0 0,.agg #[.slice none 0 0,.slice none 0 0,.slice none 0 0,.int .i64 0],.slice none 0 0,.agg #[.string ⟨#[]⟩,.slice none 0 0,.slice none 0 0],.slice none 0 0].toList 8=some ([.nil,.agg [.nil,.nil,.nil,.lit (.int .i64 0)],.nil,.agg [.lit (.string []),.nil,.nil],.nil],[],places) :=
  ⟨[],by kernel_rfl⟩
set_option maxRecDepth 100000 in
theorem lifted (os:Os) (started:os.Started) (H:Type) (enc:TypeId×Value->H) (F:Stop.Interp) :
    ReturnsInHanded {} Tryz.checked os 3 .any ((OpenSpec.ofChange Rows.encodeExactSpec).preRow enc Tryz.prog Tryz.f3 Rows.encodeExactRow.domain false Rows.encodeExactRow.laid) (((OpenSpec.ofChange Rows.encodeExactSpec).at F).post enc Tryz.prog Tryz.f3 false true false false):=by
  obtain⟨places,hx⟩:=reads os enc
  refine returnsInHanded_of_row (C:=Tryz.checked) (s:=OpenSpec.ofChange Rows.encodeExactSpec) own started (by kernel_rfl) Tryz.func3
    (witness_row_atRef (enc:=enc) (C:=Tryz.checked) false (laidWorld os) #[.slice none 0 0,.agg #[.slice none 0 0,.slice none 0 0,.slice none 0 0,.int .i64 0],.slice none 0 0,.agg #[.string ⟨#[]⟩,.slice none 0 0,.slice none 0 0],.slice none 0 0] rfl (by kernel_rfl) (by kernel_rfl) (by kernel_rfl)
      (OpenSpec.preRow_of_cond 8 hx (by kernel_rfl) (fun k hk=>by cases hk) (by kernel_rfl) (laid_met os))) ?_
  intro W base args ds gs before hval hW _ _ _ hL _ _
  exact contract H enc W base args ds gs before hval hW hL
theorem j0:(Rows.encodeExactRow.wf (OpenSpec.ofChange (OpenSpec.ofChange Rows.encodeExactSpec).bare)&&laidOutB Tryz.pinned.checked.prog&&mapsRowed Tryz.pinned.checked.prog&&Tryz.f3.params.all (Tryz.pinned.checked.prog.readableRec ·)&&namedTie Tryz.pinned.checked.prog Rows.encodeExactRow.named (OpenSpec.ofChange Rows.encodeExactSpec).bare.vars&&(Rows.encodeExactRow.stops == [])&&(Tryz.pinned.checked.prog.stops == [])&&(Rows.encodeExactRow.knobs == [])&&(Tryz.pinned.checked.prog.stopKnobs == []))=true:=by kernel_rfl
theorem j1:(Rows.encodeExactRow.inPlace==Tryz.pinned.checked.prog.inPlace 3)=true:=by kernel_rfl
theorem j2:(Rows.encodeExactRow.unfollowed==Tryz.pinned.checked.prog.unfollowed 3)=true:=by kernel_rfl
theorem j3:(Rows.encodeExactRow.recurses==Tryz.pinned.checked.prog.recurses 3)=true:=by kernel_rfl
theorem j4:(Rows.encodeExactRow.named==Tryz.pinned.checked.prog.varsNamed 3)=true:=by kernel_rfl
theorem j5:Tryz.pinned.checked.prog.mayEnter=true:=by kernel_rfl
theorem closed:joinedFacts Tryz.pinned.checked.prog 3 Tryz.f3 (OpenSpec.ofChange Rows.encodeExactSpec).bare Rows.encodeExactRow=true:=by
  unfold joinedFacts
  rw[j0,j1,j2,j3,j4,j5]
  kernel_rfl
theorem said:Rows.EncodeExactSaid :=
  OpenClaim.holds_of_cond 3 Tryz.f3 rfl rfl rfl rfl rfl rfl rfl ⟨rfl,rfl,rfl,rfl,rfl⟩ rfl rfl rfl rfl rfl (by kernel_rfl) Tryz.func3 closed
    (of_decide_eq_true (by kernel_rfl)) (by unfold Func.isWrapper;first|(rw[if_pos (by decide +kernel)];kernel_rfl)|(rw[if_neg (by decide +kernel)];exact⟨rfl,rfl⟩))
    (fun os started H enc _ F=>by rw[OpenClaim.pre_eq_preRow];exact lifted os started H enc F)
theorem plain (f:FuncId) (fn:Func) (hf:Tryz.pinned.checked.prog.funcNamed "joinlearn/joinlearnlaw12.EncodeExact" = some f) (hfn:Tryz.pinned.checked.prog.funcs[f]?=some fn) :
    true=Tryz.pinned.checked.prog.looks []/\∀ (j:Nat) t,fn.params[j]?=some t->Tryz.pinned.checked.prog.wantsStandIn t=false:=by
  obtain rfl:f=3:=Option.some.inj ((show Tryz.prog.funcNamed "joinlearn/joinlearnlaw12.EncodeExact" = some 3 by kernel_rfl).symm.trans hf) |>.symm
  obtain rfl:fn=Tryz.f3:=(Option.some.inj (Tryz.func3.symm.trans hfn)).symm
  refine⟨by kernel_rfl,fun j t ht=>?_⟩
  have h:(Tryz.f3.params.toList.all fun t=>!Tryz.prog.wantsStandIn t)=true:=by kernel_rfl
  have:=List.all_eq_true.1 h t (Array.mem_of_getElem? ht).val
  have ht':Tryz.prog.wantsStandIn t=true->False:=fun e=>by rw[e]at this;cases this
  exact Bool.eq_false_iff.2 ht'
theorem card:Rows.EncodeExactCardSaid :=
  Claim7.holds_tied_plain_at .later [] _ _ _ _ said (fun _ h=>by cases h) (by kernel_rfl) (fun _ h=>by cases h) encodeExact_row_tie rfl ⟨rfl,rfl⟩ (by kernel_rfl) rfl plain (by kernel_rfl)
#print axioms card
end Go.Proofs.YtnjlhkppabfebaaGreatDoor.encodeexact
