/- Parts of one proof, joined by a program. -/
import Derived.Test.YtemmheaocgmebaaGreatDoorW06
import Derived.Shelf.SlSortCmp.WholeK
import Derived.Ground.SlsfProg
import Derived.Test.YtemmheaocgmebaaGreatDoorProg
import Derived.Shelf.SlSortCmp.NoneTotal
set_option linter.defProp false
set_option linter.unusedVariables false
set_option linter.unusedSimpArgs false
set_option linter.unusedSectionVars false
set_option maxHeartbeats 16000000
namespace Go.Proofs.YtemmheaocgmebaaGreatDoor
open Go.Proofs.Tryz
open Go.RowKit Go.MapKept
def Baq:=@Array.ext_getElem?
def A3n:=@List.pairwise_iff_getElem
def A9e:=@List.getElem_inj
def A52:=@List.findIdx?_eq_some_iff_getElem
def A2y:=@List.getElem_of_mem
def A7w:=@List.getElem_take
def A3v:=@List.getElem_map
def A8z:=@List.map_replicate
def A11:=@List.not_mem_nil
def A5w:=@List.foldl_append
def A91:=@List.getElem?_mapIdx
def A6p:=@List.any_eq_false
def Bas:=@Classical.em
end Go.Proofs.YtemmheaocgmebaaGreatDoor
section
namespace Go.Proofs
open Go.Shelf
def Tryz.sortPar_ren:Go.Shelf.Ren:=⟨fun|6=>267|15=>303|14=>302|28=>331|29=>316|20=>323|21=>324|22=>325|23=>326|24=>327|25=>328|26=>329|27=>330|46=>340|47=>341|48=>342|49=>343|50=>344|57=>346|n=>n,fun|22=>43|24=>118|25=>252|3=>3|39=>288|0=>0|53=>314|55=>246|4=>4|46=>350|45=>349|50=>237|5=>5|9=>9|66=>362|70=>365|76=>372|77=>373|n=>n,fun|n=>n⟩
theorem Tryz.sortPar:Go.Proofs.SlLaysF0.n6 Tryz.prog Tryz.sortPar_ren:={
 mixed:=by kernel_rfl
 f6:=⟨Tryz.f267.name,by decide,Tryz.func267.trans (congrArg some (by kernel_rfl))⟩
 f14:=⟨Tryz.f302.name,by decide,Tryz.func302.trans (congrArg some (by kernel_rfl))⟩
 f15:=Tryz.func303.trans (congrArg some (by kernel_rfl))
 f20:=⟨Tryz.f323.name,by decide,Tryz.func323.trans (congrArg some (by kernel_rfl))⟩
 f21:=⟨Tryz.f324.name,by decide,Tryz.func324.trans (congrArg some (by kernel_rfl))⟩
 f22:=⟨Tryz.f325.name,by decide,Tryz.func325.trans (congrArg some (by kernel_rfl))⟩
 f23:=⟨Tryz.f326.name,by decide,Tryz.func326.trans (congrArg some (by kernel_rfl))⟩
 f24:=⟨Tryz.f327.name,by decide,Tryz.func327.trans (congrArg some (by kernel_rfl))⟩
 f25:=⟨Tryz.f328.name,by decide,Tryz.func328.trans (congrArg some (by kernel_rfl))⟩
 f26:=⟨Tryz.f329.name,by decide,Tryz.func329.trans (congrArg some (by kernel_rfl))⟩
 f27:=⟨Tryz.f330.name,by decide,Tryz.func330.trans (congrArg some (by kernel_rfl))⟩
 f28:=Tryz.func331.trans (congrArg some (by kernel_rfl))
 f29:=Tryz.func316.trans (congrArg some (by kernel_rfl))
 f46:=⟨Tryz.f340.name,by decide,Tryz.func340.trans (congrArg some (by kernel_rfl))⟩
 f47:=Tryz.func341.trans (congrArg some (by kernel_rfl))
 f48:=Tryz.func342.trans (congrArg some (by kernel_rfl))
 f49:=⟨Tryz.f343.name,by decide,Tryz.func343.trans (congrArg some (by kernel_rfl))⟩
 f50:=⟨Tryz.f344.name,by decide,Tryz.func344.trans (congrArg some (by kernel_rfl))⟩
 f57:=⟨Tryz.f346.name,by decide,Tryz.func346.trans (congrArg some (by kernel_rfl))⟩
 t0:=Tryz.underlying0
 a0:=Tryz.isAgg0
 z0:=Tryz.sizeOf0
 v0:=Tryz.zeroValue0
 t3:=Tryz.underlying3
 a3:=Tryz.isAgg3
 z3:=Tryz.sizeOf3
 v3:=Tryz.zeroValue3
 t4:=Tryz.underlying4
 a4:=Tryz.isAgg4
 z4:=Tryz.sizeOf4
 v4:=Tryz.zeroValue4
 t5:=Tryz.underlying5
 a5:=Tryz.isAgg5
 z5:=Tryz.sizeOf5
 v5:=Tryz.zeroValue5
 t9:=Tryz.underlying9
 a9:=Tryz.isAgg9
 z9:=Tryz.sizeOf9
 v9:=Tryz.zeroValue9
 t22:=Tryz.underlying43
 a22:=Tryz.isAgg43
 z22:=Tryz.sizeOf43
 v22:=Tryz.zeroValue43
 t25:=Tryz.underlying252
 a25:=Tryz.isAgg252
 z25:=Tryz.sizeOf252
 v25:=Tryz.zeroValue252
 t39:=Tryz.underlying288
 a39:=Tryz.isAgg288
 z39:=Tryz.sizeOf288
 v39:=Tryz.zeroValue288
 t45:=Tryz.underlying349
 a45:=Tryz.isAgg349
 z45:=Tryz.sizeOf349
 v45:=Tryz.zeroValue349
 t46:=Tryz.underlying350
 a46:=Tryz.isAgg350
 z46:=Tryz.sizeOf350
 v46:=Tryz.zeroValue350
 t50:=Tryz.underlying237
 a50:=Tryz.isAgg237
 z50:=Tryz.sizeOf237
 v50:=Tryz.zeroValue237
 t53:=Tryz.underlying314
 a53:=Tryz.isAgg314
 z53:=Tryz.sizeOf314
 v53:=Tryz.zeroValue314
 t55:=Tryz.underlying246
 a55:=Tryz.isAgg246
 z55:=Tryz.sizeOf246
 v55:=Tryz.zeroValue246
 t66:=Tryz.underlying362
 a66:=Tryz.isAgg362
 z66:=Tryz.sizeOf362
 v66:=Tryz.zeroValue362
 t70:=Tryz.underlying365
 a70:=Tryz.isAgg365
 z70:=Tryz.sizeOf365
 v70:=Tryz.zeroValue365
 t76:=Tryz.underlying372
 a76:=Tryz.isAgg372
 z76:=Tryz.sizeOf372
 v76:=Tryz.zeroValue372
 t77:=Tryz.underlying373
 a77:=Tryz.isAgg373
 z77:=Tryz.sizeOf373
 v77:=Tryz.zeroValue373 }
end Go.Proofs
end
namespace Go.Proofs.YtemmheaocgmebaaGreatDoor
open Go.Proofs.Tryz
open Go.RowKit Go.MapKept
section
open Go.RowKit Go.Sort
def Azd (w:World):PH:=fun g=>w.heap[g]?
def A0a (w:World):Bv (Azd w) PH.mt w:=⟨fun _ _ h=>h,Fj.mt w,fun _=>.inr rfl,fun _ _ _ _ _ _ h _=>h⟩
@[reducible] def Cl.yes:Cl:=⟨True⟩
def Agm [Fl:Cl](hF:Fl.on){w w':World}{R:PH}(h:B0 (Azd w) PH.mt w R PH.mt w'):∃ n C,w'=grow (w.drewN n) C:=by
 have z:=h.dr hF;refine⟨w'.drawn-w.drawn,w'.heap.extract w.heap.size w'.heap.size,?_⟩;obtain⟨hp,U,T,C,P⟩:=w;obtain⟨e,Q,F,L,E⟩:=w';have j:=z.tape;have H:=z.dr;have m:=h.io.1;have t:=h.io.2;have I:=h.sz;have u:=fun g J=>h.old g J rfl;simp only at j H m t I u;subst j m t;unfold grow World.drewN;simp only[World.mk.injEq,and_true,true_and];refine⟨?_,oV⟩;apply Baq;intro i;by_cases hi:i<hp.size
 ·rw[A5s hi];exact u i hi
 rw[Array.getElem?_append_right oV,Array.getElem?_extract];by_cases K:i<e.size
 ·rw[if_pos oV];congr 1;omega
 rw[if_neg oV,A43 oV]
def Fn0.exact [Fl:Cl](hF:Fl.on){P:Program}{f:FuncId}{args:zV}{r:Value}(h:∀ u,Fn0 P f args u (fun v _=>v=r))(w:World):Calls P f args.toArray w fun e w'=>e=.returned r/\∃ n E,w'=grow (w.drewN n) E:=by
 refine Calls.mono (h (Azd w) w (A0a w)) fun e w' C=>?_;obtain⟨v,H,F,j,_,m,t,z⟩:=C;subst t z;exact⟨j,Agm hF m⟩
def Ai5 (e off size:Nat)(w:World):Go.Proofs.CmpLays prog 200 #[] (fun p:Par=>[zI p.1,zS p.2]) 2 Bk e off size w :=
 fun m j h _ x y=>@Fn0.exact Cl.yes trivial _ _ _ _ (fun u=>@Afb Cl.yes u x y) _
end
section
open Go.RowKit Go.Sort
section
variable {κ:Type} {c:κ->κ->Int}
def Ord.swo (h:Ord c):SWO (ltOf c) where
 irrefl x:=by simp[ltOf,h.irr x]
 trans x y z h1 h2:=by
  simp only[ltOf,decide_eq_true_eq]at *
  exact h.trans x y z h1 h2
 ntrans x y z h1 h2:=by
  simp only[ltOf,decide_eq_false_iff_not]at *
  intro j;rcases A4q (c x y) 0 with e|e|e
  ·exact h1 e
  ·rw[h.eq x y e]at j;exact h2 j
  exact h2 (h.trans y x z ((h.sym y x).2 e) j)
def Ord.tot (h:Ord c)(x y:κ)(j:ltOf c x y=false)(m:ltOf c y x=false):x=y:=by
 simp only[ltOf,decide_eq_false_iff_not]at *
 rcases A4q (c x y) 0 with e|e|e
 ·exact absurd e j
 ·exact h.eq x y e
 exact absurd ((h.sym y x).2 e) m
def E6 (c:κ->κ->Int)(l:List κ):List κ:=l.mergeSort fun x y=>!(ltOf c) y x
def Ir (l:List κ):(E6 c l).Perm l:=List.mergeSort_perm _ _
def Va (h:Ord c){l:List κ}(t:l.Nodup):Hb c (E6 c l):=by
 have j:(E6 c l).Pairwise fun a b=>(!(ltOf c) b a)=true:=by
  refine List.pairwise_mergeSort (fun a b d j m=>?_) (fun a b=>?_) l
  ·simp only[A3w]at j m⊢;exact h.swo.ntrans d b a m j
  simp only[A4b,A3w];cases e:ltOf c b a with
  |false=>exact .inl rfl
  |true =>
   right;simp only[ltOf,decide_eq_true_eq,decide_eq_false_iff_not]at *
   have:=(h.sym b a).1 e;omega
 have m:(E6 c l).Nodup:=(Ir l).nodup_iff.2 t;refine (j.and m).imp fun {a b} ⟨e1,e2⟩=>?_;simp only[A3w,ltOf,decide_eq_false_iff_not]at e1;rcases A4q (c a b) 0 with e|e|e
 ·exact e
 ·exact absurd (h.eq a b e) e2
 exact absurd ((h.sym b a).2 e) e1
end
section
variable {κ:Type} [Inhabited κ] {enc:κ->zV} {k:Nat}
def Qb (e:∀ x,(enc x).length=k):∀ (ss:List κ) (t:Nat),t<ss.length*k->(ss.flatMap enc)[t]?=some ((enc ss.toArray[t/k]!)[t%k]!)
 |[],t,h=>by simp at h
 |x::ss,t,h=>by
  have m:0<k:=by
   rcases A2a k with h0|h0
   ·rw[h0]at h;simp at h
   exact h0
  rw[A6o];by_cases j:t<k
  ·rw[A1r (by rw[e];exact j),A49 j,A5i j];have:t<(enc x).length:=by rw[e];exact j
   simp[getElem!_pos,this]
  rw[A18 (by rw[e];omega),e,Qb e ss (t-k) (by simp only[A3f,A16]at h;omega)];have u:t/k=(t-k)/k+1:=by rw[Nat.div_eq_sub_div m oV]
  have z:t%k=(t-k)%k:=Nat.mod_eq_sub_mod oV;rw[u,z];simp
def Ani (F:∀ x,(enc x).length=k){W:World}{C:Nat}{e:TypeId}{h:Array Value}{ss:List κ}(m:W.heap[C]?=some (.cells h e (0,0)))(j:h.toList.take (ss.length*k)=ss.flatMap enc):HoldsK enc k W C 0 ss.toArray:=by
 intro t z;rw[size_flatK]at z;have u:t<ss.length*k:=by simpa using z
 have E:h[t]?=some ((flatK enc k ss.toArray)[t]!):=by
  rw[get_flatK enc k _ t z,<-Qb F ss t u,<-j,A3y,if_pos u,A6u]
 constructor
 ·simp[World.cell?,m,E]
 simp[World.frozen?,m]
end
end
section
open Go.RowKit Go.MapKept Go.Shelf Go.Sort
def Nf (x:Par):(Ci x).length=2:=rfl
def Ip (P:Program)(st:List KI×S):List KI×S:=match one P (Ff P 200 st).1 (Ff P 200 st).2 with|some st'=>st'|none=>st
section
variable {P:Program} [A6 P] {fn:Func} {Post:Ce} {st:List KI×S} {u m:PH}
def G.pastI (h:G P fn Post (Ip P st) u m):G P fn Post st u m:=by
 unfold Ip at h;split at h
 ·rename_i st' he;exact⟨Mq 200 st (Pa A6.mx he h.out)⟩
 exact h
def Fn0.weak {f:FuncId}{args:zV}{R t:Value->PH->Prop}(h:Fn0 P f args u R)(J:∀ v j,R v j->t v j):Fn0 P f args u t:=fun w I=>Calls.mono (h w I) fun e w' ⟨v,j,K,z,C,E,F,H⟩=>⟨v,j,K,z,C,E,F,J _ _ H⟩
end
end
section
open Go.RowKit Go.MapKept Go.Shelf Go.Sort
end
def Af.le {m0 m:PH}{v:Value}{t:TypeId}{sz:Nat}{es:zV}(h:Af m0 m v t sz es):PH.le m0 m:=by
 rcases h.2 with ⟨_,_,rfl⟩|⟨g,cap,rest,e,rfl,_⟩
 ·exact PH.le_refl _
 exact Jw _ e
def Afk (p:Par×Rat):A9 3 [Bt p]:=fun e h=>by
 simp at h;subst h;exact⟨rfl,fun y j=>by simp[Bt,Value.cells]at j;rcases j with rfl|rfl|rfl<;>rfl⟩
def Aj6 (p:(Par×Par)×Rat):A9 5 [D8 p]:=fun e h=>by
 simp at h;subst h;exact⟨rfl,fun y j=>by simp[D8,Value.cells]at j;rcases j with rfl|rfl|rfl|rfl|rfl<;>rfl⟩
section
variable {i:Nat}{q:Rat}{s:zB}{u:PH}{x:Par×Rat}
def Sf (h:q≠0):Ae q≠[48]:=by
 intro e;unfold Ae at e;split at e
 ·have:=Im (e.trans E5.symm);exact h (A4r.1 this)
 have:(47:UInt8)∈Lib.itoa q.num++47::Lib.itoa (q.den:Int):=mV;rw[e]at this;simp at this
def Re (p q:Par)(r:Bool)(h:decide (Bk p q<0)=r):Fn0 prog 127 [Ap p,Ap q] u fun v _=>v=.bool r:=by
 refine Fn0.o func127<|G.c call200 (Afb p q) ?_;rintro m j e rfl;cases r with
 |true =>
  exact G.lT' (Bk p q) 0 (of_decide_eq_true h)<|G.r zT ⟨rfl,rfl⟩
 |false =>
  exact G.lF' (Bk p q) 0 (of_decide_eq_false h)<|G.r zL ⟨rfl,rfl⟩
def Aoz (h:Tx q)(h0:q≠0):Fn0 prog 294 [zS (Ae q)] u fun v _=>v=zT:=by
 refine Fn0.o func294<|G.c call169 (Gu h) ?_;rintro m j e rfl;exact G.x (Ae q) [48] (Sf h0)<|G.r zT ⟨rfl,rfl⟩
theorem Aa2 (h:Hn s=true):1<=s.length/\s.length<=12:=by
 unfold Hn at h;split at h
 ·cases h
 grind
theorem Y3 (h:Hn s=true){c:UInt8}(hi:s[i]?=some c):(97<=c.toNat/\c.toNat<=122)\/(i≠0/\(c.toNat=45\/(48<=c.toNat/\c.toNat<=57))):=by
 unfold Hn at h;split at h
 ·cases h
 simp only[Aym]at h
 match i,hi with
 |0,hi=>grind
 |i+1,hi=>grind
theorem Asw (h:Hn s=true):Fn0 prog 218 [zS s] u fun v _=>v=zT:=by
 obtain⟨H,I⟩:=Aa2 h;refine Fn0.o func218<|G.convSB (some .string) 5 s kV kV kV ?_;intro W U Q C;obtain⟨a,c,rfl⟩:=Ac.opn C;rw[Au]at C⊢;refine G.l (ι:=Nat) (fun i=>[(0,tV s),(7,sV a s.length c),(8,iV s.length),(9,iV i)]) (fun _=>[])
  (fun i T P=>i<=s.length/\P=PH.mt) (fun i=>s.length-i) 0 ⟨oV,rfl⟩ ?_
 rintro J i z V R l2 ⟨hi,rfl⟩;by_cases m:i<s.length
 ·refine G.lT i s.length ?_;have t:s[i]?=some s[i]:=A01 m;obtain⟨b,off,rfl,e⟩:=Ac.at' (C.mono l2) (j:=i) (e:=.int .u8 (s[i].toNat:Int)) (by simp[Bm,t]);have L:=Y3 h t;generalize s[i].toNat=n at e L;refine G.N s.length c m e ?_;by_cases K:97<=n/\n<=122
  ·exact G.cmpG .geq .u8 (n:Int) 97 true kV rfl (by simp[Db];omega)<|G.cmpG .leq .u8 (n:Int) 122 true kV rfl (by simp[Db];omega)<|G.i i<|G.b (z (i+1) _ _ _ cV l2 ⟨oV,rfl⟩ oV)
  by_cases F:97<=n
  ·grind
  refine G.cmpG .geq .u8 (n:Int) 97 false kV rfl (by simp[Db];omega)<|G.eF i 0 ?_;by_cases E:n=45
  ·exact G.cmpG .neq .u8 (n:Int) 45 false kV rfl (by simp[Db];omega)<|G.i i<|G.b (z (i+1) _ _ _ cV l2 ⟨oV,rfl⟩ oV)
  exact G.cmpG .neq .u8 (n:Int) 45 true kV rfl (by simp[Db];omega)<|G.cmpG .lss .u8 (n:Int) 48 false kV rfl (by simp[Db];omega)<|G.cmpG .gtr .u8 (n:Int) 57 false kV rfl (by simp[Db];omega)<|G.i i<|G.b (z (i+1) _ _ _ cV l2 ⟨oV,rfl⟩ oV)
 obtain rfl:i=s.length:=oV;exact G.lF s.length s.length<|G.hT s.length 1<|G.kT s.length 12<|G.r zT ⟨rfl,rfl⟩
def Ahn {p:Par}(h:PV p):Fn0 prog 293 [Ap p] u fun v _=>v=zT:=by
 refine Fn0.o func293<|G.hT' p.1 (-1) (by have:=h.lo;omega) ?_;by_cases e:p.2 = []
 ·exact G.q p.2 [] e<|G.r zT ⟨rfl,rfl⟩
 refine G.w p.2 [] e<|G.c call218 (Asw (h.cat.resolve_left e)) ?_;rintro t m j rfl;exact G.r zT ⟨rfl,rfl⟩
def A0m (h:PV x.1)(e:Tx x.2)(h0:x.2≠0):Fn0 prog 292 [Bt x] u fun v _=>v=zL:=by
 refine Fn0.o func292<|G.c call293 (Ahn h) ?_;rintro z m j rfl;refine G.c call294 (Aoz e h0) ?_;rintro C t l2 rfl;exact G.r zL ⟨rfl,rfl⟩
def A0u {x:(Par×Par)×Rat}(h:PV x.1.1)(j:PV x.1.2)(m:¬ 0<Bk x.1.1 x.1.2)(t:Tx x.2)(h0:x.2≠0):Fn0 prog 296 [D8 x] u fun v _=>v=zL:=by
 refine Fn0.o func296<|G.c call293 (Ahn h) ?_;rintro K F z rfl;refine G.c call293 (Ahn j) ?_;rintro L H l2 rfl;refine G.c call127 (Re x.1.2 x.1.1 false (decide_eq_false fun e=>m ((Et.sym _ _).1 e))) ?_;rintro P I C rfl;refine G.c call294 (Aoz t h0) ?_;rintro Q J E rfl;exact G.r zL ⟨rfl,rfl⟩
def Ayf {x y:Par×Rat}(h:Bk x.1 y.1<0):Fn0 prog 298 [Bt x,Bt y] u fun v _=>v=zT:=by
 refine Fn0.o func298<|G.c call127 (Re x.1 y.1 true (decide_eq_true h)) ?_;rintro m j e rfl;exact G.r zT ⟨rfl,rfl⟩
def Ax6 {x y:(Par×Par)×Rat}(h:Oc x.1 y.1<0):Fn0 prog 300 [D8 x,D8 y] u fun v _=>v=zT:=by
 refine Fn0.o func300 ?_;by_cases j:Bk x.1.1 y.1.1<0
 ·refine G.c call127 (Re x.1.1 y.1.1 true (decide_eq_true j)) ?_;rintro E C z rfl;exact G.r zT ⟨rfl,rfl⟩
 have m:Bk x.1.1 y.1.1=0/\Bk x.1.2 y.1.2<0:=by
  unfold Oc at h;split at h
  ·exact absurd h j
  rename_i e;exact⟨by simpa using e,h⟩
 have t:=Et.eq _ _ m.1;refine G.c call127 (Re x.1.1 y.1.1 false (decide_eq_false j)) ?_;rintro E C z rfl;refine G.eqAgg 118 #[zI x.1.1.1,zS x.1.1.2] #[zI y.1.1.1,zS y.1.1.2] true kV kV kV (fun w=>by rw[<-decide_eq_true t];exact Bq.eq x.1.1 y.1.1 w)<|G.c call127 (Re x.1.2 y.1.2 true (decide_eq_true m.2)) ?_;rintro H F l2 rfl;exact G.r zT ⟨rfl,rfl⟩
theorem Atj {u:PH}{v:Value}{T:List (Par×Rat)}{fid:Nat}(h:Ac u v 3 (T.map Bt))(hl:T.length<=1000000)
 (hcall:∀ args w,(callFunc fid args).run prog w=.ok (.enter fid args) w) (hf:∀ p∈T,∀ u',PH.le u u'->Fn0 prog fid [Bt p] u' fun v _=>v=zL) :
 Fn0 prog 301 [v,.func (.func fid) #[] #[]] u fun v' _=>v'=zI (-1):=by
 obtain⟨a,c,rfl⟩:=h.opn;rw[A03]at h⊢;refine Fn0.o func301 ?_;refine G.l (ι:=Nat) (fun i=>[(0,sV a T.length c),(1,.v (.func (.func fid) #[] #[])),(7,iV T.length),(8,iV i)]) (fun _=>[])
  (fun i u' m'=>i<=T.length/\m'=PH.mt) (fun i=>T.length-i) 0 ⟨oV,rfl⟩ ?_
 rintro J i hJ u1 m1 l1 ⟨hi,rfl⟩;by_cases hlt:i<T.length
 ·refine G.lT (i:Int) (T.length:Int) ?_;have hTi:T[i]?=some T[i]:=A01 hlt;obtain⟨ba,oa,rfl,ea⟩:=Ac.at' (h.mono l1) (j:=i) (e:=Bt T[i]) (by simp[hTi]);refine G.a ba oa T.length c i 3 oV ?_;refine G.g (some 3) ea ?_;refine G.call0 fid [Bt T[i]] kV hcall (hf T[i] (A09 hlt) u1 l1) ?_;rintro v2 u2 l2 rfl;refine G.i i ?_;exact G.b (hJ (i+1) _ _ _ cV (l1.trans l2) ⟨oV,rfl⟩ oV)
 ·obtain rfl:i=T.length:=oV
  refine G.lF (T.length:Int) (T.length:Int) ?_;exact G.r (zI (-1)) ⟨rfl,rfl⟩
def Aic {u:PH}{v:Value}{T:List (Par×Rat)}{fid:Nat}(h:Ac u v 3 (T.map Bt))(t:T.length<=1000000)
 (e:∀ args w,(callFunc fid args).run prog w=.ok (.enter fid args) w) (m:∀ p∈T,∀ j,PH.le u j->Fn0 prog fid [Bt p] j fun v _=>v=zL) :
 Fn0 prog 263 [v,.func (.func fid) #[] #[]] u fun z _=>z=zL:=by
 refine Fn0.o func263<|G.c call301 (Atj h t e m) ?_;rintro F E C rfl;exact G.hF (-1) 0<|G.r zL ⟨rfl,rfl⟩
def Agx {u:PH}{v:Value}{T:List (Par×Rat)}{fid:Nat}(h:Ac u v 3 (T.map Bt))(W:T.length<=1000000)
 (m:∀ args w,(callFunc fid args).run prog w=.ok (.enter fid args) w) (P:∀ (i:Nat) x y,T[i]?=some x->T[i+1]?=some y->∀ F,Fn0 prog fid [Bt x,Bt y] F fun v _=>v=zT) :
 Fn0 prog 297 [v,.func (.func fid) #[] #[]] u fun U _=>U=zT:=by
 obtain⟨a,c,rfl⟩:=h.opn;rw[A03]at h⊢;refine Fn0.o func297<|G.l (ι:=Nat) (fun i=>[(0,sV a T.length c),(1,.v (.func (.func fid) #[] #[])),(5,iV (i+1:Nat))]) (fun _=>[])
  (fun i F Q=>i<=T.length/\Q=PH.mt) (fun i=>T.length-i) 0 ⟨oV,rfl⟩ ?_
 rintro J i L R X E ⟨hi,rfl⟩;by_cases C:i+1<T.length
 ·refine G.lT (i+1:Nat) T.length ?_;have t:T[i]?=some T[i]:=A01 oV;have z:T[i+1]?=some T[i+1]:=A01 C;obtain⟨V,Y,rfl,I⟩:=Ac.at' (h.mono E) (j:=i) (e:=Bt T[i]) (by simp[t]);obtain⟨_,_,H,K⟩:=Ac.at' (h.mono E) (j:=i+1) (e:=Bt T[i+1]) (by simp[z]);cases H;refine G.s (i+1:Nat) 1 i<|G.n T.length c I<|G.n T.length c K<|G.call0 fid [Bt T[i],Bt T[i+1]] kV m (P i _ _ t z R) ?_;rintro v2 Z l2 rfl;exact G.p (i+1:Nat) 1 (i+1+1:Nat)<|G.b (L (i+1) _ _ _ cV (E.trans l2) ⟨oV,rfl⟩ oV)
 exact G.lF (i+1:Nat) T.length<|G.r zT ⟨rfl,rfl⟩
def Atx {u:PH}{v:Value}{T:List ((Par×Par)×Rat)}{fid:Nat}(h:Ac u v 5 (T.map D8))(R:T.length<=1000000)
 (m:∀ args w,(callFunc fid args).run prog w=.ok (.enter fid args) w) (I:∀ p∈T,∀ E,PH.le u E->Fn0 prog fid [D8 p] E fun v _=>v=zL) :
 Fn0 prog 322 [v,.func (.func fid) #[] #[]] u fun P _=>P=zI (-1):=by
 obtain⟨a,c,rfl⟩:=h.opn;rw[A03]at h⊢;refine Fn0.o func322<|G.l (ι:=Nat) (fun i=>[(0,sV a T.length c),(1,.v (.func (.func fid) #[] #[])),(7,iV T.length),(8,iV i)]) (fun _=>[])
  (fun i E K=>i<=T.length/\K=PH.mt) (fun i=>T.length-i) 0 ⟨oV,rfl⟩ ?_
 rintro J i H L U C ⟨hi,rfl⟩;by_cases t:i<T.length
 ·refine G.lT i T.length ?_;have z:T[i]?=some T[i]:=A01 t;obtain⟨Q,V,rfl,F⟩:=Ac.at' (h.mono C) (j:=i) (e:=D8 T[i]) (by simp[z]);refine G.n T.length c F<|G.call0 fid [D8 T[i]] kV m (I T[i] (A09 t) L C) ?_;rintro X W l2 rfl;exact G.i i<|G.b (H (i+1) _ _ _ cV (C.trans l2) ⟨oV,rfl⟩ oV)
 obtain rfl:i=T.length:=oV;exact G.lF T.length T.length<|G.r (zI (-1)) ⟨rfl,rfl⟩
def Ahk {u:PH}{v:Value}{T:List ((Par×Par)×Rat)}{fid:Nat}(h:Ac u v 5 (T.map D8))(t:T.length<=1000000)
 (e:∀ args w,(callFunc fid args).run prog w=.ok (.enter fid args) w) (m:∀ p∈T,∀ j,PH.le u j->Fn0 prog fid [D8 p] j fun v _=>v=zL) :
 Fn0 prog 295 [v,.func (.func fid) #[] #[]] u fun z _=>z=zL:=by
 refine Fn0.o func295<|G.c call322 (Atx h t e m) ?_;rintro F E C rfl;exact G.hF (-1) 0<|G.r zL ⟨rfl,rfl⟩
def Aew {u:PH}{v:Value}{T:List ((Par×Par)×Rat)}{fid:Nat}(h:Ac u v 5 (T.map D8))(W:T.length<=1000000)
 (m:∀ args w,(callFunc fid args).run prog w=.ok (.enter fid args) w) (P:∀ (i:Nat) x y,T[i]?=some x->T[i+1]?=some y->∀ F,Fn0 prog fid [D8 x,D8 y] F fun v _=>v=zT) :
 Fn0 prog 299 [v,.func (.func fid) #[] #[]] u fun U _=>U=zT:=by
 obtain⟨a,c,rfl⟩:=h.opn;rw[A03]at h⊢;refine Fn0.o func299<|G.l (ι:=Nat) (fun i=>[(0,sV a T.length c),(1,.v (.func (.func fid) #[] #[])),(5,iV (i+1:Nat))]) (fun _=>[])
  (fun i F Q=>i<=T.length/\Q=PH.mt) (fun i=>T.length-i) 0 ⟨oV,rfl⟩ ?_
 rintro J i L R X E ⟨hi,rfl⟩;by_cases C:i+1<T.length
 ·refine G.lT (i+1:Nat) T.length ?_;have t:T[i]?=some T[i]:=A01 oV;have z:T[i+1]?=some T[i+1]:=A01 C;obtain⟨V,Y,rfl,I⟩:=Ac.at' (h.mono E) (j:=i) (e:=D8 T[i]) (by simp[t]);obtain⟨_,_,H,K⟩:=Ac.at' (h.mono E) (j:=i+1) (e:=D8 T[i+1]) (by simp[z]);cases H;refine G.s (i+1:Nat) 1 i<|G.n T.length c I<|G.n T.length c K<|G.call0 fid [D8 T[i],D8 T[i+1]] kV m (P i _ _ t z R) ?_;rintro v2 Z l2 rfl;exact G.p (i+1:Nat) 1 (i+1+1:Nat)<|G.b (L (i+1) _ _ _ cV (E.trans l2) ⟨oV,rfl⟩ oV)
 exact G.lF (i+1:Nat) T.length<|G.r zT ⟨rfl,rfl⟩
def Aad {κ:Type}{c:κ->κ->Int}{T:List (κ×Rat)}(h:Hb c (T.map (·.1))){x y:κ×Rat}(m:T[i]?=some x)(t:T[i+1]?=some y):c x.1 y.1<0:=by
 obtain⟨e,rfl⟩:=A05.1 m;obtain⟨j,rfl⟩:=A05.1 t;have:=A3n.1 h i (i+1) (by simpa using e) (by simpa using j) oV;simpa using this
def Ax1 {v:Value}{F:CF}{K:Nat}(U:No u v F K)(C:CFS F)(P:CFV F)(X:K<=1000000):Fn0 prog 262 [v] u fun W _=>W=zT:=by
 obtain⟨T,Q,a1,c1,a2,c2,rfl,hT,J,I,H,kT,Y⟩:=U;refine Fn0.o func262<|G.c call169 (Gu (SB.tx C.c)) ?_;rintro v1 u1 j rfl;refine G.c call263 (Aic (fid:=292) (hT.mono j) oV call292 (fun p hp E _=>by
  obtain⟨e,h⟩:=I.val p hp;exact A0m (P.s _ (by rw[<-e];exact h)) (SB.tx (by rw[e];exact C.s _)) h)) ?_
 rintro v2 u2 l2 rfl;refine G.c call295 (Ahk (fid:=296) (J.mono (j.trans l2)) oV call296 (fun p hp E _=>by
  obtain⟨e,h⟩:=H.val p hp;obtain⟨f1,f2,R⟩:=P.t p.1 (by rw[<-e];exact h);exact A0u f1 f2 R (SB.tx (by rw[e];exact C.t _)) h)) ?_
 rintro v3 u3 L rfl;refine G.c call297 (Agx (fid:=298) (hT.mono ((j.trans l2).trans L)) oV call298 (fun i x y m z E=>Ayf (Aad I.srt m z))) ?_;rintro v4 u4 V rfl;refine G.c call299 (Aew (fid:=300) (J.mono (((j.trans l2).trans L).trans V)) oV call300 (fun i x y m z E=>Ax6 (Aad H.srt m z))) ?_;rintro v5 u5 Z rfl;exact G.r zT ⟨rfl,rfl⟩
end
def Azl (u:PH)(v:Value)(F:CF)(K:Nat):Prop:=∃ r,v=.tuple #[r,zO]/\No u r F K
def No.opn {u:PH}{v:Value}{F:CF}{K:Nat}(h:No u v F K):∃ a1 n1 c1 a2 n2 c2,v=.agg #[zS (Ae F.c),.slice a1 n1 c1,.slice a2 n2 c2]:=by
 obtain⟨T,Q,a1,c1,a2,c2,rfl,_⟩:=h;exact⟨_,_,_,_,_,_,rfl⟩
def CF.num (k:Rat):CF:=⟨k,fun _=>0,fun _=>0⟩
section
variable {b c n:Nat}{x:zB}
section rules
variable [Cl] {P:Program} [A6 P] {fn:Func} {Post:Ce} {st:List KI×S} {u m:PH}
def FnK (P:Program)(f:FuncId)(args:zV)(u m:PH)(R:Value->PH->Prop):Prop:=Ag P f args u m fun v u' m'=>m'=m/\R v u'
def FnK.of {R:Value->PH->Prop}{f:FuncId}{args:zV}(j:P.funcs[f]?=some fn)(e:fn.body.isSome=true)(t:Nat.ble args.length fn.ntmps=true)(h:G P fn ⟨fun v C z=>z=m/\R v C,m⟩ (st0 fn args) u m):FnK P f args u m R:=Ag.of j e t h
def G.callK (f:Nat)(args:zV){R:Value->PH->Prop}(h:Aj P (adv P st)=.call f args)(V:∀ args w,(callFunc f args).run P w=.ok (.enter f args) w)(c:FnK P f args u m R)
 (k:∀ v j,PH.le u j->R v j->G P fn Post (nx (adv P st) v) j m):G P fn Post st u m:=by
 refine G.big (K:=fun v j z=>z=m/\R v j) h mV Dv (.inl fun v j z T=>by rw[T.1];exact fun g o X=>X) (fun J o t w C=>?_) (fun v j z L Q=>?_)
 ·refine Hq t V w _ (Calls.mono (c w C) fun e w' W=>?_);obtain⟨v,j,z,E,F,H,I⟩:=W;exact⟨v,E,j,z,F,H,I⟩
 obtain⟨rfl,U⟩:=Q;exact k v j L U
end rules
section
def Av8 {u m:PH}(L:zW)(K:n<=L.length)(I:n<=1000000)(z:∀ j s,L[j]?=some s->ElP m b (0+j*1) (zS s))(E:∀ j s,j<n->L[j]?=some s->s≠x) :
 FnK prog 291 [.slice (zA b) n c,zS x] u m fun v _=>v=zI (-1):=by
 refine FnK.of func291 kV kV<|G.l (ι:=Nat) (fun i=>[(0,sV (zA b) n c),(1,tV x),(7,iV n),(8,iV i)]) (fun _=>[])
  (fun i R H=>i<=n/\H=m) (fun i=>n-i) 0 ⟨oV,rfl⟩ ?_
 rintro J i C T Q F ⟨hi,rfl⟩;by_cases t:i<n
 ·refine G.lT i n ?_;have h:L[i]?=some L[i]:=A01 oV;exact G.O n c t (z i _ h)<|G.w x L[i] (fun e=>E i _ t h e.symm)<|G.i i<|G.b (C (i+1) _ _ _ cV F ⟨oV,rfl⟩ oV)
 obtain rfl:i=n:=oV;exact G.lF i i<|G.r (zI (-1)) ⟨rfl,rfl⟩
def Aiw {u m:PH}(L:zW)(t:n<=L.length)(h:n<=1000000)(e:∀ j s,L[j]?=some s->ElP m b (0+j*1) (zS s))(z:∀ j s,j<n->L[j]?=some s->s≠x) :
 FnK prog 259 [.slice (zA b) n c,zS x] u m fun v _=>v=zL:=by
 refine FnK.of func259 kV kV<|G.callK _ _ kV call291 (Av8 (c:=c) L t h e z) ?_;rintro F E C rfl;exact G.hF (-1) 0<|G.r zL ⟨rfl,rfl⟩
structure Rc (L:zW):Prop where
 word:∀ s∈L,Hn s=true
 nodup:L.Nodup
def Aqj {u m:PH}{b k c:Nat}{L:zW}(h:Rc L)(Q:L.length<=1000)(J:L.length<=c)(z:L[k]?=some x)(C:∀ j s,L[j]?=some s->ElP m b (0+j*1) (zS s)) :
 FnK prog 224 [.slice (zA b) L.length c,zI k] u m fun v _=>v=zO:=by
 obtain⟨t,H⟩:=A05.1 z;refine FnK.of func224 kV kV<|G.O L.length c t (C k x z)<|G.c call218 (Asw (h.word x (A1k z))) ?_;rintro V T R rfl;refine G.sliceTo 1 (zA b) L.length c k kV oV<|G.O L.length c t (C k x z)<|G.callK _ _ kV call259 (Aiw (n:=k) (c:=c) (x:=x) L oV oV C fun j s K I e=>?_) ?_
 ·obtain⟨E,F⟩:=A05.1 I;have:=(A9e (h₀:=E) (h₁:=t) h.nodup).1 (by rw[F,H,e]);omega
 rintro W U l2 rfl;exact G.r zO ⟨rfl,rfl⟩
def D9 (a:zB×Nat):Value:=.agg #[zS a.1,zI a.2]
def nmV (s:zB):Value:=zS s
def G6 (L:zW):A9 1 (L.map nmV):=by
 intro e h;obtain⟨s,_,rfl⟩:=A1b.1 h;exact⟨rfl,A1o.1 rfl⟩
end
end
structure Aq4 (T:zC):Prop where
 names:Rc (T.map (·.1))
 kind:∀ a∈T,1<=a.2/\a.2<=3
def Rc.take {L:zW}(h:Rc L)(k:Nat):Rc (L.take k):=⟨fun s e=>h.word s (A27 e),h.nodup.sublist (List.take_sublist _ _)⟩
def getElem?_snoc_last {α:Type}(l:List α)(x:α):(l++[x])[l.length]?=some x:=mV
def Ae5 {u:PH}{v w x y:Value}{T:zC}(h:Ac u v 2 (T.map D9))(ok:Aq4 T)(hl:T.length<=1000)(Y:∃ a n c,w=.slice a n c)(Z:∃ a n c,x=.slice a n c)(hy:∃ z:Int,y=zI z) :
 Fn0 prog 172 [.agg #[v,w,x,y]] u fun r _=>r=zO:=by
 obtain⟨a,c,rfl⟩:=h.opn;obtain⟨wa,wn,wc,rfl⟩:=Y;obtain⟨xa,xn,xc,rfl⟩:=Z;obtain⟨z,rfl⟩:=hy;rw[A03]at h⊢;refine Fn0.o func172<|G.l (ι:=Nat×(zP×Nat×Nat)) (fun i=>[(3,sV i.2.1 i.2.2.1 i.2.2.2),(8,sV a T.length c),(9,iV T.length),(10,iV i.1)]) (fun _=>[])
  (fun i u' m'=>i.1<=T.length/\Af PH.mt m' (.slice i.2.1 i.2.2.1 i.2.2.2) 9 1 (((T.map (·.1)).take i.1).map nmV)) (fun i=>T.length-i.1) (0,(none,0,0)) ⟨mV,Af.nil _ _ _⟩ ?_
 rintro J ⟨i,na,nn,nc⟩ U u1 m1 V ⟨hi,K⟩;simp only at hi K U;by_cases H:i<T.length
 ·refine G.lT i T.length ?_;have I:T[i]?=some T[i]:=A01 H;have P:=ok.kind T[i] (A09 H);have C:((T.map (·.1)).take (i+1))=(T.map (·.1)).take i++[T[i].1]:=by
   rw[A1n,A1a,I];rfl
  have m:=ok.names.take (i+1);rw[C]at m;have F:((T.map (·.1)).take i).length=i:=gV;generalize hL:(T.map (·.1)).take i=L at K C m F;obtain⟨ba,oa,rfl,R⟩:=Ac.at' (h.mono V) (j:=i) (e:=D9 T[i]) (by simp[I]);generalize T[i]=q at R P C m;refine G.N T.length c H R<|G.B 9 1 16 zE [zS q.1] (G6 [q.1]) ?_;intro g2 u2 l2 W;refine G.k 9 1 16 zE PH.mt (L.map nmV) [zS q.1] (.slice na nn nc) g2 0 1 1 K W (G6 [q.1]) ?_;intro v3 m3 t;rw[show L.map nmV++[zS q.1]=(L++[q.1]).map nmV by rw[A1i];rfl]at t;obtain⟨Q,c3,rfl⟩:=t.ptr mV;have E:=t.cap;rw[A03]at t E⊢;refine G.callK _ _ kV call224 (Aqj (b:=Q) (k:=i) (c:=c3) (x:=q.1) (L:=L++[q.1]) m gV E (by rw[<-F];exact getElem?_snoc_last L q.1) fun j s X=>t.el (by rw[A1a,X];rfl)) ?_;rintro v4 u4 l4 rfl;exact G.nF 0 0<|G.lF q.2 1<|G.gF q.2 3<|G.i i<|G.b (U (i+1,(some ⟨Q,0,none⟩,(L++[q.1]).length,c3)) _ _ _ cV ((V.trans l2).trans l4) ⟨dV,by dsimp only;rw[C];exact t⟩ dV)
 obtain rfl:i=T.length:=oV;exact G.lF T.length T.length<|G.pastI<|G.drop PH.mt kV (PH.mt_le _)<|G.r zO ⟨rfl,rfl⟩
section
variable {α:Type}
abbrev Al:Type:=Nat×Nat×Nat
def Cm (f:Al):Value:=.agg #[zI f.1,zI f.2.1,zI f.2.2]
def Ad1 {α:Type}(p:α->Bool)(T:List α):Int:=match T.findIdx? p with|some k=>(k:Int)|none=>-1
def Av0 {p:α->Bool}{T:List α}{i:Nat}(hi:i<T.length)(h:p T[i]=true)(h0:∀ j (e:j<i),p (T[j]'oV)=false):Ad1 p T=(i:Int):=by
 have:T.findIdx? p=some i:=A52.2 ⟨hi,h,fun j e=>by simp[h0 j e]⟩;unfold Ad1;rw[this]
def Abp {p:α->Bool}{T:List α}(h0:∀ x∈T,p x=false):Ad1 p T = -1:=by
 have:T.findIdx? p=none:=List.findIdx?_eq_none_iff.2 h0;unfold Ad1;rw[this]
def Alt {u m:PH}{v cap:Value}{T:List Al}{fid:Nat}(p:Al->Bool)(h:Ac u v 3 (T.map Cm))(W:T.length<=1000000)
 (z:∀ args w,(callFunc fid args).run prog w=.ok (.enter fid args) w) (L:∀ f∈T,∀ H,PH.le u H->FnK prog fid [Cm f,cap] H m fun v _=>v=.bool (p f)) :
 FnK prog 219 [v,.func (.func fid) #[] #[cap]] u m fun U _=>U=zI (Ad1 p T):=by
 obtain⟨a,c,rfl⟩:=h.opn;rw[A03]at h⊢;refine FnK.of func219 kV kV<|G.l (ι:=Nat) (fun i=>[(0,sV a T.length c),(1,.v (.func (.func fid) #[] #[cap])),(7,iV T.length),(8,iV i)]) (fun _=>[])
  (fun i H Q=>i<=T.length/\(∀ j (t:j<T.length),j<i->p (T[j]'t)=false)/\Q=m) (fun i=>T.length-i) 0 ⟨oV,fun j t h=>oV,rfl⟩ ?_
 rintro J i K R X F ⟨hi,h0,rfl⟩;by_cases C:i<T.length
 ·refine G.lT i T.length ?_;have E:T[i]?=some T[i]:=A01 C;obtain⟨V,Y,rfl,I⟩:=Ac.at' (h.mono F) (j:=i) (e:=Cm T[i]) (by simp[E]);refine G.n T.length c I<|G.callK fid [Cm T[i],cap] kV z (L T[i] (A09 C) R F) ?_;rintro v2 Z l2 rfl;cases hp:p T[i] with
  |true =>
   rw[Av0 C hp fun j t=>h0 j oV t];exact G.r (zI i) ⟨rfl,rfl⟩
  |false =>
   refine G.i i ?_;exact G.b (K (i+1) _ _ _ cV (F.trans l2) ⟨oV,fun j t h=>by
    rcases (by omega:j<i\/j=i) with e|rfl
    ·exact h0 j t e
    exact hp,rfl⟩ oV)
 obtain rfl:i=T.length:=oV;refine G.lF T.length T.length ?_;rw[Abp fun x P=>by obtain⟨j,t,rfl⟩:=A2y P;exact h0 j t t];exact G.r (zI (-1)) ⟨rfl,rfl⟩
def Mu {u m:PH}{v cap:Value}{T:List Al}{fid:Nat}(h:Ac u v 3 (T.map Cm))(z:T.length<=1000000)
 (e:∀ args w,(callFunc fid args).run prog w=.ok (.enter fid args) w) (t:∀ f∈T,∀ j,PH.le u j->FnK prog fid [Cm f,cap] j m fun v _=>v=zL) :
 FnK prog 159 [v,.func (.func fid) #[] #[cap]] u m fun C _=>C=zL:=by
 obtain⟨a,c,rfl⟩:=h.opn;refine FnK.of func159 kV kV<|G.callK _ _ kV call219 (Alt (cap:=cap) (fun _=>false) h z e t) ?_;rintro H F E rfl;rw[Abp fun x _=>rfl];exact G.hF (-1) 0<|G.r zL ⟨rfl,rfl⟩
def Y2 {u m:PH}{f g:Al}{b:Nat}(h:ElP m b 0 (Cm g))(j:f.1≠g.1):FnK prog 226 [Cm f,.pointer (some ⟨b,0,none⟩)] u m fun v _=>v=.bool false:=by
 refine FnK.of func226 kV kV<|G.f 100 b 0 0 0<|G.lM none b (0+0) (.int .i64 g.1) (fun i x e=>?_) ?_
 ·have:i=0/\x=.int .i64 g.1:=by
   match i,e with
   |0,e=>exact⟨rfl,by simpa[Value.cells] using e.symm⟩
   |i+1,e=>simp[Value.cells]at e
  obtain⟨rfl,rfl⟩:=this;exact h 0 _ rfl
 exact G.eF f.1 g.1<|G.r (.bool false) ⟨rfl,rfl⟩
structure Da (T:zC)(F:List Al)(lab:Int):Prop where
 ok:∀ f∈F,∃ n k,T[f.1]?=some (n,k)/\((f.2.1=1/\k=2/\f.2.2<=1)\/(f.2.1=2/\k=3/\f.2.2=0))/\(f.1:Int)≠lab
 nodup:(F.map (·.1)).Nodup
end
section
variable {b:Nat}{m u:PH}
def Ac.cap {a:zP}{n c sz:Nat}{es:zV}(h:Ac u (.slice a n c) sz es):es.length<=c:=by
 obtain⟨_,_,e,j,_⟩:=h;cases e;exact j
def L9 {b off:Nat}{q:zB×Nat}(h:ElP u b off (D9 q)):ElP u b (off+1) (zI q.2):=fun i x e=>by
 match i,e with
 |0,e =>
  have:x=zI q.2:=by simpa[Value.cells] using e.symm
  subst this;exact h 1 _ rfl
 |i+1,e=>simp[Value.cells]at e
def Ph {t:TypeId}{xs:zV}{e:Value}(j:e.cells=xs.toArray):ElP (m.upd b (.cells xs.toArray t (0,0))) b 0 e:=fun i x h=>by
 refine⟨_,_,_,Ab _ _ _,?_⟩;rw[j]at h;simpa using h
def Ahq {g:Al}(h:ElP m b 0 (Cm g)):ElP m b (0+0) (zI g.1):=fun i x e=>by
 match i,e with
 |0,e =>
  have:x=zI g.1:=by simpa[Value.cells] using e.symm
  subst this;exact h 0 _ rfl
 |i+1,e=>simp[Value.cells]at e
def Aon {v w x:Value}{T:zC}{F:List Al}{lab:Int}(h:Ac u v 2 (T.map D9))(hF:Ac u x 3 (F.map Cm))(ok:Da T F lab)(hl:T.length<=1000)(a1:F.length<=1000)(hw:∃ a n c,w=.slice a n c) :
 Fn0 prog 174 [.agg #[v,w,x,zI lab]] u fun r _=>r=zO:=by
 obtain⟨a,c,rfl⟩:=h.opn;obtain⟨a',K,rfl⟩:=hF.opn;obtain⟨wa,wn,wc,rfl⟩:=hw;have Q:=hF.cap;rw[A03]at h hF Q⊢;rw[A03];refine Fn0.o func174<|G.l (ι:=Nat) (fun i=>[(1,.p 0 0),(9,sV a' F.length K),(10,iV F.length),(11,iV i)]) (fun _=>[(0,⟨30,[sV a T.length c,sV wa wn wc,sV a' F.length K,iV lab]⟩)])
  (fun i u' m'=>i<=F.length/\m'=PH.mt) (fun i=>F.length-i) 0 ⟨oV,rfl⟩ ?_
 rintro J i W u1 m1 L ⟨hi,rfl⟩;by_cases I:i<F.length
 ·refine G.lT i F.length ?_;have X:F[i]?=some F[i]:=A01 I;obtain⟨n,k,Y,E,z⟩:=ok.ok F[i] (A09 I);have t:∀ f∈F.take i,f.1≠(F[i]).1:=by
   intro f hf;obtain⟨j,hj,rfl⟩:=A2y hf;rw[A1e]at hj;rw[A7w];intro e;have:=(A9e (xs:=F.map (·.1)) (h₀:=by rw[A03];omega) (h₁:=by rw[A03];omega) (i:=j) (j:=i) ok.nodup).1 (by rw[A3v,A3v];exact e);omega
  obtain⟨V,oa,rfl,ea⟩:=Ac.at' (hF.mono L) (j:=i) (e:=Cm F[i]) (by simp[X]);have H:=(hF.mono L).take' i (by rw[A03];omega);rw[<-A5g]at H;have a2:(F.take i).length=i:=by rw[A1e];omega
  generalize F[i]=f at ea Y E z t;obtain⟨Z,a0⟩:=A05.1 Y;obtain⟨bb,ob,rfl,eb⟩:=Ac.at' (h.mono L) (j:=f.1) (e:=D9 (n,k)) (by simp[Y]);refine G.N F.length K I ea<|G.lF f.1 0<|G.hF f.1 T.length<|G.a bb ob T.length c f.1 2 Z<|G.f 96 bb (ob+f.1*2) 1 1<|G.g none (L9 eb) ?_;rcases E with ⟨k1,k2,k3⟩|⟨k1,k2,k3⟩
  ·refine G.eT f.2.1 1<|G.eT k 2 ?_;by_cases k0:f.2.2=0
   ·refine G.eT f.2.2 0<|G.eF f.2.1 2<|G.pastI<|G.pub 3003 100 [zI f.1,zI f.2.1,zI f.2.2] kV kV ?_;intro P U R;refine G.f 100 P 0 0 0<|G.v none (Ahq (g:=f) (Ph rfl))<|G.eF' f.1 lab z<|G.sliceTo 3 (some ⟨V,oa,none⟩) F.length K i kV oV<|G.callK _ _ kV call159 (Mu H (by rw[A1e];omega) call226 fun f' C u' _=>Y2 (g:=f) (Ph rfl) (t f' C)) ?_;rintro v2 u2 l2 rfl;exact G.drop PH.mt kV (PH.mt_le _)<|G.i i<|G.b (W (i+1) _ _ _ cV (L.trans l2) ⟨oV,rfl⟩ oV)
   refine G.eF f.2.2 0<|G.eT f.2.2 1<|G.eF f.2.1 2<|G.pastI<|G.pub 3003 100 [zI f.1,zI f.2.1,zI f.2.2] kV kV ?_;intro P U R;refine G.f 100 P 0 0 0<|G.v none (Ahq (g:=f) (Ph rfl))<|G.eF' f.1 lab z<|G.sliceTo 3 (some ⟨V,oa,none⟩) F.length K i kV oV<|G.callK _ _ kV call159 (Mu H (by rw[A1e];omega) call226 fun f' C u' _=>Y2 (g:=f) (Ph rfl) (t f' C)) ?_;rintro v2 u2 l2 rfl;exact G.drop PH.mt kV (PH.mt_le _)<|G.i i<|G.b (W (i+1) _ _ _ cV (L.trans l2) ⟨oV,rfl⟩ oV)
  refine G.eF f.2.1 1<|G.eT f.2.1 2<|G.eT k 3<|G.eT f.2.2 0<|G.pastI<|G.pub 3003 100 [zI f.1,zI f.2.1,zI f.2.2] kV kV ?_;intro P U R;refine G.f 100 P 0 0 0<|G.v none (Ahq (g:=f) (Ph rfl))<|G.eF' f.1 lab z<|G.sliceTo 3 (some ⟨V,oa,none⟩) F.length K i kV oV<|G.callK _ _ kV call159 (Mu H (by rw[A1e];omega) call226 fun f' C u' _=>Y2 (g:=f) (Ph rfl) (t f' C)) ?_;rintro v2 u2 l2 rfl;exact G.drop PH.mt kV (PH.mt_le _)<|G.i i<|G.b (W (i+1) _ _ _ cV (L.trans l2) ⟨oV,rfl⟩ oV)
 obtain rfl:i=F.length:=oV;exact G.lF F.length F.length<|G.r zO ⟨rfl,rfl⟩
end
section
variable {L:List Bool}{b c n:Nat}{m m0 u:PH}
def Awk (I:n=L.length)(H:n<=1000000)(t:∀ (j:Nat) s,L[j]?=some s->ElP m b (0+j*1) (.bool s))(C:∀ s∈L,s=true) :
 FnK prog 260 [.slice (zA b) n c,zL] u m fun v _=>v=zI (-1):=by
 refine FnK.of func260 kV kV<|G.l (ι:=Nat) (fun i=>[(0,sV (zA b) n c),(1,bV false),(7,iV n),(8,iV i)]) (fun _=>[])
  (fun i P F=>i<=n/\F=m) (fun i=>n-i) 0 ⟨oV,rfl⟩ ?_
 rintro J i z Q K E ⟨hi,rfl⟩;by_cases h:i<n
 ·refine G.lT i n ?_;have e:L[i]?=some true:=by
   rw[A01 oV];exact congrArg some (C _ (A09 oV))
  exact G.O n c h (t i _ e)<|G.eqB false true kV<|G.i i<|G.b (z (i+1) _ _ _ cV E ⟨oV,rfl⟩ oV)
 obtain rfl:i=n:=oV;exact G.lF i i<|G.r (zI (-1)) ⟨rfl,rfl⟩
def Aiq (t:n=L.length)(h:n<=1000000)(e:∀ (j:Nat) s,L[j]?=some s->ElP m b (0+j*1) (.bool s))(z:∀ s∈L,s=true) :
 FnK prog 225 [.slice (zA b) n c,zL] u m fun v _=>v=zL:=by
 refine FnK.of func225 kV kV<|G.callK _ _ kV call260 (Awk (c:=c) (L:=L) t h e z) ?_;rintro F E C rfl;exact G.hF (-1) 0<|G.r zL ⟨rfl,rfl⟩
abbrev Br:Type:=zB×zK×(zP×Nat)
def Hs (r:Br):Value:=.agg #[zS r.1,.slice r.2.2.1 r.2.1.length r.2.2.2]
structure Py (u:PH)(n:Nat)(R:List Br):Prop where
 names:Rc (R.map (·.1))
 ne:∀ r∈R,r.2.1≠[]
 lt:∀ r∈R,∀ a∈r.2.1,a<n
 len:∀ r∈R,r.2.1.length<=1000
 asc:∀ r∈R,∀ (k:Nat) x y,r.2.1[k]?=some x->r.2.1[k+1]?=some y->x<y
 all:∀ a<n,∃ r∈R,a∈r.2.1
 at':∀ r∈R,Ac u (.slice r.2.2.1 r.2.1.length r.2.2.2) 1 (Ai r.2.1)
def Aqk (g n:Nat)(L:List Bool):Arr:=⟨.slice (zA g) n n,4,1,L.map .bool⟩
def Ajq (a:zP)(c:Nat)(L:zW):Arr:=⟨.slice a L.length c,9,1,L.map nmV⟩
def Ak5 {g n:Nat}:(Aqk g n L).At m0 m=Af m0 m (.slice (zA g) n n) 4 1 (L.map .bool):=rfl
def Ak3 {a:zP}{L:zW}:(Ajq a c L).At m0 m=Af m0 m (.slice a L.length c) 9 1 (L.map nmV):=rfl
def Sd (L:List Bool)(a:Nat):(L.map Value.bool).set a zT=(L.set a true).map Value.bool:=by rw[A2g]
def Aha {w x y:Value}{a0:zP}{n c0:Nat}{R:List Br}(hR:Ac u w 2 (R.map Hs))(ok:Py u n R)(hn:n<=1000)(ay:0<n)(hl:R.length<=1000)(hx:∃ a n c,x=.slice a n c)(hy:∃ z:Int,y=zI z) :
 Fn0 prog 173 [.agg #[.slice a0 n c0,w,x,y]] u fun r _=>r=zO:=by
 obtain⟨a,c,rfl⟩:=hR.opn;obtain⟨xa,xn,xc,rfl⟩:=hx;obtain⟨z,rfl⟩:=hy;rw[A03]at hR⊢;refine Fn0.o func173<|G.make 4 1 1 zL n kV rfl rfl oV oV oV ?_;rintro v1 m1 ag ⟨ad,rfl⟩;obtain⟨g,rfl,_⟩:=ag.some';refine G.l (ι:=Nat×List Bool×zW×(zP×Nat)) (fun i=>[(3,sV i.2.2.2.1 i.2.2.1.length i.2.2.2.2),(4,sV (zA g) n n),(16,sV a R.length c),(17,iV R.length),(18,iV i.1)]) (fun _=>[])
  (fun i u' m'=>i.1<=R.length/\i.2.1.length=n/\i.2.2.1=(R.map (·.1)).take i.1/\(∀ r∈R.take i.1,∀ q∈r.2.1,i.2.1[q]?=some true)/\Bag m' [Aqk g n i.2.1,Ajq i.2.2.2.1 i.2.2.2.2 i.2.2.1]) (fun i=>R.length-i.1) (0,List.replicate n false,[],(none,0))
  ⟨mV,mV,mV,mV,⟨PH.mt,by rw[Ak5,A8z];exact ag,PH.mt,Af.nil _ _ _,trivial⟩⟩ ?_
 rintro J ⟨i,L,N,⟨na,nc⟩⟩ hJ u2 m2 l2 ⟨hi,hL,hN,Q,T⟩;simp only at hi hL hN Q T hJ;by_cases aa:i<R.length
 ·refine G.lT i R.length ?_;have a9:R[i]?=some R[i]:=A01 aa;have C:R[i]∈R:=A09 aa;have a2:(R.map (·.1)).take (i+1)=N++[R[i].1]:=by
   rw[A1n,A1a,a9,hN];rfl
  have a6:R.take (i+1)=R.take i++[R[i]]:=by
   rw[A1n,a9];rfl
  have t:=ok.names.take (i+1);rw[a2]at t;have ak:N.length=i:=by rw[hN];simp;omega
  obtain⟨ba,oa,rfl,ea⟩:=Ac.at' (hR.mono l2) (j:=i) (e:=Hs R[i]) (by simp[a9]);generalize R[i]=q at ea C a2 a6 t;obtain⟨U,h,qa,qc⟩:=q;have av:h≠[]:=ok.ne _ C;have al:∀ p∈h,p<n:=ok.lt _ C;have b0:h.length<=1000:=ok.len _ C;have aj:∀ (k:Nat) x y,h[k]?=some x->h[k+1]?=some y->x<y:=ok.asc _ C;have ap:Ac u2 (.slice qa h.length qc) 1 (Ai h):=(ok.at' _ C).mono l2;have az:0<h.length:=A4f.2 av;simp only at a2 t;refine G.N R.length c aa ea<|G.B 9 1 16 zE [zS U] (G6 [U]) ?_;intro g3 u3 l3 e3;obtain⟨mm,ac,a5⟩:=T.focus 1 rfl;rw[Ak3]at ac;refine G.k 9 1 16 zE mm (N.map nmV) [zS U] (.slice na N.length nc) g3 0 1 1 ac e3 (G6 [U]) ?_;intro v4 m4 F;rw[show N.map nmV++[zS U]=(N++[U]).map nmV by rw[A1i];rfl]at F;obtain⟨b4,c4,rfl⟩:=F.ptr mV;have W:=F.cap;rw[A03]at F W⊢;have I:=a5 (Ajq (zA b4) c4 (N++[U])) m4 F;simp only[A2j,A2p]at I;refine G.callK _ _ kV call224 (Aqj (b:=b4) (k:=i) (c:=c4) (x:=U) (L:=N++[U]) t gV W (by rw[<-ak];exact getElem?_snoc_last N U) fun j s hs=>F.el (by rw[A1a,hs];rfl)) ?_;rintro v5 u5 l5 rfl;refine G.nF 0 0<|G.eF h.length 0 ?_;generalize N++[U]=N' at I a2;clear F a5 ac T W t;have ax:∀ p∈h,p<n:=al;refine G.l (ι:=Nat×List Bool) (fun j=>[(3,sV (zA b4) N'.length c4),(4,sV (zA g) n n),(6,.p 5003 0),(16,sV (some ⟨ba,oa,none⟩) R.length c),(17,iV R.length),(18,iV i),(39,sV qa h.length qc),(40,iV h.length),(41,iV j.1)])
   (fun _=>[(5003,⟨98,[tV U,sV qa h.length qc]⟩)])
   (fun j u' m'=>j.1<=h.length/\j.2.length=n/\(∀ r∈R.take i,∀ q∈r.2.1,j.2[q]?=some true)/\(∀ q∈h.take j.1,j.2[q]?=some true)/\Bag m' [Aqk g n j.2,Ajq (zA b4) c4 N']) (fun j=>h.length-j.1) (0,L)
   ⟨mV,hL,Q,mV,I⟩ ?_
  rintro J2 ⟨j,L2⟩ ai u6 m6 l6 ⟨hj,a8,H,E,K⟩;simp only at hj a8 H E K ai;have Z:=ap.mono ((l3.trans l5).trans l6);by_cases Y:j<h.length
  ·refine G.lT j h.length ?_;have aq:h[j]?=some h[j]:=A01 Y;have am:h[j]<n:=al _ (A09 Y);have a7:h.take (j+1)=h.take j++[h[j]]:=by rw[A1n,aq];rfl
   obtain⟨bq,oq,rfl,eq⟩:=Ac.at' Z (j:=j) (e:=zI (h[j]:Int)) (by simp[Ai,aq]);generalize h[j]=p at eq am a7;refine G.N h.length qc Y eq<|G.lF p 0<|G.hF p n<|G.a g 0 n n p 1 am ?_;obtain⟨aw,ar,ab⟩:=K.focus 0 rfl;rw[Ak5]at ar;refine G.storeA 1 aw (L2.map Value.bool) g n n p zT kV ar (by rw[A03];omega) rfl rfl ?_;intro m7 ah;rw[Sd]at ah;have V:=ab (Aqk g n (L2.set p true)) m7 ah;simp only[A2p]at V;refine G.i j ?_;have X:∀ q,L2[q]?=some true->(L2.set p true)[q]?=some true:=fun q P=>by
    rw[A1z];split
    ·subst_vars;rw[if_pos oV]
    exact P
   exact G.b (ai (j+1,L2.set p true) _ _ _ cV l6 ⟨dV,by simp[a8],fun r hr q P=>X q (H r hr q P),by
    intro q P;dsimp only at P⊢;rw[a7,A1h,A12]at P;rcases P with P|rfl
    ·exact X q (E q P)
    rw[A1z];simp;omega,V⟩ dV)
  obtain rfl:j=h.length:=oV;refine G.lF h.length h.length ?_;rw[A15]at E;refine G.l (ι:=Nat) (fun k=>[(3,sV (zA b4) N'.length c4),(4,sV (zA g) n n),(6,.p 5003 0),(10,iV (k+1:Nat)),(16,sV (some ⟨ba,oa,none⟩) R.length c),(17,iV R.length),(18,iV i)])
   (fun _=>[(5003,⟨98,[tV U,sV qa h.length qc]⟩)])
   (fun k u' m'=>k+1<=h.length/\m'=m6) (fun k=>h.length-k) 0
   ⟨oV,rfl⟩ ?_
  rintro J3 k au u8 m8 l8 ⟨hk,rfl⟩;have a1:=Z.mono l8;by_cases a4:k+1<h.length
  ·refine G.lT (k+1:Nat) h.length ?_;have an:h[k]?=some h[k]:=A01 oV;have ao:h[k+1]?=some h[k+1]:=A01 a4;have a3:=aj k _ _ an ao;obtain⟨bq,oq,rfl,af⟩:=Ac.at' a1 (j:=k+1) (e:=zI (h[k+1]:Int)) (by simp[Ai,ao]);obtain⟨_,_,e',ae⟩:=Ac.at' a1 (j:=k) (e:=zI (h[k]:Int)) (by simp[Ai,an]);cases e';generalize h[k]=p1 at ae a3;generalize h[k+1]=p2 at af a3;exact G.N h.length qc a4 af<|G.s (k+1:Nat) 1 k<|G.n h.length qc ae<|G.kF p2 p1<|G.p (k+1:Nat) 1 (k+1+1:Nat)<|G.b (au (k+1) _ _ _ cV l8 ⟨oV,rfl⟩ oV)
  refine G.lF (k+1:Nat) h.length<|G.i i ?_;exact G.b (hJ (i+1,L2,N',(some ⟨b4,0,none⟩,c4)) _ _ _ cV ((((l2.trans l3).trans l5).trans l6).trans l8) ⟨dV,a8,a2.symm,by
   intro r hr q P;dsimp only at hr P⊢;rw[a6,A1h,A12]at hr;rcases hr with hr|rfl
   ·exact H r hr q P
   exact E q P,K⟩ dV)
 obtain rfl:i=R.length:=oV;refine G.lF R.length R.length ?_;rw[A15]at Q;refine G.callK _ _ kV call225 (Aiq (b:=g) (c:=n) (L:=L) hL.symm oV (fun j s hs=>T.el 0 rfl (x:=Aqk g n L) rfl (by show (L.map Value.bool)[j]?=_;rw[A1a,hs];rfl)) fun s hs=>by
  obtain⟨j,hj,rfl⟩:=A2y hs;obtain⟨r,hr,P⟩:=ok.all j oV;have:=Q r hr j P;rw[A01 hj]at this;exact A28 this) ?_
 rintro v3 u3 l3 rfl;exact G.drop PH.mt kV (PH.mt_le _)<|G.r zO ⟨rfl,rfl⟩
end
structure Bl (u:PH)(T:zC)(R:List Br)(F:List Al)(lab:Int):Prop where
 att:Aq4 T
 rel:Py u T.length R
 feat:Da T F lab
 t1:0<T.length
 t2:T.length<=12
 r1:0<R.length
 r2:R.length<=6
 f2:F.length<=8
 l1:-1<=lab
 l2:∀ l:Nat,lab=(l:Int)->∃ n,T[l]?=some (n,2)
def Py.mono {u e:PH}{n:Nat}{R:List Br}(h:Py u n R)(j:PH.le u e):Py e n R:=⟨h.names,h.ne,h.lt,h.len,h.asc,h.all,fun r m=>(h.at' r m).mono j⟩
def Bl.mono {u e:PH}{T:zC}{R:List Br}{F:List Al}{lab:Int}(h:Bl u T R F lab)(j:PH.le u e):Bl e T R F lab:=⟨h.att,h.rel.mono j,h.feat,h.t1,h.t2,h.r1,h.r2,h.f2,h.l1,h.l2⟩
def H5 (u:PH)(v:Value)(T:zC)(R:List Br)(F:List Al)(lab:Int):Prop :=
 ∃ a c b d e f,v=.agg #[.slice a T.length c,.slice b R.length d,.slice e F.length f,zI lab]/\Ac u (.slice a T.length c) 2 (T.map D9)/\Ac u (.slice b R.length d) 2 (R.map Hs)/\Ac u (.slice e F.length f) 3 (F.map Cm)
def H5.mono {u m:PH}{v:Value}{T:zC}{R:List Br}{F:List Al}{lab:Int}(h:H5 u v T R F lab)(j:PH.le u m):H5 m v T R F lab:=by
 obtain⟨a,c,b,d,e,f,E,t,z,C⟩:=h;exact⟨a,c,b,d,e,f,E,t.mono j,z.mono j,C.mono j⟩
def Adn {u:PH}{v:Value}{T:zC}{R:List Br}{F:List Al}{lab:Int}(h:H5 u v T R F lab)(ok:Bl u T R F lab) :
 Fn0 prog 98 [v] u fun r _=>r=zO:=by
 obtain⟨a,c,b,d,e,f,rfl,hT,Y,hF⟩:=h;have t1:=ok.t1;have t2:=ok.t2;have r1:=ok.r1;have r2:=ok.r2;have f2:=ok.f2;have lo:=ok.l1;have hi:lab<T.length:=by
  rcases A5q lab 0 with t|H
  ·omega
  obtain⟨n,I⟩:=ok.l2 lab.toNat oV;obtain⟨hk,_⟩:=A05.1 I;omega
 refine Fn0.o func98<|G.eF T.length 0<|G.gF T.length 12<|G.eF R.length 0<|G.gF R.length 6<|G.gF F.length 8<|G.buildU 104 1 8 (.nilFunc) [.func (.func 172) #[] #[],.func (.func 173) #[] #[],.func (.func 174) #[] #[]] kV (fun x P=>by
  simp only[A1g,A11,or_false]at P;rcases P with rfl|rfl|rfl<;>exact⟨rfl,A1o.1 rfl⟩) rfl oV mV mV ?_
 intro g u1 l1 W;refine G.l (ι:=Nat) (fun i=>[(1,.p 0 0),(34,sV (zA g) 3 3),(35,iV (3:Nat)),(36,iV i)])
  (fun _=>[(0,⟨30,[sV a T.length c,sV b R.length d,sV e F.length f,iV lab]⟩)])
  (fun i u' m'=>i<=3/\m'=PH.mt) (fun i=>3-i) 0 ⟨oV,rfl⟩ ?_
 rintro J i E u2 m2 l2 ⟨Z,rfl⟩;have m:=l1.trans l2;have C:=W.mono l2;by_cases t:i<3
 ·refine G.lT i (3:Nat)<|G.a g 0 3 3 i 1 t ?_;rcases (by omega:i=0\/i=1\/i=2) with rfl|rfl|rfl
  ·refine G.g none (C 0 _ rfl)<|G.c call172 (Ae5 (w:=.slice b R.length d) (x:=.slice e F.length f) (y:=zI lab) (hT.mono m) ok.att oV ⟨_,_,_,rfl⟩ ⟨_,_,_,rfl⟩ ⟨_,rfl⟩) ?_;rintro V U z rfl;exact G.nF 0 0<|G.p (0:Nat) 1 (0+1:Nat)<|G.b (E (0+1) _ _ _ cV (l2.trans z) ⟨oV,rfl⟩ oV)
  ·refine G.g none (C 1 _ rfl)<|G.c call173 (Aha (a0:=a) (c0:=c) (x:=.slice e F.length f) (y:=zI lab) (Y.mono m) (ok.rel.mono m) oV oV oV ⟨_,_,_,rfl⟩ ⟨_,rfl⟩) ?_;rintro V U z rfl;exact G.nF 0 0<|G.p (1:Nat) 1 (1+1:Nat)<|G.b (E (1+1) _ _ _ cV (l2.trans z) ⟨oV,rfl⟩ oV)
  refine G.g none (C 2 _ rfl)<|G.c call174 (Aon (w:=.slice b R.length d) (hT.mono m) (hF.mono m) ok.feat oV oV ⟨_,_,_,rfl⟩) ?_;rintro V U z rfl;exact G.nF 0 0<|G.p (2:Nat) 1 (2+1:Nat)<|G.b (E (2+1) _ _ _ cV (l2.trans z) ⟨oV,rfl⟩ oV)
 obtain rfl:i=3:=oV;refine G.lF (3:Nat) (3:Nat)<|G.lF lab (-1)<|G.hF lab T.length ?_;rcases A5q lab 0 with L|H
 ·exact G.hF lab 0<|G.r zO ⟨rfl,rfl⟩
 refine G.hT lab 0 ?_;obtain⟨l,rfl⟩:∃ l:Nat,lab=(l:Int):=⟨lab.toNat,oV⟩;obtain⟨n,I⟩:=ok.l2 l rfl;obtain⟨K,Q,rfl,X⟩:=Ac.at' (hT.mono m) (j:=l) (e:=D9 (n,2)) (by simp[I]);exact G.a K Q T.length c l 2 oV<|G.f 96 K (Q+l*2) 1 1<|G.g none (L9 X)<|G.nF (2:Nat) 2<|G.r zO ⟨rfl,rfl⟩
section
variable {n:Nat}{v:Value}{z:Int}
def Azo (n:Nat):(Aa n).getD 0 0=n%1000000000:=by
 by_cases h:n=0
 ·subst h;rw[A7];rfl
 rw[Dz h];rfl
def A0k (n:Nat):(Aa n).getD 1 0=n/1000000000%1000000000:=by
 by_cases h:n=0
 ·subst h;rw[A7];rfl
 rw[Dz h];show (Aa (n/1000000000)).getD 0 0=_;rw[Azo]
def Alh (h:n<1000000000000000000):(Aa n).length<=2:=by
 by_cases h0:n=0
 ·subst h0;rw[A7];simp
 rw[Dz h0];by_cases e:n/1000000000=0
 ·rw[e,A7];simp
 rw[Dz e,show n/1000000000/1000000000=0 by omega,A7];simp
def Aa9 (e:0<=z)(h:z<18446744073709551616):IntKind.u64.wrap z=z:=by
 simp only[IntKind.wrap,IntKind.signed,IntKind.bits];simp;omega
section rules
variable {P:Program} [A6 P] {fn:Func} {Post:Ce} {st:List KI×S} {u m:PH}
def G.mul64 (x y z:Int)(h:Aj P (adv P st)=.bin .mul (.int .u64 x) (.int .u64 y))(C:x*y=z)(e:0<=z)(j:z<18446744073709551616)
 (k:G P fn Post (nx (adv P st) (.int .u64 z)) u m):G P fn Post st u m :=
 G.bin _ h C0 (fun t w=>by simp[binOp,Op.intArith,C,Aa9 e j]) k
def G.add64 (x y z:Int)(h:Aj P (adv P st)=.bin .add (.int .u64 x) (.int .u64 y))(C:x+y=z)(e:0<=z)(j:z<18446744073709551616)
 (k:G P fn Post (nx (adv P st) (.int .u64 z)) u m):G P fn Post st u m :=
 G.bin _ h C0 (fun t w=>by simp[binOp,Op.intArith,C,Aa9 e j]) k
end rules
def Abu {u:PH}(h:Dk u v n)(t:n<1000000000000000000)(i:Nat):Fn0 prog 271 [v,zI i] u fun r _=>r=.int .u64 (((Aa n).getD i 0:Nat):Int):=by
 have C:=Alh t;obtain⟨a,c,rfl,_⟩:=id h;refine Fn0.o func271 ?_;by_cases j:i<(Aa n).length
 ·refine G.lT i ((Aa n).length:Int) ?_;obtain⟨b,off,rfl,e⟩:=h.at j;exact G.N (Aa n).length c j e<|G.r _ ⟨rfl,rfl⟩
 refine G.lF i ((Aa n).length:Int) ?_;rw[Fs j];exact G.r (.int .u64 0) ⟨rfl,rfl⟩
def Aoc {u:PH}(h:Dk u v n)(e:n<1000000000000000000):Fn0 prog 272 [v] u fun r _=>r=.int .u64 (n:Int):=by
 obtain⟨a,c,rfl,_⟩:=id h;refine Fn0.o func272<|G.c call271 (Abu h e 1) ?_;rintro E t j rfl;rw[A0k];refine G.mul64 ((n/1000000000%1000000000:Nat):Int) 1000000000 _ kV rfl oV oV<|G.c call271 (Abu (h.mono j) e 0) ?_;rintro F C l2 rfl;rw[Azo];exact G.add64 (((n/1000000000%1000000000:Nat):Int)*1000000000) ((n%1000000000:Nat):Int) (n:Int) kV oV oV oV<|G.r _ ⟨rfl,rfl⟩
def Aom {u:PH}(h:Bi u v z)(C:z.natAbs<1000000000000000000):Fn0 prog 257 [v] u fun r _=>r=.tuple #[zI z,zT]:=by
 obtain⟨a,J,c,rfl,t⟩:=h;obtain⟨a,c,e,_⟩:=id t;cases e;have F:=Alh C;generalize H:z.natAbs=n at t C F⊢;refine Fn0.o func257<|G.gF ((Aa n).length:Int) 3<|G.c call271 (Abu t C 2) ?_;rintro R K E rfl;rw[Fs (k:=2) oV];refine G.cmpG .gtr .u64 ((0:Nat):Int) 4 false kV rfl (by simp[Db])<|G.c call271 (Abu (t.mono E) C 2) ?_;rintro T L l2 rfl;rw[Fs (k:=2) oV];refine G.mul64 ((0:Nat):Int) 1000000000 0 kV oV oV oV<|G.mul64 0 1000000000 0 kV oV oV oV<|G.c call272 (Aoc (t.mono (E.trans l2)) C) ?_;rintro U Q I rfl;refine G.add64 0 (n:Int) (n:Int) kV oV oV oV<|G.cmpG .gtr .u64 (n:Int) 4611686018427387904 false kV rfl (by simp[Db];omega) ?_;by_cases j:z<0
 ·rw[decide_eq_true j];refine G.convI .u64 .i64 .u64 (n:Int) (n:Int) kV ?_ ?_
  ·simp only[IntKind.wrap,IntKind.signed,IntKind.bits];simp;omega
  exact G.neg (n:Int) z kV oV oV oV<|G.r (.tuple #[zI z,zT]) ⟨rfl,rfl⟩
 rw[decide_eq_false j];refine G.convI .u64 .i64 .u64 (n:Int) (n:Int) kV ?_ ?_
 ·simp only[IntKind.wrap,IntKind.signed,IntKind.bits];simp;omega
 obtain rfl:z=(n:Int):=oV;exact G.r (.tuple #[zI n,zT]) ⟨rfl,rfl⟩
end
section
variable {q:Rat}{u:PH}{z:Int}
def Jk (h:z.natAbs<1000000000000000000):Lib.nDigits z.natAbs<=400:=A04 (Cz (k:=18) oV oV) oV
def Aa6 (h:z.natAbs<1000000000000000000):Fn0 prog 217 [zS (Lib.itoa z)] u fun v _=>v=.tuple #[zI z,zT]:=by
 refine Fn0.o func217<|G.c call222 (Jn (Jk h)) ?_;rintro H C m rfl;refine G.c call256 (Zc (Jk h)) ?_;intro I E l2 e;obtain⟨j,a2,n2,c2,rfl⟩:=e.opn;refine G.c call257 (Aom e h) ?_;rintro J F t rfl;exact G.r (.tuple #[zI z,zT]) ⟨rfl,rfl⟩
def Ayv (h:Tx q):Fn0 prog 216 [zS (Ae q)] u fun v _=>v=.tuple #[zS (Lib.itoa q.num),zS (Lib.itoa (q.den:Int)),zT]:=by
 refine Fn0.o func216<|G.c call169 (Gu h) ?_;rintro C m j rfl;refine G.c call204 (Ay5 h) ?_;rintro E t l2 rfl;by_cases e:q.den=1
 ·rw[if_pos e,decide_eq_false (by simp[e]),e,show ((1:Nat):Int)=1 from rfl,Hf];exact G.r (.tuple #[zS (Lib.itoa q.num),zS [49],zT]) ⟨rfl,rfl⟩
 rw[if_neg e,decide_eq_true e];exact G.r (.tuple #[zS (Lib.itoa q.num),zS (Lib.itoa (q.den:Int)),zT]) ⟨rfl,rfl⟩
def Afu (h:z.natAbs<=1000000000):Fn0 prog 215 [zS (Lib.itoa z)] u fun v _=>v=zT:=by
 refine Fn0.o func215<|G.c call217 (Aa6 (z:=z) oV) ?_;rintro m j e rfl;exact G.hT z (-1000000000)<|G.kT z 1000000000<|G.r zT ⟨rfl,rfl⟩
structure Dat (q:Rat):Prop where
 num:q.num.natAbs<=1000000000
 den:q.den<=12
def Dat.tx (h:Dat q):Tx q:=⟨Jk (by have:=h.num;omega),by have:=Jk (z:=(q.den:Int)) (by have:=h.den;omega);simpa using this⟩
def Ase :Ae q≠[]:=by
 intro e;unfold Ae at e;split at e
 ·by_cases h:q.num<0
  ·rw[N2 h]at e;cases e
  rw[Lib.itoa,if_neg h]at e;exact Gk _ e
 simp at e
def Awh {s:zB}(h:Dat q):Fn0 prog 158 [D9 (s,2),zS (Ae q)] u fun v _=>v=zT:=by
 have e:=h.den;have hp:=q.den_pos;refine Fn0.o func158<|G.eF (2:Nat) 1<|G.eT (2:Nat) 2<|G.c call216 (Ayv h.tx) ?_;rintro F t j rfl;refine G.c call217 (Aa6 (z:=(q.den:Int)) oV) ?_;rintro H C l2 rfl;refine G.w (Ae q) [] Ase<|G.c call215 (Afu h.num) ?_;rintro I E m rfl;exact G.hT q.den 1<|G.kT q.den 12<|G.r zT ⟨rfl,rfl⟩
end
def CF.one1 (p:Par)(q:Rat):CF:=⟨1,Nh (fun _=>0) p q,Nh (fun _=>0) (p,p) (q*q)⟩
section
variable {F:CF}{K:Nat}{u:PH}{v:Value}
def A0d (p:Par)(h:No u v F K)(Z:K<=1000000):Fn0 prog 233 [v,Ap p] u fun r _=>r=zS (Ae (F.s p)):=by
 obtain⟨T,Q,a1,c1,a2,c2,rfl,hT,hQ,H,Y,kT,kQ⟩:=h;refine Fn0.o func233<|G.l (ι:=Nat) (fun i=>[(3,.p 1 0),(8,sV a1 T.length c1),(9,iV T.length),(10,iV i)]) (fun _=>[(1,⟨118,[iV p.1,tV p.2]⟩)])
  (fun i u' W=>i<=T.length/\(∀ j (m:j<T.length),j<i->(T[j]'m).1≠p)/\W=PH.mt) (fun i=>T.length-i) 0 ⟨oV,fun j m h=>oV,rfl⟩ ?_
 rintro J i P u1 m1 I ⟨hi,h0,rfl⟩;by_cases t:i<T.length
 ·refine G.lT i T.length ?_;have E:T[i]?=some T[i]:=A01 t;have z:=(H.val _ (A09 t)).1;obtain⟨X,oa,rfl,L⟩:=Ac.at' (hT.mono I) (j:=i) (e:=Bt T[i]) (by simp[E]);refine G.n T.length c1 L ?_;by_cases C:T[i].1=p
  ·exact G.eqAgg 118 #[zI T[i].1.1,zS T[i].1.2] #[zI p.1,zS p.2] true kV kV kV (fun w=>by rw[<-decide_eq_true C];exact Bq.eq T[i].1 p w)<|G.r (zS (Ae T[i].2)) ⟨rfl,by rw[z,C]⟩
  refine G.eqAgg 118 #[zI T[i].1.1,zS T[i].1.2] #[zI p.1,zS p.2] false kV kV kV (fun w=>by rw[<-decide_eq_false C];exact Bq.eq T[i].1 p w)<|G.i i ?_;exact G.b (P (i+1) _ _ _ cV I ⟨oV,fun j m h=>by
   rcases (by omega:j<i\/j=i) with e|rfl
   ·exact h0 j m e
   exact C,rfl⟩ oV)
 obtain rfl:i=T.length:=oV;refine G.lF T.length T.length ?_;have V:F.s p=0:=H.out p fun R=>by
  obtain⟨x,U,e⟩:=A1b.1 R;obtain⟨j,m,rfl⟩:=A2y U;exact h0 j m m e
 exact G.r (zS [48]) ⟨rfl,by rw[V,Fz]⟩
def Afd (p q:Par)(h:No u v F K)(hK:K<=1000000):Fn0 prog 54 [v,Ap p,Ap q] u fun r _=>r=zS (Ae (F.t (Ay p q))):=by
 obtain⟨T,Q,a1,c1,a2,c2,rfl,hT,hQ,cT,W,kT,kQ⟩:=h;refine Fn0.o func54 ?_;by_cases L:Bk q p<0
 ·rw[show Ay p q=(q,p) by unfold Ay;rw[if_pos ((Et.sym _ _).1 L)]];refine G.c call127 (Re q p true (decide_eq_true L)) ?_;rintro v0 u0 l0 rfl;refine G.l (ι:=Nat) (fun i=>[(4,.p 1 0),(5,.p 2 0),(15,sV a2 Q.length c2),(16,iV Q.length),(17,iV i)]) (fun _=>[(1,⟨118,[iV q.1,tV q.2]⟩),(2,⟨118,[iV p.1,tV p.2]⟩)])
   (fun i u' m'=>i<=Q.length/\(∀ j (C:j<Q.length),j<i->(Q[j]'C).1≠(q,p))/\m'=PH.mt) (fun i=>Q.length-i) 0 ⟨oV,fun j C h=>oV,rfl⟩ ?_
  rintro J i V u1 m1 U ⟨hi,h0,rfl⟩;by_cases E:i<Q.length
  ·refine G.lT i Q.length ?_;have P:Q[i]?=some Q[i]:=A01 E;have H:=(W.val _ (A09 E)).1;obtain⟨ba,oa,rfl,X⟩:=Ac.at' (hQ.mono (l0.trans U)) (j:=i) (e:=D8 Q[i]) (by simp[P]);have m:Q[i].1≠(q,p)->∀ j (C:j<Q.length),j<i+1->(Q[j]'C).1≠(q,p):=fun R j C h=>by
    rcases (by omega:j<i\/j=i) with e|rfl
    ·exact h0 j C e
    exact R
   refine G.n Q.length c2 X ?_;by_cases I:Q[i].1.1=q
   ·refine G.eqAgg 118 #[zI Q[i].1.1.1,zS Q[i].1.1.2] #[zI q.1,zS q.2] true kV kV kV (fun w=>by rw[<-decide_eq_true I];exact Bq.eq Q[i].1.1 q w) ?_;by_cases z:Q[i].1.2=p
    ·exact G.eqAgg 118 #[zI Q[i].1.2.1,zS Q[i].1.2.2] #[zI p.1,zS p.2] true kV kV kV (fun w=>by rw[<-decide_eq_true z];exact Bq.eq Q[i].1.2 p w)<|G.r (zS (Ae Q[i].2)) ⟨rfl,by rw[H,show Q[i].1=(q,p) from A6z I z]⟩
    exact G.eqAgg 118 #[zI Q[i].1.2.1,zS Q[i].1.2.2] #[zI p.1,zS p.2] false kV kV kV (fun w=>by rw[<-decide_eq_false z];exact Bq.eq Q[i].1.2 p w)<|G.i i<|G.b (V (i+1) _ _ _ cV U ⟨oV,m fun e=>z (congrArg Prod.snd e),rfl⟩ oV)
   exact G.eqAgg 118 #[zI Q[i].1.1.1,zS Q[i].1.1.2] #[zI q.1,zS q.2] false kV kV kV (fun w=>by rw[<-decide_eq_false I];exact Bq.eq Q[i].1.1 q w)<|G.i i<|G.b (V (i+1) _ _ _ cV U ⟨oV,m fun e=>I (congrArg Prod.fst e),rfl⟩ oV)
  obtain rfl:i=Q.length:=oV;refine G.lF Q.length Q.length ?_;have hz:F.t (q,p)=0:=W.out (q,p) fun Y=>by
   obtain⟨x,Z,e⟩:=A1b.1 Y;obtain⟨j,C,rfl⟩:=A2y Z;exact h0 j C C e
  exact G.r (zS [48]) ⟨rfl,by rw[hz,Fz]⟩
 rw[show Ay p q=(p,q) by unfold Ay;rw[if_neg fun e=>L ((Et.sym _ _).2 e)]];refine G.c call127 (Re q p false (decide_eq_false L)) ?_;rintro v0 u0 l0 rfl;refine G.l (ι:=Nat) (fun i=>[(4,.p 1 0),(5,.p 2 0),(15,sV a2 Q.length c2),(16,iV Q.length),(17,iV i)]) (fun _=>[(1,⟨118,[iV p.1,tV p.2]⟩),(2,⟨118,[iV q.1,tV q.2]⟩)])
  (fun i u' m'=>i<=Q.length/\(∀ j (C:j<Q.length),j<i->(Q[j]'C).1≠(p,q))/\m'=PH.mt) (fun i=>Q.length-i) 0 ⟨oV,fun j C h=>oV,rfl⟩ ?_
 rintro J i V u1 m1 U ⟨hi,h0,rfl⟩;by_cases E:i<Q.length
 ·refine G.lT i Q.length ?_;have P:Q[i]?=some Q[i]:=A01 E;have H:=(W.val _ (A09 E)).1;obtain⟨ba,oa,rfl,X⟩:=Ac.at' (hQ.mono (l0.trans U)) (j:=i) (e:=D8 Q[i]) (by simp[P]);have m:Q[i].1≠(p,q)->∀ j (C:j<Q.length),j<i+1->(Q[j]'C).1≠(p,q):=fun R j C h=>by
   rcases (by omega:j<i\/j=i) with e|rfl
   ·exact h0 j C e
   exact R
  refine G.n Q.length c2 X ?_;by_cases I:Q[i].1.1=p
  ·refine G.eqAgg 118 #[zI Q[i].1.1.1,zS Q[i].1.1.2] #[zI p.1,zS p.2] true kV kV kV (fun w=>by rw[<-decide_eq_true I];exact Bq.eq Q[i].1.1 p w) ?_;by_cases z:Q[i].1.2=q
   ·exact G.eqAgg 118 #[zI Q[i].1.2.1,zS Q[i].1.2.2] #[zI q.1,zS q.2] true kV kV kV (fun w=>by rw[<-decide_eq_true z];exact Bq.eq Q[i].1.2 q w)<|G.r (zS (Ae Q[i].2)) ⟨rfl,by rw[H,show Q[i].1=(p,q) from A6z I z]⟩
   exact G.eqAgg 118 #[zI Q[i].1.2.1,zS Q[i].1.2.2] #[zI q.1,zS q.2] false kV kV kV (fun w=>by rw[<-decide_eq_false z];exact Bq.eq Q[i].1.2 q w)<|G.i i<|G.b (V (i+1) _ _ _ cV U ⟨oV,m fun e=>z (congrArg Prod.snd e),rfl⟩ oV)
  exact G.eqAgg 118 #[zI Q[i].1.1.1,zS Q[i].1.1.2] #[zI p.1,zS p.2] false kV kV kV (fun w=>by rw[<-decide_eq_false I];exact Bq.eq Q[i].1.1 p w)<|G.i i<|G.b (V (i+1) _ _ _ cV U ⟨oV,m fun e=>I (congrArg Prod.fst e),rfl⟩ oV)
 obtain rfl:i=Q.length:=oV;refine G.lF Q.length Q.length ?_;have hz:F.t (p,q)=0:=W.out (p,q) fun Y=>by
  obtain⟨x,Z,e⟩:=A1b.1 Y;obtain⟨j,C,rfl⟩:=A2y Z;exact h0 j C C e
 exact G.r (zS [48]) ⟨rfl,by rw[hz,Fz]⟩
end
section
variable {p:Par}{q:Rat}
def Ao6 {d N:Nat}(e:Dn d N 1)(j:Dn d N q)(h:Dn d N (q*q)):CFD d N (CF.one1 p q) :=
 ⟨e,fun k=>by
  show Dn d N (Nh (fun _=>(0:Rat)) p q k);unfold Nh;split
  ·exact j
  ·exact Dn.zero _ _,fun k=>by
  show Dn d N (Nh (fun _=>(0:Rat)) (p,p) (q*q) k);unfold Nh;split
  ·exact h
  exact Dn.zero _ _⟩
def Ar0 (hp:PV p):CFV (CF.one1 p q) :=
 ⟨fun k h=>by
  have h:Nh (fun _=>(0:Rat)) p q k≠0:=h;unfold Nh at h;split at h
  ·subst_vars;exact hp
  ·exact absurd rfl h,fun k h=>by
  have h:Nh (fun _=>(0:Rat)) (p,p) (q*q) k≠0:=h;unfold Nh at h;split at h
  ·subst_vars
   exact⟨hp,hp,fun e=>by
   have e:0<Bk p p:=e;have:=(Et.sym _ _).2 e;omega⟩
  exact absurd rfl h⟩
def Hc.listP {u:PH}{g sz:Nat}{es:zV}(h:Hc u g 0 sz es):Ac u (.slice (zA g) es.length es.length) sz es:=⟨_,_,rfl,A08 _,fun j e m=>⟨g,0,rfl,h j e m⟩⟩
def Sc {L:zW}(h:(L.all Hn&&decide L.Nodup)=true):Rc L:=by
 rw[A1m,A1o,decide_eq_true_iff]at h;exact⟨h.1,h.2⟩
end
def pw {n:Nat}(h:n<10^30):n<10^100:=A2s h jV
section
variable {F:CF}{K:Nat}{p q:Par}{u:PH}{v:Value}
def Auh (h:p.1<q.1):Bk p q<0:=by
 have e:Q1 p.1 q.1 = -1:=by unfold Q1;rw[if_pos h]
 unfold Bk;rw[e,if_pos fV];decide
def At8 (h:¬ p.1<q.1)(j:p.1≠q.1):¬ Bk p q<0:=by
 have e:Q1 p.1 q.1=1:=by unfold Q1;rw[if_neg h,if_pos oV]
 unfold Bk;rw[e,if_pos fV];decide
def Au3 (h:p.1=q.1):decide (Bk p q<0)=Op.bytesLess p.2 q.2:=by
 have e:Q1 p.1 q.1=0:=by unfold Q1;rw[if_neg oV,if_neg oV]
 unfold Bk;rw[e,if_neg fV];unfold Vj;cases Op.bytesLess p.2 q.2 with
 |true=>rfl
 |false =>
  simp only[A4z,if_false];split<;>rfl
def Fp (p q:Par)(r:Bool)(h:decide (Bk p q<0)=r):Fn0 prog 113 [Ap p,Ap q] u fun v _=>v=.bool r:=by
 refine Fn0.o func113 ?_;by_cases e:p.1<q.1
 ·refine G.lT' p.1 q.1 e ?_;rw[decide_eq_true (Auh e)]at h;subst h;exact G.r zT ⟨rfl,rfl⟩
 refine G.lF' p.1 q.1 e ?_;by_cases j:p.1=q.1
 ·rw[Au3 j]at h;refine G.eT' p.1 q.1 j<|G.ltS p.2 q.2 r kV h ?_;cases r with
  |true=>exact G.r zT ⟨rfl,rfl⟩
  |false=>exact G.r zL ⟨rfl,rfl⟩
 rw[decide_eq_false (At8 e j)]at h;subst h;exact G.eF' p.1 q.1 j<|G.r zL ⟨rfl,rfl⟩
def At9 (p:Par)(h:No u v F K)(Z:K<=1000000):Fn0 prog 137 [v,Ap p] u fun r _=>r=zS (Ae (F.s p)):=by
 obtain⟨T,Q,a1,c1,a2,c2,rfl,hT,hQ,H,Y,kT,kQ⟩:=h;refine Fn0.o func137<|G.l (ι:=Nat) (fun i=>[(3,.p 1 0),(8,sV a1 T.length c1),(9,iV T.length),(10,iV i)]) (fun _=>[(1,⟨118,[iV p.1,tV p.2]⟩)])
  (fun i u' W=>i<=T.length/\(∀ j (m:j<T.length),j<i->(T[j]'m).1≠p)/\W=PH.mt) (fun i=>T.length-i) 0 ⟨oV,fun j m h=>oV,rfl⟩ ?_
 rintro J i P u1 m1 I ⟨hi,h0,rfl⟩;by_cases t:i<T.length
 ·refine G.lT i T.length ?_;have E:T[i]?=some T[i]:=A01 t;have z:=(H.val _ (A09 t)).1;obtain⟨X,oa,rfl,L⟩:=Ac.at' (hT.mono I) (j:=i) (e:=Bt T[i]) (by simp[E]);refine G.n T.length c1 L ?_;by_cases C:T[i].1=p
  ·exact G.eqAgg 118 #[zI T[i].1.1,zS T[i].1.2] #[zI p.1,zS p.2] true kV kV kV (fun w=>by rw[<-decide_eq_true C];exact Bq.eq T[i].1 p w)<|G.r (zS (Ae T[i].2)) ⟨rfl,by rw[z,C]⟩
  refine G.eqAgg 118 #[zI T[i].1.1,zS T[i].1.2] #[zI p.1,zS p.2] false kV kV kV (fun w=>by rw[<-decide_eq_false C];exact Bq.eq T[i].1 p w)<|G.i i ?_;exact G.b (P (i+1) _ _ _ cV I ⟨oV,fun j m h=>by
   rcases (by omega:j<i\/j=i) with e|rfl
   ·exact h0 j m e
   exact C,rfl⟩ oV)
 obtain rfl:i=T.length:=oV;refine G.lF T.length T.length ?_;have V:F.s p=0:=H.out p fun R=>by
  obtain⟨x,U,e⟩:=A1b.1 R;obtain⟨j,m,rfl⟩:=A2y U;exact h0 j m m e
 exact G.r (zS [48]) ⟨rfl,by rw[V,Fz]⟩
def U2 (p q:Par)(h:No u v F K)(hK:K<=1000000):Fn0 prog 66 [v,Ap p,Ap q] u fun r _=>r=zS (Ae (F.t (Ay p q))):=by
 obtain⟨T,Q,a1,c1,a2,c2,rfl,hT,hQ,cT,W,kT,kQ⟩:=h;refine Fn0.o func66 ?_;by_cases L:Bk q p<0
 ·rw[show Ay p q=(q,p) by unfold Ay;rw[if_pos ((Et.sym _ _).1 L)]];refine G.c call113 (Fp q p true (decide_eq_true L)) ?_;rintro v0 u0 l0 rfl;refine G.l (ι:=Nat) (fun i=>[(4,.p 1 0),(5,.p 2 0),(15,sV a2 Q.length c2),(16,iV Q.length),(17,iV i)]) (fun _=>[(1,⟨118,[iV q.1,tV q.2]⟩),(2,⟨118,[iV p.1,tV p.2]⟩)])
   (fun i u' m'=>i<=Q.length/\(∀ j (C:j<Q.length),j<i->(Q[j]'C).1≠(q,p))/\m'=PH.mt) (fun i=>Q.length-i) 0 ⟨oV,fun j C h=>oV,rfl⟩ ?_
  rintro J i V u1 m1 U ⟨hi,h0,rfl⟩;by_cases E:i<Q.length
  ·refine G.lT i Q.length ?_;have P:Q[i]?=some Q[i]:=A01 E;have H:=(W.val _ (A09 E)).1;obtain⟨ba,oa,rfl,X⟩:=Ac.at' (hQ.mono (l0.trans U)) (j:=i) (e:=D8 Q[i]) (by simp[P]);have m:Q[i].1≠(q,p)->∀ j (C:j<Q.length),j<i+1->(Q[j]'C).1≠(q,p):=fun R j C h=>by
    rcases (by omega:j<i\/j=i) with e|rfl
    ·exact h0 j C e
    exact R
   refine G.n Q.length c2 X ?_;by_cases I:Q[i].1.1=q
   ·refine G.eqAgg 118 #[zI Q[i].1.1.1,zS Q[i].1.1.2] #[zI q.1,zS q.2] true kV kV kV (fun w=>by rw[<-decide_eq_true I];exact Bq.eq Q[i].1.1 q w) ?_;by_cases z:Q[i].1.2=p
    ·exact G.eqAgg 118 #[zI Q[i].1.2.1,zS Q[i].1.2.2] #[zI p.1,zS p.2] true kV kV kV (fun w=>by rw[<-decide_eq_true z];exact Bq.eq Q[i].1.2 p w)<|G.r (zS (Ae Q[i].2)) ⟨rfl,by rw[H,show Q[i].1=(q,p) from A6z I z]⟩
    exact G.eqAgg 118 #[zI Q[i].1.2.1,zS Q[i].1.2.2] #[zI p.1,zS p.2] false kV kV kV (fun w=>by rw[<-decide_eq_false z];exact Bq.eq Q[i].1.2 p w)<|G.i i<|G.b (V (i+1) _ _ _ cV U ⟨oV,m fun e=>z (congrArg Prod.snd e),rfl⟩ oV)
   exact G.eqAgg 118 #[zI Q[i].1.1.1,zS Q[i].1.1.2] #[zI q.1,zS q.2] false kV kV kV (fun w=>by rw[<-decide_eq_false I];exact Bq.eq Q[i].1.1 q w)<|G.i i<|G.b (V (i+1) _ _ _ cV U ⟨oV,m fun e=>I (congrArg Prod.fst e),rfl⟩ oV)
  obtain rfl:i=Q.length:=oV;refine G.lF Q.length Q.length ?_;have hz:F.t (q,p)=0:=W.out (q,p) fun Y=>by
   obtain⟨x,Z,e⟩:=A1b.1 Y;obtain⟨j,C,rfl⟩:=A2y Z;exact h0 j C C e
  exact G.r (zS [48]) ⟨rfl,by rw[hz,Fz]⟩
 rw[show Ay p q=(p,q) by unfold Ay;rw[if_neg fun e=>L ((Et.sym _ _).2 e)]];refine G.c call113 (Fp q p false (decide_eq_false L)) ?_;rintro v0 u0 l0 rfl;refine G.l (ι:=Nat) (fun i=>[(4,.p 1 0),(5,.p 2 0),(15,sV a2 Q.length c2),(16,iV Q.length),(17,iV i)]) (fun _=>[(1,⟨118,[iV p.1,tV p.2]⟩),(2,⟨118,[iV q.1,tV q.2]⟩)])
  (fun i u' m'=>i<=Q.length/\(∀ j (C:j<Q.length),j<i->(Q[j]'C).1≠(p,q))/\m'=PH.mt) (fun i=>Q.length-i) 0 ⟨oV,fun j C h=>oV,rfl⟩ ?_
 rintro J i V u1 m1 U ⟨hi,h0,rfl⟩;by_cases E:i<Q.length
 ·refine G.lT i Q.length ?_;have P:Q[i]?=some Q[i]:=A01 E;have H:=(W.val _ (A09 E)).1;obtain⟨ba,oa,rfl,X⟩:=Ac.at' (hQ.mono (l0.trans U)) (j:=i) (e:=D8 Q[i]) (by simp[P]);have m:Q[i].1≠(p,q)->∀ j (C:j<Q.length),j<i+1->(Q[j]'C).1≠(p,q):=fun R j C h=>by
   rcases (by omega:j<i\/j=i) with e|rfl
   ·exact h0 j C e
   exact R
  refine G.n Q.length c2 X ?_;by_cases I:Q[i].1.1=p
  ·refine G.eqAgg 118 #[zI Q[i].1.1.1,zS Q[i].1.1.2] #[zI p.1,zS p.2] true kV kV kV (fun w=>by rw[<-decide_eq_true I];exact Bq.eq Q[i].1.1 p w) ?_;by_cases z:Q[i].1.2=q
   ·exact G.eqAgg 118 #[zI Q[i].1.2.1,zS Q[i].1.2.2] #[zI q.1,zS q.2] true kV kV kV (fun w=>by rw[<-decide_eq_true z];exact Bq.eq Q[i].1.2 q w)<|G.r (zS (Ae Q[i].2)) ⟨rfl,by rw[H,show Q[i].1=(p,q) from A6z I z]⟩
   exact G.eqAgg 118 #[zI Q[i].1.2.1,zS Q[i].1.2.2] #[zI q.1,zS q.2] false kV kV kV (fun w=>by rw[<-decide_eq_false z];exact Bq.eq Q[i].1.2 q w)<|G.i i<|G.b (V (i+1) _ _ _ cV U ⟨oV,m fun e=>z (congrArg Prod.snd e),rfl⟩ oV)
  exact G.eqAgg 118 #[zI Q[i].1.1.1,zS Q[i].1.1.2] #[zI p.1,zS p.2] false kV kV kV (fun w=>by rw[<-decide_eq_false I];exact Bq.eq Q[i].1.1 p w)<|G.i i<|G.b (V (i+1) _ _ _ cV U ⟨oV,m fun e=>I (congrArg Prod.fst e),rfl⟩ oV)
 obtain rfl:i=Q.length:=oV;refine G.lF Q.length Q.length ?_;have hz:F.t (p,q)=0:=W.out (p,q) fun Y=>by
  obtain⟨x,Z,e⟩:=A1b.1 Y;obtain⟨j,C,rfl⟩:=A2y Z;exact h0 j C C e
 exact G.r (zS [48]) ⟨rfl,by rw[hz,Fz]⟩
end
section
variable {F:CF}{N' g:Nat}{q:Rat}{v x:Value}{y1 y3:Bool}{y2 y4:SlI}
section
variable {P:Program} [A6 P] {fn:Func} {Post:Ce} {st:List KI×S} {u m:PH}
theorem Ai1 {e:Operand->Value}{o:Op}{t:TypeId}{L:List (Nat×Value)}(h:Bc P e o=.build t L):∃ j:Array (Nat×Operand),o=.build t j/\j.toList.map (fun x=>(x.1,e x.2))=L:=by
 cases o<;>simp only[Bc]at h<;>try cases h
 any_goals ((repeat' split at h)<;>cases h;done)
 grind
def G.buildArr (t e:TypeId)(p q:Par)(h:Aj P (adv P st)=.build t [(0,Ap p),(1,Ap q)])(Q:P.underlying t=some (.array 2 e))(L:szB P e=some 2)(R:Z0 P t=some (.agg #[zO,zE,zO,zE]))
 (k:G P fn Post (nx (adv P st) (.agg #[zI p.1,zS p.2,zI q.1,zS q.2])) u m):G P fn Post st u m:=by
 refine G.ask h mV (fun z o j w hp=>?_) k;obtain⟨U,E,V⟩:=Ai1 j;obtain⟨I,T,H,pos,after,C⟩:=o;simp only at E;subst E;have J:(U.map fun x=>(x.1,z x.2)).toList = [(0,Ap p),(1,Ap q)]:=by simp_all
 simp only[execOp,Instr.build,Sem.run_bind,Abk R,Result.andThen_ok,run_underlying Q,Bf L,J];rfl
end
def D7 {κ:Type}(enc:κ->Value)(K:κ->Prop)(u:PH)(o:Obj)(f:κ->Rat)(N:Nat):Prop :=
 ∃ l:List (κ×Value),Hu enc o l/\(∀ p∈l,QP u p.2 (f p.1)/\K p.1/\Sz (f p.1) 12)/\(∀ k,k∉l.map (·.1)->f k=0)/\l.length<=N
section
variable {κ:Type} [DecidableEq κ] {enc:κ->Value} {K:κ->Prop} {u:PH} {o:Obj} {f:κ->Rat} {N:Nat}
def D7.mono {j:PH}(h:D7 enc K u o f N)(E:PH.le u j):D7 enc K j o f N:=by
 obtain⟨l,t,e,z,C⟩:=h;exact⟨l,t,fun p hp=>⟨(e p hp).1.mono E,(e p hp).2⟩,z,C⟩
def D7.up (h:D7 enc K u o f N)(C:N<=N'):D7 enc K u o f N':=by
 obtain⟨l,e,j,t,z⟩:=h;exact⟨l,e,j,t,A04 z C⟩
def D7.congr {f':κ->Rat}(h:D7 enc K u o f N)(e:∀ k,f k=f' k):D7 enc K u o f' N:=by
 rw[<-funext e];exact h
def D7.empty:D7 enc K u (.map #[] 0) (fun _=>0) 0:=⟨[],Hu.empty,mV,fun _ _=>rfl,A08 _⟩
theorem D7.put {o':Obj}{a:κ}{x:Value}{q:Rat}{l:List (κ×Value)}(z:Hu enc o l)(C:∀ p∈l,QP u p.2 (f p.1)/\K p.1/\Sz (f p.1) 12)(j:∀ k,k∉l.map (·.1)->f k=0)(E:l.length<=N)
 (h:Hu enc o' (Lr a x l)) (I:QP u x q) (e:K a) (H:Sz q 12):D7 enc K u o' (Nh f a q) (N+1):=by
 refine⟨_,h,fun p hp=>?_,fun k e=>?_,A04 U1 oV⟩
 ·unfold Nh;rcases Ae0 z.nodup hp with rfl|⟨hp,t⟩
  ·grind
  grind
 rw[Aaq,not_or]at e;unfold Nh;rw[if_neg e.1];exact j k e.2
end
def KT {κ:Type}(_:κ):Prop:=True
def KO (k:Par×Par):Prop:=¬ 0<Bk k.1 k.2
theorem KO.pair (p q:Par):KO (Ay p q):=by
 unfold KO Ay;have e:=Et.sym p q;by_cases h:0<Bk p q
 ·grind
 grind
def Kk (m' u:PH)(v:Value)(F:CF)(N:Nat):Prop :=
 ∃ b a n c b' a' n' c' g1 g2 o1 o2,v=.agg #[.bool b,.slice a n c,.bool b',.slice a' n' c',.map (some g1),.map (some g2)]/\QP u (.agg #[.bool b,.slice a n c,.bool b',.slice a' n' c']) F.c/\g1≠g2/\m'=(PH.mt.upd g1 o1).upd g2 o2/\D7 Ap KT u o1 F.s N/\D7 prV KO u o2 F.t N
def R9 (u:PH)(v:Value)(F:CF)(N:Nat):Prop :=
 ∃ b a n c b' a' n' c' g1 g2 o1 o2,v=.agg #[.bool b,.slice a n c,.bool b',.slice a' n' c',.map (some g1),.map (some g2)]/\QP u (.agg #[.bool b,.slice a n c,.bool b',.slice a' n' c']) F.c/\u g1=some o1/\u g2=some o2/\D7 Ap KT u o1 F.s N/\D7 prV KO u o2 F.t N
def R9.mono {u t:PH}{v:Value}{F:CF}{N:Nat}(h:R9 u v F N)(j:PH.le u t):R9 t v F N:=by
 obtain⟨b,a,n,c,b',z,Q,C,g1,g2,R,T,e,E,H,I,J,L⟩:=h;exact⟨b,a,n,c,b',z,Q,C,g1,g2,R,T,e,E.mono j,j _ _ H,j _ _ I,J.mono j,L.mono j⟩
def Kk.grow {t u z:PH}{N:Nat}(h:Kk t u v F N)(j:PH.le u z):Kk t z v F N:=by
 obtain⟨b,a,n,c,b',C,R,E,g1,g2,T,U,e,H,I,J,L,Q⟩:=h;exact⟨b,a,n,c,b',C,R,E,g1,g2,T,U,e,H.mono j,I,J,L.mono j,Q.mono j⟩
def Kk.give {C u t:PH}{N:Nat}(h:Kk C u v F N)(j:PH.le u t)(z:PH.le C t):R9 t v F N:=by
 obtain⟨b,a,n,c,b',E,R,H,g1,g2,T,U,e,I,J,rfl,L,Q⟩:=h;exact⟨b,a,n,c,b',E,R,H,g1,g2,T,U,e,I.mono j,z _ _ (by rw[Ad _ _ J,Ab]),z _ _ (Ab _ _ _),L.mono j,Q.mono j⟩
def Kk.congr {z u:PH}{F j:CF}{N N':Nat}(h:Kk z u v F N)(e:F=j)(t:N<=N'):Kk z u v j N':=by
 subst e;obtain⟨b,a,n,c,b',C,R,E,g1,g2,T,U,e,H,I,J,L,Q⟩:=h;exact⟨b,a,n,c,b',C,R,E,g1,g2,T,U,e,H,I,J,L.up t,Q.up t⟩
def Sw {u:PH}{N:Nat}(h:R9 u v F N):∃ b a n c b' j z t g1 g2,v=.agg #[.bool b,.slice a n c,.bool b',.slice j z t,.map (some g1),.map (some g2)]:=by
 obtain⟨b,a,n,c,b',j,z,t,g1,g2,C,E,e,_⟩:=h;exact⟨b,a,n,c,b',j,z,t,g1,g2,e⟩
def Oe {C u:PH}{N:Nat}(h:Kk C u v F N):∃ b a n c b' j z t g1 g2,v=.agg #[.bool b,.slice a n c,.bool b',.slice j z t,.map (some g1),.map (some g2)]:=by
 obtain⟨b,a,n,c,b',j,z,t,g1,g2,E,H,e,_⟩:=h;exact⟨b,a,n,c,b',j,z,t,g1,g2,e⟩
def Jm {u:PH}{n:Int}(I:-9223372036854775807<=n)(J:n<=9223372036854775807):Ag prog 46 [zI n] u PH.mt fun v U T=>Kk T U v ⟨(n:Rat),fun _=>0,fun _=>0⟩ 0:=by
 refine Ag.o func46<|G.c call22 (P6 I J) ?_;intro X W V C;obtain⟨b,a,H,c,t,E,z,rfl,_⟩:=C.opn;refine G.mapMk kV ?_;intro g1 L Q;refine G.mapMk kV ?_;intro g2 h R;have j:g1≠g2:=fun e=>by subst e;rw[Ab]at h;cases h
 exact G.r (.agg #[.bool b,.slice a H c,zL,.slice t E z,.map (some g1),.map (some g2)]) ⟨b,a,H,c,false,t,E,z,g1,g2,_,_,rfl,C,j,rfl,D7.empty,D7.empty⟩
theorem Oi {u:PH}{g2:Option Nat}{o:Obj}{f:Par->Rat}{N:Nat}{a:Par}(h:D7 Ap KT u o f N)(L:QP u x q)(hq:SB q)(hf:SB (f a))(J:SB (q+f a)) :
 Ag prog 109 [.agg #[.bool y1,.slice y2.1 y2.2.1 y2.2.2,.bool y3,.slice y4.1 y4.2.1 y4.2.2,.map (some g),.map g2],Ap a,x] u (Pj g o) fun v u' m'=>∃ o',m'=Pj g o'/\D7 Ap KT u' o' (Nh f a (q+f a)) (N+1):=by
 obtain⟨l,j,t,I,T⟩:=id h;obtain⟨b,X,n,c,W,n',c',rfl,_⟩:=L.opn;refine Ag.o func109 ?_;cases hx':Ik a l with
 |none =>
  have a0:f a=0:=I a (M8.1 hx');have e0:q+f a=q:=by grind
  rw[e0]at J⊢;refine G.mapNot (et:=69) Bq fz g o l a kV kV (.inr (Ck _ _)) j hx'<|G.mapPut (et:=69) Bq g o l a (.agg #[.bool b,.slice X n c,zL,.slice W n' c']) kV kV (Ck _ _) j ?_;intro o' e;exact G.r (.tuple #[]) ⟨o',Dp _ _ _ _,D7.put j t I T e L trivial J.sz⟩
 |some xv =>
  obtain⟨U,_,_⟩:=t _ (O4 hx');obtain⟨Y,a1,n1,c1,z,Q,E,rfl,_⟩:=U.opn;refine G.mapHas (et:=69) Bq fz g o l a (.agg #[.bool Y,.slice a1 n1 c1,zL,.slice z Q E]) kV kV (.inr (Ck _ _)) j hx'<|G.c call26 (Pd L U (hq.sz.mono oV) (hf.sz.mono oV)) ?_;intro v1 u1 l1 V;obtain⟨Z,a2,n2,c2,C,R,H,rfl,_⟩:=V.opn;refine G.mapPut (et:=69) Bq g o l a (.agg #[.bool Z,.slice a2 n2 c2,zL,.slice C R H]) kV kV (Ck _ _) j ?_;intro o' e;exact G.r (.tuple #[]) ⟨o',Dp _ _ _ _,D7.put j (fun p hp=>⟨(t p hp).1.mono l1,(t p hp).2⟩) I T e V trivial J.sz⟩
theorem H7 {u:PH}{g1:Option Nat}{o:Obj}{f:Par×Par->Rat}{N:Nat}{p r:Par}(h:D7 prV KO u o f N)(E:QP u x q)(hq:SB q)(hf:SB (f (Ay p r)))(H:SB (q+f (Ay p r))) :
 Ag prog 110 [.agg #[.bool y1,.slice y2.1 y2.2.1 y2.2.2,.bool y3,.slice y4.1 y4.2.1 y4.2.2,.map g1,.map (some g)],Ap p,Ap r,x] u (Pj g o) fun v u' m'=>∃ o',m'=Pj g o'/\D7 prV KO u' o' (Nh f (Ay p r) (q+f (Ay p r))) (N+1):=by
 obtain⟨b,aa,n,c,a',n',c',rfl,_⟩:=E.opn;refine Ag.o func110 ?_;have V:=KO.pair p r;by_cases C:Bk r p<0
 ·have he:Ay p r=(r,p):=by unfold Ay;rw[if_pos ((Et.sym r p).1 C)]
  rw[he]at hf H V⊢;refine G.c call113 (Fp r p true (decide_eq_true C)) ?_;rintro v0 u0 Z rfl;obtain⟨l,t,z,R,W⟩:=h.mono Z;have E:=E.mono Z;cases hx':Ik (r,p) l with
  |none =>
   have a0:f (r,p)=0:=R _ (M8.1 hx');have e0:q+f (r,p)=q:=by grind
   rw[e0]at H⊢;refine G.buildArr 175 118 r p kV kV kV kV<|G.mapNot (et:=69) I1 fz g o l (r,p) kV kV (.inr (Ck _ _)) t hx'<|G.mapPut (et:=69) I1 g o l (r,p) (.agg #[.bool b,.slice aa n c,zL,.slice a' n' c']) kV kV (Ck _ _) t ?_;intro o' j;exact G.r (.tuple #[]) ⟨o',Dp _ _ _ _,D7.put t z R W j E V H.sz⟩
  |some xv =>
   obtain⟨X,_,_⟩:=z _ (O4 hx');obtain⟨b1,a1,n1,c1,I,T,L,rfl,_⟩:=X.opn;refine G.buildArr 175 118 r p kV kV kV kV<|G.mapHas (et:=69) I1 fz g o l (r,p) (.agg #[.bool b1,.slice a1 n1 c1,zL,.slice I T L]) kV kV (.inr (Ck _ _)) t hx'<|G.c call26 (Pd E X (hq.sz.mono oV) (hf.sz.mono oV)) ?_;intro v1 u1 l1 Y;obtain⟨b2,a2,n2,c2,J,U,Q,rfl,_⟩:=Y.opn;refine G.mapPut (et:=69) I1 g o l (r,p) (.agg #[.bool b2,.slice a2 n2 c2,zL,.slice J U Q]) kV kV (Ck _ _) t ?_;intro o' j;exact G.r (.tuple #[]) ⟨o',Dp _ _ _ _,D7.put t (fun p hp=>⟨(z p hp).1.mono l1,(z p hp).2⟩) R W j Y V H.sz⟩
 have he:Ay p r=(p,r):=by unfold Ay;rw[if_neg (fun e=>C ((Et.sym r p).2 e))]
 rw[he]at hf H V⊢;refine G.c call113 (Fp r p false (decide_eq_false C)) ?_;rintro v0 u0 Z rfl;obtain⟨l,t,z,R,W⟩:=h.mono Z;have E:=E.mono Z;cases hx':Ik (p,r) l with
 |none =>
  have a0:f (p,r)=0:=R _ (M8.1 hx');have e0:q+f (p,r)=q:=by grind
  rw[e0]at H⊢;refine G.buildArr 175 118 p r kV kV kV kV<|G.mapNot (et:=69) I1 fz g o l (p,r) kV kV (.inr (Ck _ _)) t hx'<|G.mapPut (et:=69) I1 g o l (p,r) (.agg #[.bool b,.slice aa n c,zL,.slice a' n' c']) kV kV (Ck _ _) t ?_;intro o' j;exact G.r (.tuple #[]) ⟨o',Dp _ _ _ _,D7.put t z R W j E V H.sz⟩
 |some xv =>
  obtain⟨X,_,_⟩:=z _ (O4 hx');obtain⟨b1,a1,n1,c1,I,T,L,rfl,_⟩:=X.opn;refine G.buildArr 175 118 p r kV kV kV kV<|G.mapHas (et:=69) I1 fz g o l (p,r) (.agg #[.bool b1,.slice a1 n1 c1,zL,.slice I T L]) kV kV (.inr (Ck _ _)) t hx'<|G.c call26 (Pd E X (hq.sz.mono oV) (hf.sz.mono oV)) ?_;intro v1 u1 l1 Y;obtain⟨b2,a2,n2,c2,J,U,Q,rfl,_⟩:=Y.opn;refine G.mapPut (et:=69) I1 g o l (p,r) (.agg #[.bool b2,.slice a2 n2 c2,zL,.slice J U Q]) kV kV (Ck _ _) t ?_;intro o' j;exact G.r (.tuple #[]) ⟨o',Dp _ _ _ _,D7.put t (fun p hp=>⟨(z p hp).1.mono l1,(z p hp).2⟩) R W j Y V H.sz⟩
end
section
variable {s:zB}{u:PH}{z:Int}
def Qe :Fn0 prog 222 [zE] u fun v _=>v=zL:=by
 refine Fn0.o func222<|G.w [] [48] fV<|G.c call258 (Ux (s:=[]) (p:=[45])) ?_;rintro j h e rfl;exact G.q (Lib.trimPrefix [] [45]) [] rfl<|G.r zL ⟨rfl,rfl⟩
def Ah0 :Fn0 prog 169 [zE] u fun v _=>v=zL:=by
 refine Fn0.o func169<|G.c call204 (Azn (T:=[]) mV) ?_;rintro C j e rfl;refine G.c call222 Qe ?_;rintro E m l2 rfl;refine G.c call222 Qe ?_;rintro F t h rfl;exact G.r zL ⟨rfl,rfl⟩
def Atf :Fn0 prog 216 [zE] u fun v _=>v=.tuple #[zE,zE,zL]:=by
 refine Fn0.o func216<|G.c call169 Ah0 ?_;rintro j h e rfl;exact G.r (.tuple #[zE,zE,zL]) ⟨rfl,rfl⟩
def Ahf :Fn0 prog 217 [zE] u fun v _=>v=.tuple #[zO,zL]:=by
 refine Fn0.o func217<|G.c call222 Qe ?_;rintro j h e rfl;exact G.r (.tuple #[zO,zL]) ⟨rfl,rfl⟩
def Ati {x:zB×Nat}(e:1<=x.2)(h:x.2<=3):Fn0 prog 158 [D9 x,zE] u fun v _=>v=zT:=by
 obtain⟨s,k⟩:=x;simp only at e h;refine Fn0.o func158 ?_;rcases (by omega:k=1\/k=2\/k=3) with rfl|rfl|rfl
 ·exact G.eT (1:Nat) 1<|G.q [] [] rfl<|G.r zT ⟨rfl,rfl⟩
 ·refine G.eF (2:Nat) 1<|G.eT (2:Nat) 2<|G.c call216 Atf ?_;rintro C m j rfl;refine G.c call217 Ahf ?_;rintro E t l2 rfl;exact G.q [] [] rfl<|G.r zT ⟨rfl,rfl⟩
 exact G.eF (3:Nat) 1<|G.eF (3:Nat) 2<|G.eT (3:Nat) 3<|G.q [] [] rfl<|G.r zT ⟨rfl,rfl⟩
def Afp :Lib.itoa z≠[]:=by
 by_cases h:z<0
 ·rw[N2 h];simp
 rw[Lib.itoa,if_neg h];exact Gk _
def Awl (h:z.natAbs<=1000000000):Fn0 prog 158 [D9 (s,1),zS (Lib.itoa z)] u fun v _=>v=zT:=by
 refine Fn0.o func158<|G.eT (1:Nat) 1<|G.w (Lib.itoa z) [] Afp<|G.c call215 (Afu h) ?_;rintro m j e rfl;exact G.r zT ⟨rfl,rfl⟩
def Awf {s t:zB}(h:Hn t=true):Fn0 prog 158 [D9 (s,3),zS t] u fun v _=>v=zT:=by
 refine Fn0.o func158<|G.eF (3:Nat) 1<|G.eF (3:Nat) 2<|G.eT (3:Nat) 3<|G.w t [] (fun e=>by rw[e]at h;cases h)<|G.c call218 (Asw h) ?_;rintro C m j rfl;exact G.r zT ⟨rfl,rfl⟩
end
section
variable {i k:Nat}{s:zB}
section rules
variable {P:Program} [A6 P] {fn:Func} {Post:Ce} {st:List KI×S} {u m:PH}
def G.convBU (e:TypeId)(l:zB)(b n c:Nat)(h:Aj P (adv P st)=.conv (some (.slice e)) (some .string) (.slice (zA b) n c))(T:P.underlying e=some (.int .u8))(W:n=l.length)
 (R:Hc u b 0 1 (Bm l)) (k:G P fn Post (nx (adv P st) (zS l)) u m):G P fn Post st u m:=by
 refine G.ask h mV (fun K o t w hp=>?_) k;obtain⟨s,d,X,C,I,J,E⟩:=Ln t;obtain⟨H,Y,F,pos,after,z⟩:=o;simp only at C;subst C;have V:=(hp (by simp[Hr,Acg E mV])).1;subst W;have:=run_convert_bytes_back (P:=P) w s d e ⟨b,0,none⟩ c l J T E (fun j U=>by
  have L:=R j (.int .u8 (l[j].toNat:Int)) (by simp[Bm,U]);have Q:=(L 0 (.int .u8 (l[j].toNat:Int)) (by simp[Value.cells])).cell V;rw[Ed];simpa using Q)
 simp[execOp,I,this]
end rules
def Zq (i:Nat):UInt8:=UInt8.ofNat (97+i)
def Wv (h:i<26):(Zq i).toNat=97+i:=by
 unfold Zq;rw[UInt8.toNat_ofNat'];omega
def S0 {u:PH}{p:zB}(hi:i<26)(hp:p.length<=1000):Fn0 prog 182 [zS p,zI i] u fun v _=>v=zS (p++[Zq i]):=by
 refine Fn0.o func182<|G.remZ (i:Int) 26 (i:Int) kV oV oV (by rw[A47 oV];omega)<|G.p 97 i (97+i:Nat)<|G.convI .i64 .u8 .i64 (97+i:Nat) ((97+i:Nat):Int) kV ?_ ?_
 ·simp only[IntKind.wrap,IntKind.signed,IntKind.bits];simp;omega
 have h : [Value.int .u8 ((97+i:Nat):Int)]=Bm [Zq i]:=by unfold Bm;rw[A2u,Wv hi];rfl
 refine G.B 5 1 1 (.int .u8 0) [.int .u8 ((97+i:Nat):Int)] (by rw[h];exact Mj _) ?_;intro g t j e;rw[h]at e;exact G.convBU 5 [Zq i] g 1 1 kV kV rfl e<|G.addS p [Zq i] kV gV<|G.r _ ⟨rfl,rfl⟩
def Ai7:zB:=[114,101,100]
def Qf:zB:=[103,114,101,101,110]
def Xg:zB:=[98,108,117,101]
def Ae7 (s:zB):Bool:=Hn s&&(s==Ai7||s==Qf||s==Xg)
def Azb (h:Ae7 s=true):Hn s=true:=by
 unfold Ae7 at h;rw[A1m]at h;exact h.1
def Avi (h:Ae7 s=true):s=Ai7\/s=Qf\/s=Xg:=by
 unfold Ae7 at h;simp only[A1m,A4b,beq_iff_eq]at h;rcases h.2 with (h|h)|h
 ·exact .inl h
 ·exact .inr (.inl h)
 exact .inr (.inr h)
def Rj (k:Nat)(s:zB):Prop:=s = []\/(k=3/\Hn s=true)\/(k=1/\∃ z:Int,z.natAbs<=1000000000/\s=Lib.itoa z)\/(k=2/\∃ q,SmW q/\s=Ae q)
def Zi (k:Nat)(s:zB):Prop:=s = []\/(k=3/\Ae7 s=true)\/(k=1/\∃ z:Int,z.natAbs<=1000000000/\s=Lib.itoa z)\/(k=2/\∃ q,SmR q/\s=Ae q)
def Zi.ok (h:Zi k s):Rj k s:=h.imp id (Or.imp (fun⟨e,h⟩=>⟨e,Azb h⟩) (Or.imp id fun⟨e,q,j,t⟩=>⟨e,q,j.w,t⟩))
def Gr {q:Rat}(h:Ae q=s)(e:SmR q):Zi 2 s:=.inr (.inr (.inr ⟨rfl,q,e,h.symm⟩))
def Tb {z:Int}(h:Lib.itoa z=s)(e:z.natAbs<=1000000000):Zi 1 s:=.inr (.inr (.inl ⟨rfl,z,e,h.symm⟩))
def Ant {u:PH}{s:Src}{ts:List Int}{x:zB×Nat}(h:J0 u s ts)(U:k<=s.n)(R:1<=x.2)(T:x.2<=3) :
 Ag prog 157 [s.ptr,D9 x] u (s.M k) fun v _ V=>∃ (t:zB) (Q:Nat),v=zS t/\Zi x.2 t/\Q<=s.n/\V=s.M Q:=by
 obtain⟨nm,H⟩:=x;simp only at R T⊢;refine Ag.o func157<|G.A call14 (I4 (n:=9) h U oV oV) ?_;rintro v1 u1 Z Y ⟨r,J,rfl,X,j,rfl⟩ _;rw[By];by_cases W:r=8
 ·exact G.eT r 8<|G.r zE ⟨[],J,rfl,.inl rfl,j,rfl⟩
 refine G.eF r 8 ?_;by_cases L:H=3
 ·subst L;refine G.eT (3:Nat) 3<|G.B 9 1 16 zE [zS Ai7,zS Qf,zS Xg] (G6 [Ai7,Qf,Xg]) ?_;intro g I l2 e;obtain⟨i,hi⟩:∃ i,i=r%3:=⟨_,rfl⟩;have C:i<3:=oV;refine G.remZ (r:Int) 3 (i:Int) kV oV oV (by rw[A47 oV];omega)<|G.a g 0 3 3 i 1 C ?_;obtain⟨t,E,F⟩:∃ t,ElP I g (0+i*1) (zS t)/\Ae7 t=true:=by
   rcases (by omega:i=0\/i=1\/i=2) with h|h|h
   ·rw[h];exact⟨Ai7,e 0 _ rfl,jV⟩
   ·rw[h];exact⟨Qf,e 1 _ rfl,jV⟩
   rw[h];exact⟨Xg,e 2 _ rfl,jV⟩
  exact G.g none E<|G.r (zS t) ⟨t,J,rfl,.inr (.inl ⟨rfl,F⟩),j,rfl⟩
 refine G.eF H 3 ?_;by_cases K:H=1
 ·subst K;refine G.eT (1:Nat) 1<|G.B 9 1 16 zE [zS [49],zS [50],zS [49,48]] (G6 [[49],[50],[49,48]]) ?_;intro g I l2 e;obtain⟨i,hi⟩:∃ i,i=r%3:=⟨_,rfl⟩;have C:i<3:=oV;refine G.remZ (r:Int) 3 (i:Int) kV oV oV (by rw[A47 oV];omega)<|G.a g 0 3 3 i 1 C ?_;obtain⟨t,E,F⟩:∃ t,ElP I g (0+i*1) (zS t)/\Zi 1 t:=by
   rcases (by omega:i=0\/i=1\/i=2) with h|h|h
   ·rw[h];exact⟨[49],e 0 _ rfl,Tb (z:=1) jV fV⟩
   ·rw[h];exact⟨[50],e 1 _ rfl,Tb (z:=2) jV fV⟩
   rw[h];exact⟨[49,48],e 2 _ rfl,Tb (z:=10) jV fV⟩
  exact G.g none E<|G.r (zS t) ⟨t,J,rfl,F,j,rfl⟩
 refine G.eF H 1 ?_;obtain rfl:H=2:=oV;refine G.B 9 1 16 zE [zS [48],zS [49],zS [45,50],zS [49,47,50],zS [51],zS [53,47,51],zS [49],zS [50]] (G6 [[48],[49],[45,50],[49,47,50],[51],[53,47,51],[49],[50]]) ?_;intro g I l2 e;refine G.a g 0 8 8 r 1 oV ?_;obtain⟨t,E,F⟩:∃ t,ElP I g (0+r*1) (zS t)/\Zi 2 t:=by
  rcases (by omega:r=0\/r=1\/r=2\/r=3\/r=4\/r=5\/r=6\/r=7) with h|h|h|h|h|h|h|h
  ·rw[h];exact⟨_,e 0 _ rfl,Gr (q:=0) jV ⟨jV,jV⟩⟩
  ·rw[h];exact⟨_,e 1 _ rfl,Gr (q:=1) jV ⟨jV,jV⟩⟩
  ·rw[h];exact⟨_,e 2 _ rfl,Gr (q:=-2) jV ⟨jV,jV⟩⟩
  ·rw[h];exact⟨_,e 3 _ rfl,Gr (q:=1/2) jV ⟨jV,jV⟩⟩
  ·rw[h];exact⟨_,e 4 _ rfl,Gr (q:=3) jV ⟨jV,jV⟩⟩
  ·rw[h];exact⟨_,e 5 _ rfl,Gr (q:=5/3) jV ⟨jV,jV⟩⟩
  ·rw[h];exact⟨_,e 6 _ rfl,Gr (q:=1) jV ⟨jV,jV⟩⟩
  rw[h];exact⟨_,e 7 _ rfl,Gr (q:=2) jV ⟨jV,jV⟩⟩
 exact G.g none E<|G.r (zS t) ⟨t,J,rfl,F,j,rfl⟩
end
def Ami {u:PH}{s:Src}{ts:List Int}{k:Nat}{v w x y:Value}{T:zC}(h:J0 u s ts)(hk:k<=s.n)(hT:Ac u v 2 (T.map D9))(hl:T.length<=1000)(a2:∀ a∈T,1<=a.2/\a.2<=3)(hw:∃ a n c,w=.slice a n c)(hx:∃ a n c,x=.slice a n c)(hy:∃ z:Int,y=zI z) :
 Ag prog 87 [s.ptr,.agg #[v,w,x,y]] u (s.M k) fun r u' m'=>∃ (ss:zW) (k':Nat),Ac u' r 1 (ss.map nmV)/\ss.length=T.length/\(∀ (i:Nat) (x:zB×Nat) (t:zB),T[i]?=some x->ss[i]?=some t->Zi x.2 t)/\k'<=s.n/\m'=s.M k':=by
 obtain⟨a,c,rfl⟩:=hT.opn;obtain⟨wa,wn,wc,rfl⟩:=hw;obtain⟨xa,xn,xc,rfl⟩:=hx;obtain⟨z,rfl⟩:=hy;rw[A03]at hT⊢;refine Ag.o func87<|G.l (ι:=Nat×Nat×zW×(zP×Nat)) (fun i=>[(0,.v s.ptr),(5,sV i.2.2.2.1 i.2.2.1.length i.2.2.2.2),(9,sV a T.length c),(10,iV T.length),(11,iV i.1)]) (fun _=>[])
  (fun i u' m'=>i.1<=T.length/\i.2.1<=s.n/\i.2.2.1.length=i.1/\(∀ (j:Nat) (x:zB×Nat) (t:zB),T[j]?=some x->i.2.2.1[j]?=some t->Zi x.2 t)/\Bag m' [s.arr i.2.1,Ajq i.2.2.2.1 i.2.2.2.2 i.2.2.1])
  (fun i=>T.length-i.1) (0,k,[],(none,0))
  ⟨A1t _,hk,rfl,fun j x t _ ht=>by simp at ht,s.bag0 k ⟨PH.mt,Af.nil _ _ _,trivial⟩⟩ ?_
 rintro J ⟨i,k1,ss,⟨na,nc⟩⟩ hJ u1 m1 l1 ⟨hi,Q,U,V,E⟩;simp only at hi Q U V E hJ;obtain⟨m0,Y,hL⟩:=E;obtain⟨rfl,P⟩:=Src.split Y;by_cases R:i<T.length
 ·refine G.lT i T.length ?_;have I:T[i]?=some T[i]:=A01 R;obtain⟨F,H⟩:=a2 T[i] (A09 R);obtain⟨ba,oa,rfl,ea⟩:=Ac.at' (hT.mono l1) (j:=i) (e:=D9 T[i]) (by simp[I]);generalize T[i]=q at ea I F H;refine G.N T.length c R ea<|G.D call157 (Src.apart P) (Ant (x:=q) (h.mono l1) Q F H) ?_;rintro v2 u2 m2 l2 ⟨t,k2,rfl,hv,a1,rfl⟩ _;refine G.B 9 1 16 zE [zS t] (G6 [t]) ?_;intro g3 u3 l3 e3;have K:Bag (m0.or (s.M k2)) [s.arr k2,Ajq na nc ss]:=⟨m0,Src.at P,hL⟩;obtain⟨mm,Z,X⟩:=K.focus 1 rfl;rw[Ak3]at Z;refine G.k 9 1 16 zE mm (ss.map nmV) [zS t] (.slice na ss.length nc) g3 0 1 1 Z e3 (G6 [t]) ?_;intro v4 m4 C;rw[show ss.map nmV++[zS t]=(ss++[t]).map nmV by rw[A1i];rfl]at C;obtain⟨a4,c4,rfl⟩:=C.shape;rw[A03]at C⊢;have L:=X (Ajq a4 c4 (ss++[t])) m4 C;refine G.i i<|G.b (hJ (i+1,k2,ss++[t],(a4,c4)) _ _ _ cV ((l1.trans l2).trans l3) ⟨dV,a1,by dsimp only;simp[U],?_,L⟩ dV);intro j x' t' W m;dsimp only at m;rcases A2e j ss.length with hj|hj
  ·rw[A1r hj]at m;exact V j x' t' W m
  rw[A18 hj]at m;have a0:j-ss.length=0:=by
   obtain⟨h',_⟩:=A05.1 m;simp at h';omega
  rw[a0]at m;obtain rfl:j=i:=oV;rw[I]at W;cases W;simp at m;subst m;exact hv
 obtain rfl:i=T.length:=oV;refine G.lF T.length T.length<|G.giveP (ma:=m0) (sm:=s.M k1) kV rfl (Src.apart P) (s.h0 k k1) ?_;intro u2 l2 hm;exact G.r (.slice na ss.length nc) ⟨ss,k1,hL.list hm 0 rfl,U,V,Q,rfl⟩
section
variable {C:CF}{F:List Al}{a i:Nat}{f:Al}{lab:Int}{p:Par}{q:Rat}{ss:zW}{w:zB}
structure CF.One (F:CF):Prop where
 c:F.c=1
 t:∀ k,F.t k=if 0<Bk k.1 k.2 then 0 else F.s k.1*F.s k.2
theorem CF.One.num:(CF.num 1).One:=⟨rfl,fun k=>by
 show (0:Rat)=if 0<Bk k.1 k.2 then 0 else (0:Rat)*0
 split
 ·rfl
 grind⟩
def Axz (p:Par)(q:Rat)(k:Par):(CF.one1 p q).s k=if k=p then q else 0:=rfl
theorem CF.One.one1 (p:Par)(q:Rat):(CF.one1 p q).One:=⟨rfl,fun k=>by
 show (if k=(p,p) then q*q else 0)=if 0<Bk k.1 k.2 then 0 else (if k.1=p then q else 0)*(if k.2=p then q else 0)
 obtain⟨x,y⟩:=k;by_cases h:(x,y)=(p,p)
 ·obtain⟨m,t⟩:=Prod.mk.inj h;subst t;rw[m];have:=Et.refl y;rw[if_pos rfl,if_neg (by simp only;omega)];simp
 rw[if_neg h];split
 ·rfl
 by_cases j:x=p
 ·have u:y≠p:=fun e=>h (by rw[j,e]);simp only[u,if_false];grind
 simp only[j,if_false];grind⟩
theorem CF.One.mul {F G:CF}(hF:F.One)(e:G.One):(F.mul G).One/\∀ p,(F.mul G).s p=F.s p+G.s p:=by
 have h:∀ p,(F.mul G).s p=F.s p+G.s p:=fun p=>by
  show G.s p*F.c+F.s p*G.c=_;rw[hF.c,e.c];grind
 refine⟨⟨?_,fun k=>?_⟩,h⟩
 ·show F.c*G.c=1;rw[hF.c,e.c];decide +kernel
 rw[h,h];show G.t k*F.c+F.t k*G.c+I2 F G k=_;rw[hF.c,e.c,hF.t,e.t];unfold I2;split
 ·grind
 split
 ·rename_i he;rw[<-he];grind
 grind
abbrev LF:Type:=Option (Option (Par×Rat))
def LF.cf:LF->CF
 |none=>CF.num 0
 |some none=>CF.num 1
 |some (some x)=>CF.one1 x.1 x.2
def Iv (C:CF)(L:List LF):CF:=L.foldl (fun c y=>c.mul y.cf) C
def Aa0 (C:CF)(L:List LF)(x:LF):Iv C (L++[x])=(Iv C L).mul x.cf:=by unfold Iv;rw[A5w];rfl
def Aqb (F:CF):(CF.num 0).mul F=CF.num 0:=by
 rw[CF.mul_comm];exact CF.mul_zero F
def Aae:∀ L,Iv (CF.num 0) L=CF.num 0
 |[]=>rfl
 |x::L=>by
  unfold Iv;rw[A6i,Aqb];exact Aae L
def Am2 {L:List LF}(h:none∈L):Iv C L=CF.num 0:=by
 obtain⟨A,B,rfl⟩:=A6k h;unfold Iv;rw[A5w,A6i];have:(List.foldl (fun c (y:LF)=>c.mul (LF.cf y)) C A).mul (LF.cf none)=CF.num 0:=CF.mul_zero _;rw[this];exact Aae B
def LF.one {x:LF}(h:x≠none):x.cf.One:=by
 match x,h with
 |some none,_=>exact CF.One.num
 |some (some x),_=>exact CF.One.one1 _ _
def We:∀ {L:List LF} {C:CF},C.One->none∉L->(Iv C L).One
 |[],C,h,_=>h
 |x::L,C,h,hn=>by
  have j:x≠none:=fun e=>hn (by rw[e];exact A4l ..);unfold Iv;rw[A6i];exact We (h.mul (LF.one j)).1 fun e=>hn (A2f _ e)
theorem Acr {p:Par}:∀ {L:List LF} {C:CF},C.One->none∉L->(∀ q,some (some (p,q))∉L)->(Iv C L).s p=C.s p
 |[],C,h,_,_=>rfl
 |x::L,C,h,hn,hp=>by
  have m:x≠none:=fun e=>hn (by rw[e];exact A4l ..);have j:=h.mul (LF.one m);unfold Iv;rw[A6i];have:=Acr (p:=p) j.1 (fun e=>hn (A2f _ e)) fun q e=>hp q (A2f _ e);unfold Iv at this;rw[this,j.2];have t:x.cf.s p=0:=by
   match x,m,hp with
   |some none,_,_=>rfl
   |some (some (p',q)),_,hp =>
    show (if p=p' then q else 0)=0;rw[if_neg fun e=>hp q (by rw[e];exact A4l ..)]
  rw[t];grind
theorem Av3 {L:List LF}(h:C.One)(R:none∉L)(X:C.s p=0)(V:L[a]?=some (some (some (p,q))))(Q:∀ b m,L[b]?=some (some (some (p,m)))->b=a):(Iv C L).s p=q:=by
 obtain⟨W,E⟩:=A05.1 V;have e:L=L.take a++some (some (p,q))::L.drop (a+1):=by
  rw[<-E,List.getElem_cons_drop,A4h]
 have u:none∉L.take a:=fun t=>R (A27 t);have I:none∉L.drop (a+1):=fun t=>R (A3x t);have J:∀ m,some (some (p,m))∉L.take a:=fun m t=>by
  obtain⟨b,H,j⟩:=A2y t;rw[A1e]at H;rw[A7w]at j;have:=Q b m (by rw[A01 oV,j]);omega
 have K:∀ m,some (some (p,m))∉L.drop (a+1):=fun m t=>by
  obtain⟨b,H,j⟩:=A2y t;rw[A4y]at H;rw[List.getElem_drop]at j;have:=Q (a+1+b) m (by rw[A01 oV,j]);omega
 rw[e];have T:=Acr (p:=p) h u J;have z:=We h u;have P:=z.mul (CF.One.one1 p q);have U:=Acr (p:=p) P.1 I K;have:Iv C (L.take a++some (some (p,q))::L.drop (a+1))=Iv ((Iv C (L.take a)).mul (CF.one1 p q)) (L.drop (a+1)):=by
  unfold Iv;rw[A5w,A6i];rfl
 rw[this,U,P.2,T,X,Axz,if_pos rfl];grind
noncomputable def Lk (t:zB):Rat:=open Classical in if h:∃ q,SmW q/\t=Ae q then h.choose else 0
def Aa7 {t:zB}(h:∃ q,SmW q/\t=Ae q):SmW (Lk t)/\Ae (Lk t)=t:=by
 unfold Lk;rw[dif_pos h];exact⟨h.choose_spec.1,h.choose_spec.2.symm⟩
noncomputable def I3 (i:Nat)(f:Al)(w:zB):LF:=if f.2.1=2 then some (some (((i:Int),w),1)) else if w = [] then (if f.2.2=1 then none else some none) else some (some (((i:Int),[]),Lk w))
noncomputable def Sy (w:zB):LF:=if w = [] then none else some (some ((-1,[]),Lk w))
noncomputable def Gm (F:List Al)(lab:Int)(a:Nat)(w:zB):LF:=if (a:Int)=lab then Sy w else match F.findIdx? (fun f=>f.1==a) with|some k=>I3 k (F.getD k (0,0,0)) w|none=>some none
noncomputable def Fh (F:List Al)(lab:Int)(ss:zW):List LF:=ss.mapIdx (Gm F lab)
def Hg (h:ss[a]?=some w):(Fh F lab ss)[a]?=some (Gm F lab a w):=by
 unfold Fh;rw[A91,h];rfl
def G3 :(Fh F lab ss).length=ss.length:=by unfold Fh;simp
def Aq0 (m:(F.map (·.1)).Nodup)(h:F[i]?=some f):F.findIdx? (fun g=>g.1==f.1)=some i:=by
 obtain⟨hi,rfl⟩:=A05.1 h;refine A52.2 ⟨hi,mV,fun j t=>?_⟩;simp only[beq_iff_eq];intro e;have:=(A9e (xs:=F.map (·.1)) (h₀:=by rw[A03];omega) (h₁:=by rw[A03];omega) (i:=j) (j:=i) m).1 (by rw[A3v,A3v];exact e);omega
def Zu (j:(F.map (·.1)).Nodup)(e:F[i]?=some f)(h:(f.1:Int)≠lab):Gm F lab f.1 w=I3 i f w:=by
 unfold Gm;rw[if_neg h,Aq0 j e];simp[A02,e]
def Gn (h:(a:Int)≠lab):Gm F lab a w=some none\/∃ (i:Nat) (f:Al),F[i]?=some f/\f.1=a/\Gm F lab a w=I3 i f w:=by
 unfold Gm;rw[if_neg h];cases hx:F.findIdx? (fun f=>f.1==a) with
 |none=>exact .inl rfl
 |some k =>
  obtain⟨e,j,_⟩:=A52.1 hx;right;refine⟨k,F[k],A01 e,by simpa using j,?_⟩;simp[A02,A01 e]
def Aoa (K:-1<=lab){a b:Nat}{q J:Rat}(j:(Fh F lab ss)[a]?=some (some (some (p,q))))(E:(Fh F lab ss)[b]?=some (some (some (p,J)))):b=a:=by
 have key:∀ {a:Nat} {q:Rat},(Fh F lab ss)[a]?=some (some (some (p,q)))->((a:Int)=lab/\p.1 = -1)\/∃ (i:Nat) (f:Al),F[i]?=some f/\f.1=a/\p.1=(i:Int):=by
  intro a q j;unfold Fh at j;rw[A91]at j;cases hw:ss[a]? with
  |none=>rw[hw]at j;cases j
  |some w =>
   rw[hw]at j;simp only[A4c,A1f]at j;by_cases h:(a:Int)=lab
   ·left;unfold Gm Sy at j;rw[if_pos h]at j;split at j
    ·cases j
    cases j;exact⟨h,rfl⟩
   right;rcases Gn (F:=F) (w:=w) h with e|⟨i,f,m,t,z⟩
   ·rw[e]at j;cases j
   rw[z]at j;refine⟨i,f,m,t,?_⟩;unfold I3 at j;split at j
   ·cases j;rfl
   split at j
   ·split at j<;>cases j
   cases j;rfl
 rcases key j with ⟨m,t⟩|⟨i,f,m,t,z⟩<;>rcases key E with ⟨u,I⟩|⟨H,f',u,I,L⟩
 ·omega
 ·omega
 ·omega
 obtain rfl:H=i:=oV;rw[m]at u;cases u;omega
end
section
variable {q:Rat}{t:zB}{x:LF}
def My {m:PH}{b:Nat}{t:TypeId}{xs:zV}{e:Value}(u:m b=some (.cells xs.toArray t (0,0)))(j:e.cells=xs.toArray):ElP m b 0 e:=fun i x h=>by
 refine⟨_,_,_,u,?_⟩;rw[j]at h;simpa using h
def SmW.dat (h:SmW q):Dat q:=⟨by have:=h.num;omega,h.le⟩
def SmW.sb (h:SmW q):SB q:=h.dn.small oV (pw jV)
def SmW.sb2 (h:SmW q):SB (q*q):=(h.dn.mul h.dn).small oV (pw jV)
def I7:SmW 1:=⟨jV,jV⟩
def LF.Small:LF->Prop
 |some (some x)=>SmW x.2/\PV x.1
 |_=>True
theorem LF.Small.cfd (h:x.Small):CFD 2 343731600 x.cf:=by
 match x,h with
 |none,_=>exact CFD.count (Dn.zero _ _)
 |some none,_=>exact CFD.count ⟨144,jV,fV⟩
 |some (some x),h =>
  have e:Dn 2 343731600 x.2:=by
   have:=h.1.dn.mul (show Dn 1 18540 1 from⟨12,jV,fV⟩);rw[show x.2*1=x.2 by grind]at this;exact this.mono oV
  exact Ao6 ⟨144,jV,fV⟩ e ((h.1.dn.mul h.1.dn).mono oV)
def LF.Small.cfv (h:x.Small):CFV x.cf:=by
 match x,h with
 |none,_=>exact CFV.count 0
 |some none,_=>exact CFV.count 1
 |some (some x),h=>exact Ar0 h.2
def R2 {L:List LF}(h:∀ x∈L,x.Small):∀ i,i<=L.length->CFD (2*i) (1374926400^i) (Iv (CF.num 1) (L.take i))/\CFV (Iv (CF.num 1) (L.take i))
 |0,_=>⟨CFD.count ⟨1,jV,fV⟩,CFV.count 1⟩
 |i+1,hi=>by
  obtain⟨m,u⟩:=R2 h i oV;have j:=h _ (A09 (show i<L.length by omega));have e:L.take (i+1)=L.take i++[L[i]]:=by rw[A1n,A01 oV];rfl
  rw[e,Aa0];refine⟨?_,u.mul j.cfv⟩;have:=m.mul j.cfd;rw[show 2*(i+1)=2*i+2 by omega];exact this.mono (by rw[A2d];omega)
def Ax7 {u:PH}{x:zB×Nat}(e:1<=x.2)(h:x.2<=3)(m:Rj x.2 t):Fn0 prog 158 [D9 x,zS t] u fun v _=>v=zT:=by
 obtain⟨s,k⟩:=x;rcases m with rfl|⟨rfl,C⟩|⟨rfl,z,E,rfl⟩|⟨rfl,q,j,rfl⟩
 ·exact Ati e h
 ·exact Awf C
 ·exact Awl E
 exact Awh j.dat
def Hz (h:Rj 2 t)(j:t≠[]):SmW (Lk t)/\Ae (Lk t)=t:=by
 rcases h with e|⟨e,_⟩|⟨e,_⟩|⟨_,q,m,e⟩
 ·exact absurd e j
 ·omega
 ·omega
 exact Aa7 ⟨q,m,e⟩
def Ahh {T:zC}{F:List Al}{lab:Int}{a:Nat}{x:zB×Nat}(hF:Da T F lab)(u:∀ l:Nat,lab=(l:Int)->∃ n,T[l]?=some (n,2))(L:F.length<=8)(C:T[a]?=some x)(z:Rj x.2 t):(Gm F lab a t).Small:=by
 by_cases h:(a:Int)=lab
 ·obtain⟨n,H⟩:=u a h.symm;rw[C]at H;cases H;unfold Gm Sy;rw[if_pos h];by_cases m:t = []
  ·rw[if_pos m];trivial
  rw[if_neg m];exact⟨(Hz z m).1,⟨by show (-1:Int)<=-1;omega,by show (-1:Int)<=1000;omega,.inl rfl⟩⟩
 rcases Gn (F:=F) (w:=t) h with e|⟨i,f,E,rfl,K⟩
 ·rw[e];trivial
 rw[K];obtain⟨hi,_⟩:=A05.1 E;obtain⟨n,k,P,j,_⟩:=hF.ok f (A1k E);rw[P]at C;cases C;unfold I3;rcases j with ⟨I,J,R⟩|⟨I,J,R⟩
 ·rw[if_neg oV];by_cases m:t = []
  ·rw[if_pos m];split<;>trivial
  rw[if_neg m];subst J;exact⟨(Hz z m).1,⟨by show (-1:Int)<=(i:Int);omega,by show (i:Int)<=1000;omega,.inl rfl⟩⟩
 rw[if_pos I];refine⟨I7,⟨by show (-1:Int)<=(i:Int);omega,by show (i:Int)<=1000;omega,?_⟩⟩;rcases z with e|⟨_,Q⟩|⟨e,_⟩|⟨e,_⟩
 ·exact .inl e
 ·exact .inr Q
 ·omega
 omega
end
section
variable {F:List Al}{T:zC}{f:Al}{i:Nat}{lab:Int}{ss:zW}
structure Bw (T:zC)(ss:zW):Prop where
 len:ss.length=T.length
 val:∀ (i:Nat) (x:zB×Nat) (t:zB),T[i]?=some x->ss[i]?=some t->Rj x.2 t
def Bw.at (h:Bw T ss)(hi:i<ss.length):∃ x,T[i]?=some x/\Rj x.2 ss[i]:=by
 have:=h.len;have e:T[i]?=some (T[i]'oV):=A01 oV;exact⟨_,e,h.val i _ _ e (A01 hi)⟩
def Pp (ss:zW)(f:Al):Bool:=f.2.1==1&&f.2.2==1&&(ss.getD f.1 []).isEmpty
def G4 (F:List Al)(lab:Int)(ss:zW):Bool:=!(decide (0<=lab)&&(ss.getD lab.toNat []).isEmpty) && !F.any (Pp ss)
def Vz (hF:Da T F lab)(j:Bw T ss)(e:f∈F):f.1<ss.length:=by
 obtain⟨n,k,h,_⟩:=hF.ok f e;obtain⟨m,_⟩:=A05.1 h;have:=j.len;omega
def Qq (hF:Da T F lab)(t:Bw T ss)(h:F[i]?=some f):(Fh F lab ss)[f.1]?=some (I3 i f (ss.getD f.1 [])):=by
 have m:=A1k h;have j:=Vz hF t m;obtain⟨n,k,_,_,e⟩:=hF.ok f m;rw[Hg (w:=ss[f.1]) (A01 j),Zu hF.nodup h e];simp[A02,A01 j]
def Amw {l:Nat}(e:lab=(l:Int))(h:l<ss.length):(Fh F lab ss)[l]?=some (Sy (ss.getD l [])):=by
 rw[Hg (w:=ss[l]) (A01 h)];unfold Gm;rw[if_pos e.symm];simp[A02,A01 h]
def Acl (hF:Da T F lab)(W:Bw T ss)(Z:-1<=lab)(R:∀ l:Nat,lab=(l:Int)->l<ss.length):G4 F lab ss=true↔none∉Fh F lab ss:=by
 unfold G4;simp only[A1m,A3w,A8b,decide_eq_false_iff_not,Int.not_le];constructor
 ·rintro⟨a,b⟩ hm;obtain⟨i,hi,E⟩:=A2y hm;have m:(Fh F lab ss)[i]?=some none:=by rw[A01 hi,E]
  have u:i<ss.length:=by rw[G3]at hi;exact hi
  rw[Hg (w:=ss[i]) (A01 u)]at m;simp only[A1f]at m;by_cases t:(i:Int)=lab
  ·unfold Gm Sy at m;rw[if_pos t]at m;split at m
   ·rename_i he;rcases a with a|a
    ·omega
    rw[<-t]at a;simp[A02,A01 u,he]at a
   cases m
  rcases Gn (F:=F) (w:=ss[i]) t with e|⟨j,f,g1,g2,Q⟩
  ·rw[e]at m;cases m
  rw[Q]at m;unfold I3 at m;split at m
  ·cases m
  rename_i k2;split at m
  ·rename_i he;split at m
   ·rename_i k3;have z:=A1k g1;obtain⟨n,k,_,V,_⟩:=hF.ok f z;have X:f.2.1=1:=by rcases V with ⟨h,_⟩|⟨h,_⟩;exact h;exact absurd h k2
    have:Pp ss f=true:=by
     unfold Pp;rw[g2];simp[X,k3,A02,A01 u,he]
    have J:=A6p.1 b f z;rw[this]at J;exact absurd rfl J
   cases m
  cases m
 intro K;constructor
 ·rcases Bas (lab<0) with h|h
  ·exact .inl h
  right;obtain⟨l,H⟩:∃ l:Nat,lab=(l:Int):=⟨lab.toNat,oV⟩;have I:=R l H;have:=Amw (F:=F) H I;rw[H,A23];cases he:ss.getD l [] with
  |cons x y=>rfl
  |nil =>
   rw[he]at this;exact absurd (A1k this) (by simpa[Sy] using K)
 rw[A6p];intro f U C;obtain⟨i,hi,rfl⟩:=A2y U;have:=Qq hF W (A01 hi);unfold Pp at C;simp only[A1m,beq_iff_eq,List.isEmpty_iff]at C;obtain⟨⟨Y,L⟩,P⟩:=C;rw[P]at this;refine K ?_;have e:I3 i F[i] []=none:=by unfold I3;rw[if_neg oV,if_pos rfl,if_pos L]
 rw[e]at this;exact A1k this
noncomputable def cfT (F:List Al)(lab:Int)(ss:zW):CF:=Iv (CF.num 1) (Fh F lab ss)
def Ajl (hF:Da T F lab)(t:Bw T ss)(j:-1<=lab)(m:∀ l:Nat,lab=(l:Int)->l<ss.length)(e:G4 F lab ss=false):cfT F lab ss=CF.num 0:=by
 refine Am2 ?_;rcases Bas (none∈Fh F lab ss) with h|h
 ·exact h
 rw[(Acl hF t j m).2 h]at e;cases e
def Alr (hF:Da T F lab)(m:Bw T ss)(e:-1<=lab)(h:∀ l:Nat,lab=(l:Int)->l<ss.length)(j:G4 F lab ss=true):(cfT F lab ss).One :=
 We CF.One.num ((Acl hF m e h).1 j)
def Tv (hF:Da T F lab)(u:Bw T ss)(e:-1<=lab)(j:∀ l:Nat,lab=(l:Int)->l<ss.length)(t:G4 F lab ss=true){a:Nat}{p:Par}{q:Rat}(h:(Fh F lab ss)[a]?=some (some (some (p,q)))):(cfT F lab ss).s p=q :=
 Av3 CF.One.num ((Acl hF u e j).1 t) rfl h fun b z m=>Aoa e h m
def N0 {u:PH}{R:List Br}(ok:Bl u T R F lab)(h:Bw T ss):∀ x∈Fh F lab ss,x.Small:=fun x m=>by
 obtain⟨i,hi,rfl⟩:=A2y m;rw[G3]at hi;have e:=Hg (F:=F) (lab:=lab) (w:=ss[i]) (A01 hi);rw[A01 (by rw[G3];exact hi),A1f]at e;rw[e];obtain⟨y,t,j⟩:=h.at hi;exact Ahh ok.feat ok.l2 ok.f2 t j
end
end Go.Proofs.YtemmheaocgmebaaGreatDoor
