/- Parts of one proof, joined by a program. -/
import Derived.Test.YtdgncafgglafjaaGreatDoorQ06
import Derived.Shelf.SlSortCmp.NoneTotal
import Derived.RangeFuncSeq
import Derived.RangeFuncGives
import Derived.RangeFuncIn
import Derived.OrdersIn
import Derived.OwnWalkIn
set_option linter.defProp false
set_option linter.unusedVariables false
set_option linter.unusedSimpArgs false
set_option linter.unusedSectionVars false
set_option maxHeartbeats 16000000
namespace Go.Proofs.YtdgncafgglafjaaGreatDoor
open Go.Proofs.Tryz
open Go.RowKit Go.MapKept
def A3c:=@List.pairwise_iff_getElem
def A83:=@List.getElem_inj
def A5w:=@List.findIdx?_eq_some_iff_getElem
def A2a:=@List.getElem_of_mem
def A7p:=@List.getElem_take
def A3u:=@List.getElem_map
def A8k:=@List.map_replicate
def A1q:=@List.not_mem_nil
def A6m:=@List.foldl_append
def A9t:=@List.getElem?_mapIdx
def Baf:=@Classical.em
def A9n:=@List.mem_append_right
section
open Go.RowKit Go.Sort
section
variable {κ:Type} {c:κ->κ->Int}
def Ord.swo (h:Ord c):SWO (ltOf c) where
 irrefl x:=by simp[ltOf,h.irr x]
 trans x y z h1 h2:=by
  simp only[ltOf,decide_eq_true_eq]at *
  exact h.trans x y z h1 h2
 ntrans x y z h1 h2:=by
  simp only[ltOf,decide_eq_false_iff_not]at *
  intro d;rcases A4b (c x y) 0 with e|e|e
  ·exact h1 e
  ·rw[h.eq x y e]at d;exact h2 d
  exact h2 (h.trans y x z ((h.sym y x).2 e) d)
def Ord.tot (h:Ord c)(x y:κ)(d:ltOf c x y=false)(g:ltOf c y x=false):x=y:=by
 simp only[ltOf,decide_eq_false_iff_not]at *
 rcases A4b (c x y) 0 with e|e|e
 ·exact absurd e d
 ·exact h.eq x y e
 exact absurd ((h.sym y x).2 e) g
def E5 (c:κ->κ->Int)(l:List κ):List κ:=l.mergeSort fun x y=>!(ltOf c) y x
def Hx (l:List κ):(E5 c l).Perm l:=List.mergeSort_perm _ _
def Tv (h:Ord c){l:List κ}(m:l.Nodup):D5 c (E5 c l):=by
 have g:(E5 c l).Pairwise fun a b=>(!(ltOf c) b a)=true:=by
  refine List.pairwise_mergeSort (fun a b d g j=>?_) (fun a b=>?_) l
  ·simp only[A3k]at g j⊢;exact h.swo.ntrans d b a j g
  simp only[A33,A3k];cases e:ltOf c b a with
  |false=>exact .inl rfl
  |true =>
   right;simp only[ltOf,decide_eq_true_eq,decide_eq_false_iff_not]at *
   have:=(h.sym b a).1 e;omega
 have j:(E5 c l).Nodup:=(Hx l).nodup_iff.2 m;refine (g.and j).imp fun {a b} ⟨e1,e2⟩=>?_;simp only[A3k,ltOf,decide_eq_false_iff_not]at e1;rcases A4b (c a b) 0 with e|e|e
 ·exact e
 ·exact absurd (h.eq a b e) e2
 exact absurd ((h.sym b a).2 e) e1
end
section
variable {κ:Type} [Inhabited κ] {enc:κ->List Value} {k:Nat}
def P8 (d:∀ x,(enc x).length=k):∀ (ss:List κ) (t:Nat),t<ss.length*k->(ss.flatMap enc)[t]?=some ((enc ss.toArray[t/k]!)[t%k]!)
 |[],t,h=>by simp at h
 |x::ss,t,h=>by
  have g:0<k:=by
   rcases A1p k with h0|h0
   ·rw[h0]at h;simp at h
   exact h0
  rw[A7n];by_cases e:t<k
  ·rw[A09 (by rw[d];exact e),A4i e,A52 e];have:t<(enc x).length:=by rw[d];exact e
   simp[getElem!_pos,this]
  rw[A1d (by rw[d];omega),d,P8 d ss (t-k) (by simp only[A1y,A1m]at h;omega)];have j:t/k=(t-k)/k+1:=by rw[Nat.div_eq_sub_div g oV]
  have m:t%k=(t-k)%k:=Nat.mod_eq_sub_mod oV;rw[j,m];simp
def Ane (z:∀ x,(enc x).length=k){W:World}{n:Nat}{e:TypeId}{d:Array Value}{ss:List κ}(h:W.heap[n]?=some (.cells d e (0,0)))(g:d.toList.take (ss.length*k)=ss.flatMap enc):HoldsK enc k W n 0 ss.toArray:=by
 intro t m;rw[size_flatK]at m;have j:t<ss.length*k:=by simpa using m
 have u:d[t]?=some ((flatK enc k ss.toArray)[t]!):=by
  rw[get_flatK enc k _ t m,<-P8 z ss t j,<-g,A3f,if_pos j,A6o]
 constructor
 ·simp[World.cell?,h,u]
 simp[World.frozen?,h]
end
end
section
open Go.RowKit Go.MapKept Go.Shelf Go.Sort
def Mh (x:Par):(Ce x).length=2:=rfl
def Kj (P:Program)(st:List KI×S):List KI×S:=match one P (Gr P 200 st).1 (Gr P 200 st).2 with|some st'=>st'|none=>st
section
variable {P:Program} [A6 P] {fn:Func} {Post:Ca} {st:List KI×S} {u m:PH}
def G.pastI (h:G P fn Post (Kj P st) u m):G P fn Post st u m:=by
 unfold Kj at h;split at h
 ·rename_i st' he;exact⟨Bct 200 st (O7 A6.mx he h.out)⟩
 exact h
def Fn0.weak {f:FuncId}{args:List Value}{R g:Value->PH->Prop}(h:Fn0 P f args u R)(F:∀ v d,R v d->g v d):Fn0 P f args u g:=fun w E=>Calls.mono (h w E) fun e w' ⟨v,d,H,j,n,t,z,C⟩=>⟨v,d,H,j,n,t,z,F _ _ C⟩
end
end
section
open Go.RowKit Go.MapKept Go.Shelf Go.Sort
end
def Af.le {m0 m:PH}{v:Value}{t:TypeId}{sz:Nat}{es:List Value}(h:Af m0 m v t sz es):PH.le m0 m:=by
 rcases h.2 with ⟨_,_,rfl⟩|⟨g,cap,rest,d,rfl,_⟩
 ·exact PH.le_refl _
 exact I9 _ d
def Gt (p:Par×Rat):Bm 3 [As p]:=fun e d=>by
 simp at d;subst d;exact⟨rfl,fun y g=>by simp[As,Value.cells]at g;rcases g with rfl|rfl|rfl<;>rfl⟩
def Ajw (p:(Par×Par)×Rat):Bm 5 [D6 p]:=fun e d=>by
 simp at d;subst d;exact⟨rfl,fun y g=>by simp[D6,Value.cells]at g;rcases g with rfl|rfl|rfl|rfl|rfl<;>rfl⟩
section
variable {i:Nat}{q:Rat}{s:List UInt8}{u:PH}{x:Par×Rat}
def Rw (h:q≠0):Ag q≠[48]:=by
 intro e;unfold Ag at e;split at e
 ·have:=H0 (e.trans Ew.symm);exact h (A4d.1 this)
 have:(47:UInt8)∈Lib.itoa q.num++47::Lib.itoa (q.den:Int):=mV;rw[e]at this;simp at this
def T9 (p q:Par)(r:Bool)(h:decide (Bf p q<0)=r):Fn0 prog 183 [An p,An q] u fun v _=>v=.bool r:=by
 refine Fn0.o func183<|G.c call160 (Ad8 p q) ?_;rintro g e d rfl;cases r with
 |true =>
  exact G.lT' (Bf p q) 0 (of_decide_eq_true h)<|G.r (.bool true) ⟨rfl,rfl⟩
 |false =>
  exact G.lF' (Bf p q) 0 (of_decide_eq_false h)<|G.r (.bool false) ⟨rfl,rfl⟩
def Aq1 (h:Tx q)(h0:q≠0):Fn0 prog 209 [.string (mkS (Ag q))] u fun v _=>v=.bool true:=by
 refine Fn0.o func209<|G.c call59 (Ge h) ?_;rintro g e d rfl;exact G.x (Ag q) [48] (Rw h0)<|G.r (.bool true) ⟨rfl,rfl⟩
theorem Aaq (h:Kh s=true):1<=s.length/\s.length<=12:=by
 unfold Kh at h;split at h
 ·cases h
 grind
theorem Xz (h:Kh s=true){c:UInt8}(d:s[i]?=some c):(97<=c.toNat/\c.toNat<=122)\/(i≠0/\(c.toNat=45\/(48<=c.toNat/\c.toNat<=57))):=by
 unfold Kh at h;split at h
 ·cases h
 simp only[Ax8]at h
 match i,d with
 |0,d=>grind
 |i+1,d=>grind
theorem Aoc (h:Kh s=true):Fn0 prog 190 [.string (mkS s)] u fun v _=>v=.bool true:=by
 obtain⟨F,H⟩:=Aaq h;refine Fn0.o func190<|G.convSB (some .string) 5 s kV kV kV ?_;intro U R O z;obtain⟨a,c,rfl⟩:=Ab.opn z;rw[Az]at z⊢;refine G.l (ι:=Nat) (fun i=>[(0,tV s),(7,sV a s.length c),(8,iV s.length),(9,iV i)]) (fun _=>[])
  (fun i Q L=>i<=s.length/\L=PH.mt) (fun i=>s.length-i) 0 ⟨oV,rfl⟩ ?_
 rintro J i t T P l2 ⟨N,rfl⟩;by_cases d:i<s.length
 ·refine G.lT i s.length ?_;have g:s[i]?=some s[i]:=A0i d;obtain⟨b,m,rfl,e⟩:=Ab.at' (z.mono l2) (j:=i) (e:=.int .u8 (s[i].toNat:Int)) (by simp[Bv,g]);have K:=Xz h g;generalize s[i].toNat=n at e K;refine G.a b m s.length c i 1 d<|G.lU none b (m+i*1) (.int .u8 (n:Int)) e ?_;by_cases I:97<=n/\n<=122
  ·exact G.cmpG .geq .u8 (n:Int) 97 true kV rfl (by simp[C8];omega)<|G.cmpG .leq .u8 (n:Int) 122 true kV rfl (by simp[C8];omega)<|G.i i<|G.b (t (i+1) _ _ _ cV l2 ⟨oV,rfl⟩ oV)
  by_cases E:97<=n
  ·grind
  refine G.cmpG .geq .u8 (n:Int) 97 false kV rfl (by simp[C8];omega)<|G.eF i 0 ?_;by_cases C:n=45
  ·exact G.cmpG .neq .u8 (n:Int) 45 false kV rfl (by simp[C8];omega)<|G.i i<|G.b (t (i+1) _ _ _ cV l2 ⟨oV,rfl⟩ oV)
  exact G.cmpG .neq .u8 (n:Int) 45 true kV rfl (by simp[C8];omega)<|G.cmpG .lss .u8 (n:Int) 48 false kV rfl (by simp[C8];omega)<|G.cmpG .gtr .u8 (n:Int) 57 false kV rfl (by simp[C8];omega)<|G.i i<|G.b (t (i+1) _ _ _ cV l2 ⟨oV,rfl⟩ oV)
 obtain rfl:i=s.length:=oV;exact G.lF s.length s.length<|G.hT s.length 1<|G.kT s.length 12<|G.r (.bool true) ⟨rfl,rfl⟩
def Ai4 {p:Par}(h:PV p):Fn0 prog 208 [An p] u fun v _=>v=.bool true:=by
 refine Fn0.o func208<|G.hT' p.1 (-1) (by have:=h.lo;omega) ?_;by_cases d:p.2 = []
 ·exact G.q p.2 [] d<|G.r (.bool true) ⟨rfl,rfl⟩
 refine G.w p.2 [] d<|G.c call190 (Aoc (h.cat.resolve_left d)) ?_;rintro j g e rfl;exact G.r (.bool true) ⟨rfl,rfl⟩
def Az4 (h:PV x.1)(d:Tx x.2)(h0:x.2≠0):Fn0 prog 207 [As x] u fun v _=>v=.bool false:=by
 refine Fn0.o func207<|G.c call208 (Ai4 h) ?_;rintro m g e rfl;refine G.c call209 (Aq1 d h0) ?_;rintro n j l2 rfl;exact G.r (.bool false) ⟨rfl,rfl⟩
def A0b {x:(Par×Par)×Rat}(h:PV x.1.1)(d:PV x.1.2)(g:¬ 0<Bf x.1.1 x.1.2)(j:Tx x.2)(h0:x.2≠0):Fn0 prog 211 [D6 x] u fun v _=>v=.bool false:=by
 refine Fn0.o func211<|G.c call208 (Ai4 h) ?_;rintro H z m rfl;refine G.c call208 (Ai4 d) ?_;rintro I C l2 rfl;refine G.c call183 (T9 x.1.2 x.1.1 false (decide_eq_false fun e=>g ((Dl.sym _ _).1 e))) ?_;rintro J E n rfl;refine G.c call209 (Aq1 j h0) ?_;rintro K F t rfl;exact G.r (.bool false) ⟨rfl,rfl⟩
def Aym {x y:Par×Rat}(h:Bf x.1 y.1<0):Fn0 prog 213 [As x,As y] u fun v _=>v=.bool true:=by
 refine Fn0.o func213<|G.c call183 (T9 x.1 y.1 true (decide_eq_true h)) ?_;rintro g e d rfl;exact G.r (.bool true) ⟨rfl,rfl⟩
def Axb {x y:(Par×Par)×Rat}(h:Nk x.1 y.1<0):Fn0 prog 215 [D6 x,D6 y] u fun v _=>v=.bool true:=by
 refine Fn0.o func215 ?_;by_cases d:Bf x.1.1 y.1.1<0
 ·refine G.c call183 (T9 x.1.1 y.1.1 true (decide_eq_true d)) ?_;rintro t n m rfl;exact G.r (.bool true) ⟨rfl,rfl⟩
 have g:Bf x.1.1 y.1.1=0/\Bf x.1.2 y.1.2<0:=by
  unfold Nk at h;split at h
  ·exact absurd h d
  rename_i e;exact⟨by simpa using e,h⟩
 have j:=Dl.eq _ _ g.1;refine G.c call183 (T9 x.1.1 y.1.1 false (decide_eq_false d)) ?_;rintro t n m rfl;refine G.eqAgg 78 #[.int .i64 x.1.1.1,.string (mkS x.1.1.2)] #[.int .i64 y.1.1.1,.string (mkS y.1.1.2)] true kV kV kV (fun w=>by rw[<-decide_eq_true j];exact Bo.eq x.1.1 y.1.1 w)<|G.c call183 (T9 x.1.2 y.1.2 true (decide_eq_true g.2)) ?_;rintro C z l2 rfl;exact G.r (.bool true) ⟨rfl,rfl⟩
def Avl {u:PH}{v:Value}{T:List (Par×Rat)}{fid:Nat}(h:Ab u v 3 (T.map As))(O:T.length<=1000000)
 (d:∀ args w,(callFunc fid args).run prog w=.ok (.enter fid args) w) (H:∀ p∈T,∀ t,PH.le u t->Fn0 prog fid [As p] t fun v _=>v=.bool false) :
 Fn0 prog 216 [v,.func (.func fid) #[] #[]] u fun L _=>L=.int .i64 (-1):=by
 obtain⟨a,c,rfl⟩:=h.opn;rw[A0k]at h⊢;refine Fn0.o func216<|G.l (ι:=Nat) (fun i=>[(0,sV a T.length c),(1,.v (.func (.func fid) #[] #[])),(7,iV T.length),(8,iV i)]) (fun _=>[])
  (fun i t I=>i<=T.length/\I=PH.mt) (fun i=>T.length-i) 0 ⟨oV,rfl⟩ ?_
 rintro J i F K P n ⟨N,rfl⟩;by_cases g:i<T.length
 ·refine G.lT i T.length ?_;have m:T[i]?=some T[i]:=A0i g;obtain⟨z,C,rfl,E⟩:=Ab.at' (h.mono n) (j:=i) (e:=As T[i]) (by simp[m]);refine G.a z C T.length c i 3 oV<|G.lU (some 3) z (C+i*3) (As T[i]) E<|G.call0 fid [As T[i]] kV d (H T[i] (A0y g) K n) ?_;rintro R Q l2 rfl;exact G.i i<|G.b (F (i+1) _ _ _ cV (n.trans l2) ⟨oV,rfl⟩ oV)
 obtain rfl:i=T.length:=oV;exact G.lF T.length T.length<|G.r (.int .i64 (-1)) ⟨rfl,rfl⟩
def Xa {u:PH}{v:Value}{T:List (Par×Rat)}{fid:Nat}(h:Ab u v 3 (T.map As))(j:T.length<=1000000)
 (d:∀ args w,(callFunc fid args).run prog w=.ok (.enter fid args) w) (g:∀ p∈T,∀ e,PH.le u e->Fn0 prog fid [As p] e fun v _=>v=.bool false) :
 Fn0 prog 155 [v,.func (.func fid) #[] #[]] u fun m _=>m=.bool false:=by
 refine Fn0.o func155<|G.c call216 (Avl h j d g) ?_;rintro z t n rfl;exact G.hF (-1) 0<|G.r (.bool false) ⟨rfl,rfl⟩
def Aee {u:PH}{v:Value}{T:List (Par×Rat)}{fid:Nat}(h:Ab u v 3 (T.map As))(R:T.length<=1000000)
 (d:∀ args w,(callFunc fid args).run prog w=.ok (.enter fid args) w) (L:∀ (i:Nat) x y,T[i]?=some x->T[i+1]?=some y->∀ E,Fn0 prog fid [As x,As y] E fun v _=>v=.bool true) :
 Fn0 prog 212 [v,.func (.func fid) #[] #[]] u fun P _=>P=.bool true:=by
 obtain⟨a,c,rfl⟩:=h.opn;rw[A0k]at h⊢;refine Fn0.o func212<|G.l (ι:=Nat) (fun i=>[(0,sV a T.length c),(1,.v (.func (.func fid) #[] #[])),(5,iV (i+1:Nat))]) (fun _=>[])
  (fun i E N=>i<=T.length/\N=PH.mt) (fun i=>T.length-i) 0 ⟨oV,rfl⟩ ?_
 rintro J i K O U C ⟨Q,rfl⟩;by_cases z:i+1<T.length
 ·refine G.lT (i+1:Nat) T.length ?_;have g:T[i]?=some T[i]:=A0i oV;have m:T[i+1]?=some T[i+1]:=A0i z;obtain⟨n,t,rfl,H⟩:=Ab.at' (h.mono C) (j:=i) (e:=As T[i]) (by simp[g]);obtain⟨_,_,F,I⟩:=Ab.at' (h.mono C) (j:=i+1) (e:=As T[i+1]) (by simp[m]);cases F;refine G.s (i+1:Nat) 1 i<|G.a n t T.length c i 3 oV<|G.lU (some 3) n (t+i*3) (As T[i]) H<|G.a n t T.length c (i+1) 3 oV<|G.lU (some 3) n (t+(i+1)*3) (As T[i+1]) I<|G.call0 fid [As T[i],As T[i+1]] kV d (L i _ _ g m O) ?_;rintro W V l2 rfl;exact G.p (i+1:Nat) 1 (i+1+1:Nat)<|G.b (K (i+1) _ _ _ cV (C.trans l2) ⟨oV,rfl⟩ oV)
 exact G.lF (i+1:Nat) T.length<|G.r (.bool true) ⟨rfl,rfl⟩
def Aso {u:PH}{v:Value}{T:List ((Par×Par)×Rat)}{fid:Nat}(h:Ab u v 5 (T.map D6))(O:T.length<=1000000)
 (d:∀ args w,(callFunc fid args).run prog w=.ok (.enter fid args) w) (H:∀ p∈T,∀ t,PH.le u t->Fn0 prog fid [D6 p] t fun v _=>v=.bool false) :
 Fn0 prog 244 [v,.func (.func fid) #[] #[]] u fun L _=>L=.int .i64 (-1):=by
 obtain⟨a,c,rfl⟩:=h.opn;rw[A0k]at h⊢;refine Fn0.o func244<|G.l (ι:=Nat) (fun i=>[(0,sV a T.length c),(1,.v (.func (.func fid) #[] #[])),(7,iV T.length),(8,iV i)]) (fun _=>[])
  (fun i t I=>i<=T.length/\I=PH.mt) (fun i=>T.length-i) 0 ⟨oV,rfl⟩ ?_
 rintro J i F K P n ⟨N,rfl⟩;by_cases g:i<T.length
 ·refine G.lT i T.length ?_;have m:T[i]?=some T[i]:=A0i g;obtain⟨z,C,rfl,E⟩:=Ab.at' (h.mono n) (j:=i) (e:=D6 T[i]) (by simp[m]);refine G.a z C T.length c i 5 oV<|G.lU (some 5) z (C+i*5) (D6 T[i]) E<|G.call0 fid [D6 T[i]] kV d (H T[i] (A0y g) K n) ?_;rintro R Q l2 rfl;exact G.i i<|G.b (F (i+1) _ _ _ cV (n.trans l2) ⟨oV,rfl⟩ oV)
 obtain rfl:i=T.length:=oV;exact G.lF T.length T.length<|G.r (.int .i64 (-1)) ⟨rfl,rfl⟩
def Aig {u:PH}{v:Value}{T:List ((Par×Par)×Rat)}{fid:Nat}(h:Ab u v 5 (T.map D6))(j:T.length<=1000000)
 (d:∀ args w,(callFunc fid args).run prog w=.ok (.enter fid args) w) (g:∀ p∈T,∀ e,PH.le u e->Fn0 prog fid [D6 p] e fun v _=>v=.bool false) :
 Fn0 prog 210 [v,.func (.func fid) #[] #[]] u fun m _=>m=.bool false:=by
 refine Fn0.o func210<|G.c call244 (Aso h j d g) ?_;rintro z t n rfl;exact G.hF (-1) 0<|G.r (.bool false) ⟨rfl,rfl⟩
def Afn {u:PH}{v:Value}{T:List ((Par×Par)×Rat)}{fid:Nat}(h:Ab u v 5 (T.map D6))(R:T.length<=1000000)
 (d:∀ args w,(callFunc fid args).run prog w=.ok (.enter fid args) w) (L:∀ (i:Nat) x y,T[i]?=some x->T[i+1]?=some y->∀ E,Fn0 prog fid [D6 x,D6 y] E fun v _=>v=.bool true) :
 Fn0 prog 214 [v,.func (.func fid) #[] #[]] u fun P _=>P=.bool true:=by
 obtain⟨a,c,rfl⟩:=h.opn;rw[A0k]at h⊢;refine Fn0.o func214<|G.l (ι:=Nat) (fun i=>[(0,sV a T.length c),(1,.v (.func (.func fid) #[] #[])),(5,iV (i+1:Nat))]) (fun _=>[])
  (fun i E N=>i<=T.length/\N=PH.mt) (fun i=>T.length-i) 0 ⟨oV,rfl⟩ ?_
 rintro J i K O U C ⟨Q,rfl⟩;by_cases z:i+1<T.length
 ·refine G.lT (i+1:Nat) T.length ?_;have g:T[i]?=some T[i]:=A0i oV;have m:T[i+1]?=some T[i+1]:=A0i z;obtain⟨n,t,rfl,H⟩:=Ab.at' (h.mono C) (j:=i) (e:=D6 T[i]) (by simp[g]);obtain⟨_,_,F,I⟩:=Ab.at' (h.mono C) (j:=i+1) (e:=D6 T[i+1]) (by simp[m]);cases F;refine G.s (i+1:Nat) 1 i<|G.a n t T.length c i 5 oV<|G.lU (some 5) n (t+i*5) (D6 T[i]) H<|G.a n t T.length c (i+1) 5 oV<|G.lU (some 5) n (t+(i+1)*5) (D6 T[i+1]) I<|G.call0 fid [D6 T[i],D6 T[i+1]] kV d (L i _ _ g m O) ?_;rintro W V l2 rfl;exact G.p (i+1:Nat) 1 (i+1+1:Nat)<|G.b (K (i+1) _ _ _ cV (C.trans l2) ⟨oV,rfl⟩ oV)
 exact G.lF (i+1:Nat) T.length<|G.r (.bool true) ⟨rfl,rfl⟩
def Zz {κ:Type}{c:κ->κ->Int}{T:List (κ×Rat)}(h:D5 c (T.map (·.1))){x y:κ×Rat}(g:T[i]?=some x)(j:T[i+1]?=some y):c x.1 y.1<0:=by
 obtain⟨d,rfl⟩:=A0o.1 g;obtain⟨e,rfl⟩:=A0o.1 j;have:=A3c.1 h i (i+1) (by simpa using d) (by simpa using e) oV;simpa using this
def Ayj {v:Value}{F:CF}{K:Nat}(O:J0 u v F K)(m:CFS F)(I:CFV F)(Y:K<=1000000):Fn0 prog 154 [v] u fun R _=>R=.bool true:=by
 obtain⟨T,Q,U,W,V,X,rfl,hT,E,C,z,kT,Z⟩:=O;refine Fn0.o func154<|G.c call59 (Ge (SB.tx m.c)) ?_;rintro v1 u1 g rfl;refine G.c call155 (Xa (fid:=207) (hT.mono g) oV call207 (fun p hp n _=>by
  obtain⟨d,e⟩:=C.val p hp;exact Az4 (I.s _ (by rw[<-d];exact e)) (SB.tx (by rw[d];exact m.s _)) e)) ?_
 rintro v2 u2 l2 rfl;refine G.c call210 (Aig (fid:=211) (E.mono (g.trans l2)) oV call211 (fun p hp n _=>by
  obtain⟨d,e⟩:=z.val p hp;obtain⟨J,L,N⟩:=I.t p.1 (by rw[<-d];exact e);exact A0b J L N (SB.tx (by rw[d];exact m.t _)) e)) ?_
 rintro v3 u3 H rfl;refine G.c call212 (Aee (fid:=213) (hT.mono ((g.trans l2).trans H)) oV call213 (fun i x y h j n=>Aym (Zz C.srt h j))) ?_;rintro v4 u4 P rfl;refine G.c call214 (Afn (fid:=215) (E.mono (((g.trans l2).trans H).trans P)) oV call215 (fun i x y h j n=>Axb (Zz z.srt h j))) ?_;rintro v5 u5 l5 rfl;exact G.r (.bool true) ⟨rfl,rfl⟩
end
section
section
variable {P:Program}
def Ae6 {t:TypeId}(h:P.underlying t=some .string)(d:Nat)(s:List UInt8)(w:World):(Op.equalIn (d+1) t (.string (mkS s)) (.string (mkS s))).run P w=.ok true w:=by
 rw[run_equalIn_string w d _ _ _ h,Qy];simp
def Ana {t tp ti ts tr:TypeId}{k:IntKind}(u:(P.fieldsOf t).toList.map Se = [(true,tp,0),(true,tr,2)])(O:P.underlying t=some (.struct (P.fieldsOf t)))(hp:P.stoodInHeld t=false)
 (C:(P.fieldsOf tp).toList.map Se = [(true,ti,0),(true,ts,1)]) (j:P.underlying tp=some (.struct (P.fieldsOf tp))) (F:P.stoodInHeld tp=false) (h:szB P tp=some 2) (L:P.underlying ti=some (.int k)) (N:P.underlying ts=some .string) (H:P.underlying tr=some .string) (d:Nat) (x:Par×Rat) (w:World) :
 (Op.equalIn (d+3) t (As x) (As x)).run P w=.ok true w:=by
 have e:M2 P tp=some true:=by unfold M2;rw[j]
 unfold As;rw[run_equalIn_struct w (d+2) t _ _ O hp];generalize (P.fieldsOf t).toList=fs at u;obtain⟨f,g,E⟩:=Ab4 u;subst E;simp only[A1t,A38,A3b,Se,A2c,bne_iff_ne,ne_eq,and_true]at u;obtain⟨⟨Q,J,T⟩,R,K,U⟩:=u;obtain⟨⟨m,n⟩,z⟩:=x;simp only[Op.eqFields,ne_eq,Q,R,not_false_eq_true,if_true,Sem.run_bind,J,K,T,U];rw[Ff e h,Result.andThen_ok,Ff e h,Result.andThen_ok];have I:=Ma C j F L N d (m,n) (m,n) w;unfold An at I;have V:(#[Value.int .i64 m,.string (mkS n),.string (mkS (Ag z))].extract 0 (0+2)) = #[.int .i64 m,.string (mkS n)]:=rfl;simp only[V,I,Result.andThen_ok,decide_true,A5m,A3z,if_false,Sem.run_bind];rw[Dp (Eo H) (v:=.string (mkS (Ag z))) rfl,Result.andThen_ok,Dp (Eo H) (v:=.string (mkS (Ag z))) rfl,Result.andThen_ok,Ae6 H];simp
end
def Awq (x:Par×Rat)(w:World):(Op.equal 80 (As x) (As x)).run prog w=.ok true w :=
 Ana (P:=prog) (t:=80) (tp:=78) (ti:=3) (ts:=9) (tr:=30) (k:=.i64) kV kV kV kV kV kV kV kV kV kV 9997 x w
def Azr (u:PH)(v:Value)(F:CF)(K:Nat):Prop:=∃ r,v=.tuple #[r,.int .i64 0]/\J0 u r F K
def J0.opn {u:PH}{v:Value}{F:CF}{K:Nat}(h:J0 u v F K):∃ d m g e n j,v=.agg #[.string (mkS (Ag F.c)),.slice d m g,.slice e n j]:=by
 obtain⟨T,Q,d,g,e,j,rfl,_⟩:=h;exact⟨_,_,_,_,_,_,rfl⟩
def CF.num (k:Rat):CF:=⟨k,fun _=>0,fun _=>0⟩
end
section
variable {b c n:Nat}{x:List UInt8}
section rules
variable [Cj] {P:Program} [A6 P] {fn:Func} {Post:Ca} {st:List KI×S} {u m:PH}
def FnK (P:Program)(f:FuncId)(args:List Value)(u m:PH)(R:Value->PH->Prop):Prop:=Ah P f args u m fun v u' m'=>m'=m/\R v u'
def FnK.of {R:Value->PH->Prop}{f:FuncId}{args:List Value}(e:P.funcs[f]?=some fn)(d:fn.body.isSome=true)(g:Nat.ble args.length fn.ntmps=true)(h:G P fn ⟨fun v t j=>j=m/\R v t,m⟩ (st0 fn args) u m):FnK P f args u m R:=Ah.of e d g h
def G.callK (f:Nat)(args:List Value){R:Value->PH->Prop}(h:Ak P (adv P st)=.call f args)(Q:∀ args w,(callFunc f args).run P w=.ok (.enter f args) w)(c:FnK P f args u m R)
 (k:∀ v d,PH.le u d->R v d->G P fn Post (nx (adv P st) v) d m):G P fn Post st u m:=by
 refine G.big (K:=fun v d t=>t=m/\R v d) h mV Dh (.inl fun v d t N=>by rw[N.1];exact fun g o U=>U) (fun I o j w z=>?_) (fun v d t J L=>?_)
 ·refine Hf j Q w _ (Calls.mono (c w z) fun e w' T=>?_);obtain⟨v,d,t,C,E,F,H⟩:=T;exact⟨v,C,d,t,E,F,H⟩
 obtain⟨rfl,O⟩:=L;exact k v d J O
end rules
section
def Ath {u m:PH}(L:List (List UInt8))(I:n<=L.length)(H:n<=1000000)(h:∀ j s,L[j]?=some s->ElP m b (0+j*1) (.string (mkS s)))(z:∀ j s,j<n->L[j]?=some s->s≠x) :
 FnK prog 288 [.slice (some ⟨b,0,none⟩) n c,.string (mkS x)] u m fun v _=>v=.int .i64 (-1):=by
 refine FnK.of func288 kV kV<|G.l (ι:=Nat) (fun i=>[(0,sV (some ⟨b,0,none⟩) n c),(1,tV x),(7,iV n),(8,iV i)]) (fun _=>[])
  (fun i N E=>i<=n/\E=m) (fun i=>n-i) 0 ⟨oV,rfl⟩ ?_
 rintro J i t O K C ⟨F,rfl⟩;by_cases g:i<n
 ·refine G.lT i n ?_;have d:L[i]?=some L[i]:=A0i oV;exact G.a b 0 n c i 1 g<|G.lM none b (0+i*1) (.string (mkS L[i])) (h i _ d)<|G.w x L[i] (fun e=>z i _ g d e.symm)<|G.i i<|G.b (t (i+1) _ _ _ cV C ⟨oV,rfl⟩ oV)
 obtain rfl:i=n:=oV;exact G.lF i i<|G.r (.int .i64 (-1)) ⟨rfl,rfl⟩
def Aic {u m:PH}(L:List (List UInt8))(g:n<=L.length)(e:n<=1000000)(d:∀ j s,L[j]?=some s->ElP m b (0+j*1) (.string (mkS s)))(h:∀ j s,j<n->L[j]?=some s->s≠x) :
 FnK prog 260 [.slice (some ⟨b,0,none⟩) n c,.string (mkS x)] u m fun v _=>v=.bool false:=by
 refine FnK.of func260 kV kV<|G.callK _ _ kV call288 (Ath (c:=c) L g e d h) ?_;rintro C z t rfl;exact G.hF (-1) 0<|G.r (.bool false) ⟨rfl,rfl⟩
structure X7 (L:List (List UInt8)):Prop where
 word:∀ s∈L,Kh s=true
 nodup:L.Nodup
def Aq6 {u m:PH}{b k c:Nat}{L:List (List UInt8)}(h:X7 L)(J:L.length<=1000)(H:L.length<=c)(g:L[k]?=some x)(t:∀ j s,L[j]?=some s->ElP m b (0+j*1) (.string (mkS s))) :
 FnK prog 228 [.slice (some ⟨b,0,none⟩) L.length c,.int .i64 k] u m fun v _=>v=.int .i64 0:=by
 obtain⟨d,E⟩:=A0o.1 g;refine FnK.of func228 kV kV<|G.a b 0 L.length c k 1 d<|G.lM none b (0+k*1) (.string (mkS x)) (t k x g)<|G.c call190 (Aoc (h.word x (A0w g))) ?_;rintro Q N K rfl;refine G.sliceTo 1 (some ⟨b,0,none⟩) L.length c k kV oV<|G.a b 0 L.length c k 1 d<|G.lM none b (0+k*1) (.string (mkS x)) (t k x g)<|G.callK _ _ kV call260 (Aic (n:=k) (c:=c) (x:=x) L oV oV t fun j s I F e=>?_) ?_
 ·obtain⟨z,C⟩:=A0o.1 F;have:=(A83 (h₀:=z) (h₁:=d) h.nodup).1 (by rw[C,E,e]);omega
 rintro R O l2 rfl;exact G.r (.int .i64 0) ⟨rfl,rfl⟩
def Ia (a:List UInt8×Nat):Value:=.agg #[.string (mkS a.1),.int .i64 a.2]
def nmV (s:List UInt8):Value:=.string (mkS s)
def D8 (L:List (List UInt8)):Bm 1 (L.map nmV):=by
 intro e d;obtain⟨s,_,rfl⟩:=A0r.1 d;exact⟨rfl,A06.1 rfl⟩
end
end
structure Av6 (T:List (List UInt8×Nat)):Prop where
 names:X7 (T.map (·.1))
 kind:∀ a∈T,1<=a.2/\a.2<=3
def X7.take {L:List (List UInt8)}(h:X7 L)(k:Nat):X7 (L.take k):=⟨fun s d=>h.word s (A23 d),h.nodup.sublist (List.take_sublist _ _)⟩
def getElem?_snoc_last {α:Type}(l:List α)(x:α):(l++[x])[l.length]?=some x:=mV
def Aej {u:PH}{v w x y:Value}{T:List (List UInt8×Nat)}(h:Ab u v 2 (T.map Ia))(ok:Av6 T)(hl:T.length<=1000)(Y:∃ a n c,w=.slice a n c)(Z:∃ a n c,x=.slice a n c)(hy:∃ z:Int,y=.int .i64 z) :
 Fn0 prog 185 [.agg #[v,w,x,y]] u fun r _=>r=.int .i64 0:=by
 obtain⟨a,c,rfl⟩:=h.opn;obtain⟨wa,wn,wc,rfl⟩:=Y;obtain⟨xa,xn,xc,rfl⟩:=Z;obtain⟨z,rfl⟩:=hy;rw[A0k]at h⊢;refine Fn0.o func185<|G.l (ι:=Nat×(Option Addr×Nat×Nat)) (fun i=>[(3,sV i.2.1 i.2.2.1 i.2.2.2),(8,sV a T.length c),(9,iV T.length),(10,iV i.1)]) (fun _=>[])
  (fun i u' m'=>i.1<=T.length/\Af PH.mt m' (.slice i.2.1 i.2.2.1 i.2.2.2) 9 1 (((T.map (·.1)).take i.1).map nmV)) (fun i=>T.length-i.1) (0,(none,0,0)) ⟨mV,Af.nil _ _ _⟩ ?_
 rintro J ⟨i,na,nn,nc⟩ Q u1 m1 R ⟨W,H⟩;simp only at W H Q;by_cases E:i<T.length
 ·refine G.lT i T.length ?_;have F:T[i]?=some T[i]:=A0i E;have I:=ok.kind T[i] (A0y E);have m:((T.map (·.1)).take (i+1))=(T.map (·.1)).take i++[T[i].1]:=by
   rw[A0t,A0n,F];rfl
  have d:=ok.names.take (i+1);rw[m]at d;have C:((T.map (·.1)).take i).length=i:=gV;generalize hL:(T.map (·.1)).take i=L at H m d C;obtain⟨N,U,rfl,P⟩:=Ab.at' (h.mono R) (j:=i) (e:=Ia T[i]) (by simp[F]);generalize T[i]=q at P I m d;refine G.a N U T.length c i 2 E<|G.lU (some 2) N (U+i*2) (.agg #[.string (mkS q.1),.int .i64 q.2]) P<|G.B 9 1 16 (.string (mkS [])) [.string (mkS q.1)] (D8 [q.1]) ?_;intro g2 u2 l2 V;refine G.k 9 1 16 (.string (mkS [])) PH.mt (L.map nmV) [.string (mkS q.1)] (.slice na nn nc) g2 0 1 1 H V (D8 [q.1]) ?_;intro v3 m3 g;rw[show L.map nmV++[.string (mkS q.1)]=(L++[q.1]).map nmV by rw[A02];rfl]at g;obtain⟨K,O,rfl⟩:=g.ptr mV;have t:=g.cap;rw[A0k]at g t⊢;refine G.callK _ _ kV call228 (Aq6 (b:=K) (k:=i) (c:=O) (x:=q.1) (L:=L++[q.1]) d gV t (by rw[<-C];exact getElem?_snoc_last L q.1) fun j s X=>g.el (by rw[A0n,X];rfl)) ?_;rintro v4 u4 l4 rfl;exact G.nF 0 0<|G.lF q.2 1<|G.gF q.2 3<|G.i i<|G.b (Q (i+1,(some ⟨K,0,none⟩,(L++[q.1]).length,O)) _ _ _ cV ((R.trans l2).trans l4) ⟨dV,by dsimp only;rw[m];exact g⟩ dV)
 obtain rfl:i=T.length:=oV;exact G.lF T.length T.length<|G.pastI<|G.drop PH.mt kV (PH.mt_le _)<|G.r (.int .i64 0) ⟨rfl,rfl⟩
section
variable {α:Type}
abbrev Ao:Type:=Nat×Nat×Nat
def C4 (f:Ao):Value:=.agg #[.int .i64 f.1,.int .i64 f.2.1,.int .i64 f.2.2]
def Ary {α:Type}(p:α->Bool)(T:List α):Int:=match T.findIdx? p with|some k=>(k:Int)|none=>-1
def As2 {p:α->Bool}{T:List α}{i:Nat}(e:i<T.length)(h:p T[i]=true)(h0:∀ j (d:j<i),p (T[j]'oV)=false):Ary p T=(i:Int):=by
 have:T.findIdx? p=some i:=A5w.2 ⟨e,h,fun j d=>by simp[h0 j d]⟩;unfold Ary;rw[this]
def Akh {p:α->Bool}{T:List α}(h0:∀ x∈T,p x=false):Ary p T = -1:=by
 have:T.findIdx? p=none:=List.findIdx?_eq_none_iff.2 h0;unfold Ary;rw[this]
def At6 {u m:PH}{v cap:Value}{T:List Ao}{fid:Nat}(p:Ao->Bool)(h:Ab u v 3 (T.map C4))(R:T.length<=1000000)
 (g:∀ args w,(callFunc fid args).run prog w=.ok (.enter fid args) w) (K:∀ f∈T,∀ C,PH.le u C->FnK prog fid [C4 f,cap] C m fun v _=>v=.bool (p f)) :
 FnK prog 262 [v,.func (.func fid) #[] #[cap]] u m fun P _=>P=.int .i64 (Ary p T):=by
 obtain⟨a,c,rfl⟩:=h.opn;rw[A0k]at h⊢;refine FnK.of func262 kV kV<|G.l (ι:=Nat) (fun i=>[(0,sV a T.length c),(1,.v (.func (.func fid) #[] #[cap])),(7,iV T.length),(8,iV i)]) (fun _=>[])
  (fun i C N=>i<=T.length/\(∀ j (d:j<T.length),j<i->p (T[j]'d)=false)/\N=m) (fun i=>T.length-i) 0 ⟨oV,fun j d h=>oV,rfl⟩ ?_
 rintro J i I O U z ⟨Q,h0,rfl⟩;by_cases n:i<T.length
 ·refine G.lT i T.length ?_;have t:T[i]?=some T[i]:=A0i n;obtain⟨E,F,rfl,H⟩:=Ab.at' (h.mono z) (j:=i) (e:=C4 T[i]) (by simp[t]);refine G.a E F T.length c i 3 oV<|G.lU (some 3) E (F+i*3) (C4 T[i]) H<|G.callK fid [C4 T[i],cap] kV g (K T[i] (A0y n) O z) ?_;rintro W V l2 rfl;cases hp:p T[i] with
  |true =>
   rw[As2 n hp fun j d=>h0 j oV d];exact G.r (.int .i64 i) ⟨rfl,rfl⟩
  |false =>
   refine G.i i ?_;exact G.b (I (i+1) _ _ _ cV (z.trans l2) ⟨oV,fun j d h=>by
    rcases (by omega:j<i\/j=i) with e|rfl
    ·exact h0 j d e
    exact hp,rfl⟩ oV)
 obtain rfl:i=T.length:=oV;refine G.lF T.length T.length ?_;rw[Akh fun x L=>by obtain⟨j,d,rfl⟩:=A2a L;exact h0 j d d];exact G.r (.int .i64 (-1)) ⟨rfl,rfl⟩
def L5 {u m:PH}{v cap:Value}{T:List Ao}{fid:Nat}(h:Ab u v 3 (T.map C4))(j:T.length<=1000000)
 (d:∀ args w,(callFunc fid args).run prog w=.ok (.enter fid args) w) (g:∀ f∈T,∀ e,PH.le u e->FnK prog fid [C4 f,cap] e m fun v _=>v=.bool false) :
 FnK prog 230 [v,.func (.func fid) #[] #[cap]] u m fun n _=>n=.bool false:=by
 obtain⟨a,c,rfl⟩:=h.opn;refine FnK.of func230 kV kV<|G.callK _ _ kV call262 (At6 (cap:=cap) (fun _=>false) h j d g) ?_;rintro C z t rfl;rw[Akh fun x _=>rfl];exact G.hF (-1) 0<|G.r (.bool false) ⟨rfl,rfl⟩
def Vl {u m:PH}{f g:Ao}{b:Nat}(e:ElP m b 0 (C4 g))(h:f.1≠g.1):FnK prog 231 [C4 f,.pointer (some ⟨b,0,none⟩)] u m fun v _=>v=.bool false:=by
 refine FnK.of func231 kV kV<|G.f 98 b 0 0 0<|G.lM none b (0+0) (.int .i64 g.1) (fun i x d=>?_) ?_
 ·have:i=0/\x=.int .i64 g.1:=by
   match i,d with
   |0,d=>exact⟨rfl,by simpa[Value.cells] using d.symm⟩
   |i+1,d=>simp[Value.cells]at d
  obtain⟨rfl,rfl⟩:=this;exact e 0 _ rfl
 exact G.eF f.1 g.1<|G.r (.bool false) ⟨rfl,rfl⟩
structure Ej (T:List (List UInt8×Nat))(F:List Ao)(lab:Int):Prop where
 ok:∀ f∈F,∃ n k,T[f.1]?=some (n,k)/\((f.2.1=1/\k=2/\f.2.2<=1)\/(f.2.1=2/\k=3/\f.2.2=0))/\(f.1:Int)≠lab
 nodup:(F.map (·.1)).Nodup
end
section
variable {b:Nat}{m u:PH}
def Ab.cap {a:Option Addr}{n c sz:Nat}{es:List Value}(h:Ab u (.slice a n c) sz es):es.length<=c:=by
 obtain⟨_,_,e,d,_⟩:=h;cases e;exact d
def Le {b e:Nat}{q:List UInt8×Nat}(h:ElP u b e (Ia q)):ElP u b (e+1) (.int .i64 q.2):=fun i x d=>by
 match i,d with
 |0,d =>
  have:x=.int .i64 q.2:=by simpa[Value.cells] using d.symm
  subst this;exact h 1 _ rfl
 |i+1,d=>simp[Value.cells]at d
def Og {t:TypeId}{xs:List Value}{e:Value}(g:e.cells=xs.toArray):ElP (m.upd b (.cells xs.toArray t (0,0))) b 0 e:=fun i x d=>by
 refine⟨_,_,_,Ac _ _ _,?_⟩;rw[g]at d;simpa using d
def Ai7 {g:Ao}(e:ElP m b 0 (C4 g)):ElP m b (0+0) (.int .i64 g.1):=fun i x d=>by
 match i,d with
 |0,d =>
  have:x=.int .i64 g.1:=by simpa[Value.cells] using d.symm
  subst this;exact e 0 _ rfl
 |i+1,d=>simp[Value.cells]at d
def Anp {v w x:Value}{T:List (List UInt8×Nat)}{F:List Ao}{lab:Int}(h:Ab u v 2 (T.map Ia))(hF:Ab u x 3 (F.map C4))(ok:Ej T F lab)(hl:T.length<=1000)(a1:F.length<=1000)(hw:∃ a n c,w=.slice a n c) :
 Fn0 prog 187 [.agg #[v,w,x,.int .i64 lab]] u fun r _=>r=.int .i64 0:=by
 obtain⟨a,c,rfl⟩:=h.opn;obtain⟨a',K,rfl⟩:=hF.opn;obtain⟨wa,wn,wc,rfl⟩:=hw;have O:=hF.cap;rw[A0k]at h hF O⊢;rw[A0k];refine Fn0.o func187<|G.l (ι:=Nat) (fun i=>[(1,.p 0 0),(9,sV a' F.length K),(10,iV F.length),(11,iV i)]) (fun _=>[(0,⟨28,[sV a T.length c,sV wa wn wc,sV a' F.length K,iV lab]⟩)])
  (fun i u' m'=>i<=F.length/\m'=PH.mt) (fun i=>F.length-i) 0 ⟨oV,rfl⟩ ?_
 rintro J i V u1 m1 L ⟨hi,rfl⟩;by_cases I:i<F.length
 ·refine G.lT i F.length ?_;have W:F[i]?=some F[i]:=A0i I;obtain⟨n,k,X,C,t⟩:=ok.ok F[i] (A0y I);have d:∀ f∈F.take i,f.1≠(F[i]).1:=by
   intro f hf;obtain⟨j,hj,rfl⟩:=A2a hf;rw[A0q]at hj;rw[A7p];intro e;have:=(A83 (xs:=F.map (·.1)) (h₀:=by rw[A0k];omega) (h₁:=by rw[A0k];omega) (i:=j) (j:=i) ok.nodup).1 (by rw[A3u,A3u];exact e);omega
  obtain⟨N,R,rfl,ea⟩:=Ab.at' (hF.mono L) (j:=i) (e:=C4 F[i]) (by simp[W]);have E:=(hF.mono L).take' i (by rw[A0k];omega);rw[<-A37]at E;have a2:(F.take i).length=i:=by rw[A0q];omega
  generalize F[i]=f at ea X C t d;obtain⟨Y,a0⟩:=A0o.1 X;obtain⟨U,Z,rfl,eb⟩:=Ab.at' (h.mono L) (j:=f.1) (e:=Ia (n,k)) (by simp[X]);refine G.a N R F.length K i 3 I<|G.lU (some 3) N (R+i*3) (.agg #[.int .i64 f.1,.int .i64 f.2.1,.int .i64 f.2.2]) ea<|G.lF f.1 0<|G.hF f.1 T.length<|G.a U Z T.length c f.1 2 Y<|G.f 94 U (Z+f.1*2) 1 1<|G.lU none U (Z+f.1*2+1) (.int .i64 k) (Le eb) ?_;rcases C with ⟨k1,k2,k3⟩|⟨k1,k2,k3⟩
  ·refine G.eT f.2.1 1<|G.eT k 2 ?_;by_cases k0:f.2.2=0
   ·refine G.eT f.2.2 0<|G.eF f.2.1 2<|G.pastI<|G.pub 3003 98 [.int .i64 f.1,.int .i64 f.2.1,.int .i64 f.2.2] kV kV ?_;intro H Q P;refine G.f 98 H 0 0 0<|G.lM none H (0+0) (.int .i64 f.1) (Ai7 (g:=f) (Og rfl))<|G.eF' f.1 lab t<|G.sliceTo 3 (some ⟨N,R,none⟩) F.length K i kV oV<|G.callK _ _ kV call230 (L5 E (by rw[A0q];omega) call231 fun f' z u' _=>Vl (g:=f) (Og rfl) (d f' z)) ?_;rintro v2 u2 l2 rfl;exact G.drop PH.mt kV (PH.mt_le _)<|G.i i<|G.b (V (i+1) _ _ _ cV (L.trans l2) ⟨oV,rfl⟩ oV)
   refine G.eF f.2.2 0<|G.eT f.2.2 1<|G.eF f.2.1 2<|G.pastI<|G.pub 3003 98 [.int .i64 f.1,.int .i64 f.2.1,.int .i64 f.2.2] kV kV ?_;intro H Q P;refine G.f 98 H 0 0 0<|G.lM none H (0+0) (.int .i64 f.1) (Ai7 (g:=f) (Og rfl))<|G.eF' f.1 lab t<|G.sliceTo 3 (some ⟨N,R,none⟩) F.length K i kV oV<|G.callK _ _ kV call230 (L5 E (by rw[A0q];omega) call231 fun f' z u' _=>Vl (g:=f) (Og rfl) (d f' z)) ?_;rintro v2 u2 l2 rfl;exact G.drop PH.mt kV (PH.mt_le _)<|G.i i<|G.b (V (i+1) _ _ _ cV (L.trans l2) ⟨oV,rfl⟩ oV)
  refine G.eF f.2.1 1<|G.eT f.2.1 2<|G.eT k 3<|G.eT f.2.2 0<|G.pastI<|G.pub 3003 98 [.int .i64 f.1,.int .i64 f.2.1,.int .i64 f.2.2] kV kV ?_;intro H Q P;refine G.f 98 H 0 0 0<|G.lM none H (0+0) (.int .i64 f.1) (Ai7 (g:=f) (Og rfl))<|G.eF' f.1 lab t<|G.sliceTo 3 (some ⟨N,R,none⟩) F.length K i kV oV<|G.callK _ _ kV call230 (L5 E (by rw[A0q];omega) call231 fun f' z u' _=>Vl (g:=f) (Og rfl) (d f' z)) ?_;rintro v2 u2 l2 rfl;exact G.drop PH.mt kV (PH.mt_le _)<|G.i i<|G.b (V (i+1) _ _ _ cV (L.trans l2) ⟨oV,rfl⟩ oV)
 obtain rfl:i=F.length:=oV;exact G.lF F.length F.length<|G.r (.int .i64 0) ⟨rfl,rfl⟩
end
section
variable {L:List Bool}{b c n:Nat}{m m0 u:PH}
def Avb (H:n=L.length)(F:n<=1000000)(g:∀ (j:Nat) s,L[j]?=some s->ElP m b (0+j*1) (.bool s))(t:∀ s∈L,s=true) :
 FnK prog 261 [.slice (some ⟨b,0,none⟩) n c,.bool false] u m fun v _=>v=.int .i64 (-1):=by
 refine FnK.of func261 kV kV<|G.l (ι:=Nat) (fun i=>[(0,sV (some ⟨b,0,none⟩) n c),(1,bV false),(7,iV n),(8,iV i)]) (fun _=>[])
  (fun i K C=>i<=n/\C=m) (fun i=>n-i) 0 ⟨oV,rfl⟩ ?_
 rintro J i h N I z ⟨E,rfl⟩;by_cases e:i<n
 ·refine G.lT i n ?_;have d:L[i]?=some true:=by
   rw[A0i oV];exact congrArg some (t _ (A0y oV))
  exact G.a b 0 n c i 1 e<|G.lM none b (0+i*1) (.bool true) (g i _ d)<|G.eqB false true kV<|G.i i<|G.b (h (i+1) _ _ _ cV z ⟨oV,rfl⟩ oV)
 obtain rfl:i=n:=oV;exact G.lF i i<|G.r (.int .i64 (-1)) ⟨rfl,rfl⟩
def Aiy (g:n=L.length)(e:n<=1000000)(d:∀ (j:Nat) s,L[j]?=some s->ElP m b (0+j*1) (.bool s))(h:∀ s∈L,s=true) :
 FnK prog 229 [.slice (some ⟨b,0,none⟩) n c,.bool false] u m fun v _=>v=.bool false:=by
 refine FnK.of func229 kV kV<|G.callK _ _ kV call261 (Avb (c:=c) (L:=L) g e d h) ?_;rintro C z t rfl;exact G.hF (-1) 0<|G.r (.bool false) ⟨rfl,rfl⟩
abbrev Bw:Type:=List UInt8×List Nat×(Option Addr×Nat)
def Ai6 (r:Bw):Value:=.agg #[.string (mkS r.1),.slice r.2.2.1 r.2.1.length r.2.2.2]
structure Aen (u:PH)(n:Nat)(R:List Bw):Prop where
 names:X7 (R.map (·.1))
 ne:∀ r∈R,r.2.1≠[]
 lt:∀ r∈R,∀ a∈r.2.1,a<n
 len:∀ r∈R,r.2.1.length<=1000
 asc:∀ r∈R,∀ (k:Nat) x y,r.2.1[k]?=some x->r.2.1[k+1]?=some y->x<y
 all:∀ a<n,∃ r∈R,a∈r.2.1
 at':∀ r∈R,Ab u (.slice r.2.2.1 r.2.1.length r.2.2.2) 1 (Ai r.2.1)
def Aqs (g n:Nat)(L:List Bool):Arr:=⟨.slice (some ⟨g,0,none⟩) n n,4,1,L.map .bool⟩
def Auc (a:Option Addr)(c:Nat)(L:List (List UInt8)):Arr:=⟨.slice a L.length c,9,1,L.map nmV⟩
def Aj1 {g n:Nat}:(Aqs g n L).At m0 m=Af m0 m (.slice (some ⟨g,0,none⟩) n n) 4 1 (L.map .bool):=rfl
def Auk {a:Option Addr}{L:List (List UInt8)}:(Auc a c L).At m0 m=Af m0 m (.slice a L.length c) 9 1 (L.map nmV):=rfl
def Qq (L:List Bool)(a:Nat):(L.map Value.bool).set a (.bool true)=(L.set a true).map Value.bool:=by rw[A10]
def Ai3 {w x y:Value}{a0:Option Addr}{n c0:Nat}{R:List Bw}(hR:Ab u w 2 (R.map Ai6))(ok:Aen u n R)(hn:n<=1000)(aw:0<n)(hl:R.length<=1000)(hx:∃ a n c,x=.slice a n c)(hy:∃ z:Int,y=.int .i64 z) :
 Fn0 prog 186 [.agg #[.slice a0 n c0,w,x,y]] u fun r _=>r=.int .i64 0:=by
 obtain⟨a,c,rfl⟩:=hR.opn;obtain⟨xa,xn,xc,rfl⟩:=hx;obtain⟨z,rfl⟩:=hy;rw[A0k]at hR⊢;refine Fn0.o func186<|G.make 4 1 1 (.bool false) n kV rfl rfl oV oV oV ?_;rintro v1 m1 ae ⟨ad,rfl⟩;obtain⟨g,rfl,_⟩:=ae.some';refine G.l (ι:=Nat×List Bool×List (List UInt8)×(Option Addr×Nat)) (fun i=>[(3,sV i.2.2.2.1 i.2.2.1.length i.2.2.2.2),(4,sV (some ⟨g,0,none⟩) n n),(16,sV a R.length c),(17,iV R.length),(18,iV i.1)]) (fun _=>[])
  (fun i u' m'=>i.1<=R.length/\i.2.1.length=n/\i.2.2.1=(R.map (·.1)).take i.1/\(∀ r∈R.take i.1,∀ q∈r.2.1,i.2.1[q]?=some true)/\Bag m' [Aqs g n i.2.1,Auc i.2.2.2.1 i.2.2.2.2 i.2.2.1]) (fun i=>R.length-i.1) (0,List.replicate n false,[],(none,0))
  ⟨mV,mV,mV,mV,⟨PH.mt,by rw[Aj1,A8k];exact ae,PH.mt,Af.nil _ _ _,trivial⟩⟩ ?_
 rintro J ⟨i,L,N,⟨na,nc⟩⟩ hJ u2 m2 l2 ⟨hi,hL,hN,O,P⟩;simp only at hi hL hN O P hJ;by_cases a8:i<R.length
 ·refine G.lT i R.length ?_;have a7:R[i]?=some R[i]:=A0i a8;have t:R[i]∈R:=A0y a8;have Y:(R.map (·.1)).take (i+1)=N++[R[i].1]:=by
   rw[A0t,A0n,a7,hN];rfl
  have a4:R.take (i+1)=R.take i++[R[i]]:=by
   rw[A0t,a7];rfl
  have h:=ok.names.take (i+1);rw[Y]at h;have ai:N.length=i:=by rw[hN];simp;omega
  obtain⟨ba,oa,rfl,ea⟩:=Ab.at' (hR.mono l2) (j:=i) (e:=Ai6 R[i]) (by simp[a7]);generalize R[i]=q at ea t Y a4 h;obtain⟨qs,d,qa,qc⟩:=q;have ar:d≠[]:=ok.ne _ t;have aj:∀ p∈d,p<n:=ok.lt _ t;have ay:d.length<=1000:=ok.len _ t;have ah:∀ (k:Nat) x y,d[k]?=some x->d[k+1]?=some y->x<y:=ok.asc _ t;have an:Ab u2 (.slice qa d.length qc) 1 (Ai d):=(ok.at' _ t).mono l2;have ax:0<d.length:=A4o.2 ar;simp only at Y h;refine G.a ba oa R.length c i 2 a8<|G.lU (some 2) ba (oa+i*2) (.agg #[.string (mkS qs),.slice qa d.length qc]) ea<|G.B 9 1 16 (.string (mkS [])) [.string (mkS qs)] (D8 [qs]) ?_;intro g3 u3 l3 e3;obtain⟨mm,aa,a3⟩:=P.focus 1 rfl;rw[Auk]at aa;refine G.k 9 1 16 (.string (mkS [])) mm (N.map nmV) [.string (mkS qs)] (.slice na N.length nc) g3 0 1 1 aa e3 (D8 [qs]) ?_;intro v4 m4 E;rw[show N.map nmV++[.string (mkS qs)]=(N++[qs]).map nmV by rw[A02];rfl]at E;obtain⟨b4,c4,rfl⟩:=E.ptr mV;have T:=E.cap;rw[A0k]at E T⊢;have H:=a3 (Auc (some ⟨b4,0,none⟩) c4 (N++[qs])) m4 E;simp only[A2s,A2y]at H;refine G.callK _ _ kV call228 (Aq6 (b:=b4) (k:=i) (c:=c4) (x:=qs) (L:=N++[qs]) h gV T (by rw[<-ai];exact getElem?_snoc_last N qs) fun j s hs=>E.el (by rw[A0n,hs];rfl)) ?_;rintro v5 u5 l5 rfl;refine G.nF 0 0<|G.eF d.length 0 ?_;generalize N++[qs]=N' at H Y;clear E a3 aa P T h;have av:∀ p∈d,p<n:=aj;refine G.l (ι:=Nat×List Bool) (fun j=>[(3,sV (some ⟨b4,0,none⟩) N'.length c4),(4,sV (some ⟨g,0,none⟩) n n),(6,.p 5003 0),(16,sV (some ⟨ba,oa,none⟩) R.length c),(17,iV R.length),(18,iV i),(39,sV qa d.length qc),(40,iV d.length),(41,iV j.1)])
   (fun _=>[(5003,⟨96,[tV qs,sV qa d.length qc]⟩)])
   (fun j u' m'=>j.1<=d.length/\j.2.length=n/\(∀ r∈R.take i,∀ q∈r.2.1,j.2[q]?=some true)/\(∀ q∈d.take j.1,j.2[q]?=some true)/\Bag m' [Aqs g n j.2,Auc (some ⟨b4,0,none⟩) c4 N']) (fun j=>d.length-j.1) (0,L)
   ⟨mV,hL,O,mV,H⟩ ?_
  rintro J2 ⟨j,L2⟩ ag u6 m6 l6 ⟨hj,a6,F,C,I⟩;simp only at hj a6 F C I ag;have W:=an.mono ((l3.trans l5).trans l6);by_cases V:j<d.length
  ·refine G.lT j d.length ?_;have ao:d[j]?=some d[j]:=A0i V;have ak:d[j]<n:=aj _ (A0y V);have a5:d.take (j+1)=d.take j++[d[j]]:=by rw[A0t,ao];rfl
   obtain⟨bq,oq,rfl,eq⟩:=Ab.at' W (j:=j) (e:=.int .i64 (d[j]:Int)) (by simp[Ai,ao]);generalize d[j]=p at eq ak a5;refine G.a bq oq d.length qc j 1 V<|G.lU none bq (oq+j*1) (.int .i64 p) eq<|G.lF p 0<|G.hF p n<|G.a g 0 n n p 1 ak ?_;obtain⟨au,ap,a9⟩:=I.focus 0 rfl;rw[Aj1]at ap;refine G.storeA 1 au (L2.map Value.bool) g n n p (.bool true) kV ap (by rw[A0k];omega) rfl rfl ?_;intro m7 af;rw[Qq]at af;have Q:=a9 (Aqs g n (L2.set p true)) m7 af;simp only[A2y]at Q;refine G.i j ?_;have U:∀ q,L2[q]?=some true->(L2.set p true)[q]?=some true:=fun q K=>by
    rw[A2g];split
    ·subst_vars;rw[if_pos oV]
    exact K
   exact G.b (ag (j+1,L2.set p true) _ _ _ cV l6 ⟨dV,by simp[a6],fun r Z q K=>U q (F r Z q K),by
    intro q K;dsimp only at K⊢;rw[a5,A04,A07]at K;rcases K with K|rfl
    ·exact U q (C q K)
    rw[A2g];simp;omega,Q⟩ dV)
  obtain rfl:j=d.length:=oV;refine G.lF d.length d.length ?_;rw[A05]at C;refine G.l (ι:=Nat) (fun k=>[(3,sV (some ⟨b4,0,none⟩) N'.length c4),(4,sV (some ⟨g,0,none⟩) n n),(6,.p 5003 0),(10,iV (k+1:Nat)),(16,sV (some ⟨ba,oa,none⟩) R.length c),(17,iV R.length),(18,iV i)])
   (fun _=>[(5003,⟨96,[tV qs,sV qa d.length qc]⟩)])
   (fun k u' m'=>k+1<=d.length/\m'=m6) (fun k=>d.length-k) 0
   ⟨oV,rfl⟩ ?_
  rintro J3 k aq u8 m8 l8 ⟨hk,rfl⟩;have X:=W.mono l8;by_cases a2:k+1<d.length
  ·refine G.lT (k+1:Nat) d.length ?_;have al:d[k]?=some d[k]:=A0i oV;have am:d[k+1]?=some d[k+1]:=A0i a2;have a1:=ah k _ _ al am;obtain⟨bq,oq,rfl,ac⟩:=Ab.at' X (j:=k+1) (e:=.int .i64 (d[k+1]:Int)) (by simp[Ai,am]);obtain⟨_,_,e',ab⟩:=Ab.at' X (j:=k) (e:=.int .i64 (d[k]:Int)) (by simp[Ai,al]);cases e';generalize d[k]=p1 at ab a1;generalize d[k+1]=p2 at ac a1;exact G.a bq oq d.length qc (k+1) 1 a2<|G.lU none bq (oq+(k+1)*1) (.int .i64 p2) ac<|G.s (k+1:Nat) 1 k<|G.a bq oq d.length qc k 1 oV<|G.lU none bq (oq+k*1) (.int .i64 p1) ab<|G.kF p2 p1<|G.p (k+1:Nat) 1 (k+1+1:Nat)<|G.b (aq (k+1) _ _ _ cV l8 ⟨oV,rfl⟩ oV)
  refine G.lF (k+1:Nat) d.length<|G.i i ?_;exact G.b (hJ (i+1,L2,N',(some ⟨b4,0,none⟩,c4)) _ _ _ cV ((((l2.trans l3).trans l5).trans l6).trans l8) ⟨dV,a6,Y.symm,by
   intro r Z q K;dsimp only at Z K⊢;rw[a4,A04,A07]at Z;rcases Z with Z|rfl
   ·exact F r Z q K
   exact C q K,I⟩ dV)
 obtain rfl:i=R.length:=oV;refine G.lF R.length R.length ?_;rw[A05]at O;refine G.callK _ _ kV call229 (Aiy (b:=g) (c:=n) (L:=L) hL.symm oV (fun j s hs=>P.el 0 rfl (x:=Aqs g n L) rfl (by show (L.map Value.bool)[j]?=_;rw[A0n,hs];rfl)) fun s hs=>by
  obtain⟨j,hj,rfl⟩:=A2a hs;obtain⟨r,Z,K⟩:=ok.all j oV;have:=O r Z j K;rw[A0i hj]at this;exact A2k this) ?_
 rintro v3 u3 l3 rfl;exact G.drop PH.mt kV (PH.mt_le _)<|G.r (.int .i64 0) ⟨rfl,rfl⟩
end
structure B2 (u:PH)(T:List (List UInt8×Nat))(R:List Bw)(F:List Ao)(lab:Int):Prop where
 att:Av6 T
 rel:Aen u T.length R
 feat:Ej T F lab
 t1:0<T.length
 t2:T.length<=12
 r1:0<R.length
 r2:R.length<=6
 f2:F.length<=8
 l1:-1<=lab
 l2:∀ l:Nat,lab=(l:Int)->∃ n,T[l]?=some (n,2)
def Aen.mono {u u':PH}{n:Nat}{R:List Bw}(h:Aen u n R)(hl:PH.le u u'):Aen u' n R:=⟨h.names,h.ne,h.lt,h.len,h.asc,h.all,fun r hr=>(h.at' r hr).mono hl⟩
def B2.mono {u u':PH}{T:List (List UInt8×Nat)}{R:List Bw}{F:List Ao}{lab:Int}(h:B2 u T R F lab)(hl:PH.le u u'):B2 u' T R F lab:=⟨h.att,h.rel.mono hl,h.feat,h.t1,h.t2,h.r1,h.r2,h.f2,h.l1,h.l2⟩
def Ic (u:PH)(v:Value)(T:List (List UInt8×Nat))(R:List Bw)(F:List Ao)(lab:Int):Prop :=
 ∃ a c b d e f,v=.agg #[.slice a T.length c,.slice b R.length d,.slice e F.length f,.int .i64 lab]/\Ab u (.slice a T.length c) 2 (T.map Ia)/\Ab u (.slice b R.length d) 2 (R.map Ai6)/\Ab u (.slice e F.length f) 3 (F.map C4)
def Ic.mono {u u':PH}{v:Value}{T:List (List UInt8×Nat)}{R:List Bw}{F:List Ao}{lab:Int}(h:Ic u v T R F lab)(hl:PH.le u u'):Ic u' v T R F lab:=by
 obtain⟨a,c,b,d,e,f,hv,h1,h2,h3⟩:=h;exact⟨a,c,b,d,e,f,hv,h1.mono hl,h2.mono hl,h3.mono hl⟩
def Ahy {u:PH}{v:Value}{T:List (List UInt8×Nat)}{R:List Bw}{F:List Ao}{lab:Int}(h:Ic u v T R F lab)(ok:B2 u T R F lab) :
 Fn0 prog 106 [v] u fun r _=>r=.int .i64 0:=by
 obtain⟨a,c,b,d,e,f,rfl,hT,W,hF⟩:=h;have t1:=ok.t1;have t2:=ok.t2;have r1:=ok.r1;have r2:=ok.r2;have f2:=ok.f2;have lo:=ok.l1;have hi:lab<T.length:=by
  rcases A43 lab 0 with t|I
  ·omega
  obtain⟨n,K⟩:=ok.l2 lab.toNat oV;obtain⟨hk,_⟩:=A0o.1 K;omega
 refine Fn0.o func106<|G.eF T.length 0<|G.gF T.length 12<|G.eF R.length 0<|G.gF R.length 6<|G.gF F.length 8<|G.buildU 130 1 8 (.nilFunc) [.func (.func 185) #[] #[],.func (.func 186) #[] #[],.func (.func 187) #[] #[]] kV (fun x O=>by
  simp only[A0v,A1q,or_false]at O;rcases O with rfl|rfl|rfl<;>exact⟨rfl,A06.1 rfl⟩) rfl oV mV mV ?_
 intro g u1 Y U;refine G.l (ι:=Nat) (fun i=>[(1,.p 0 0),(34,sV (some ⟨g,0,none⟩) 3 3),(35,iV (3:Nat)),(36,iV i)])
  (fun _=>[(0,⟨28,[sV a T.length c,sV b R.length d,sV e F.length f,iV lab]⟩)])
  (fun i u' Z=>i<=3/\Z=PH.mt) (fun i=>3-i) 0 ⟨oV,rfl⟩ ?_
 rintro J i H u2 m2 l2 ⟨X,rfl⟩;have m:=Y.trans l2;have E:=U.mono l2;by_cases t:i<3
 ·refine G.lT i (3:Nat)<|G.a g 0 3 3 i 1 t ?_;rcases (by omega:i=0\/i=1\/i=2) with rfl|rfl|rfl
  ·refine G.lU none g (0+0*1) (.func (.func 185) #[] #[]) (E 0 _ rfl)<|G.c call185 (Aej (w:=.slice b R.length d) (x:=.slice e F.length f) (y:=.int .i64 lab) (hT.mono m) ok.att oV ⟨_,_,_,rfl⟩ ⟨_,_,_,rfl⟩ ⟨_,rfl⟩) ?_;rintro Q P z rfl;exact G.nF 0 0<|G.p (0:Nat) 1 (0+1:Nat)<|G.b (H (0+1) _ _ _ cV (l2.trans z) ⟨oV,rfl⟩ oV)
  ·refine G.lU none g (0+1*1) (.func (.func 186) #[] #[]) (E 1 _ rfl)<|G.c call186 (Ai3 (a0:=a) (c0:=c) (x:=.slice e F.length f) (y:=.int .i64 lab) (W.mono m) (ok.rel.mono m) oV oV oV ⟨_,_,_,rfl⟩ ⟨_,rfl⟩) ?_;rintro Q P z rfl;exact G.nF 0 0<|G.p (1:Nat) 1 (1+1:Nat)<|G.b (H (1+1) _ _ _ cV (l2.trans z) ⟨oV,rfl⟩ oV)
  refine G.lU none g (0+2*1) (.func (.func 187) #[] #[]) (E 2 _ rfl)<|G.c call187 (Anp (w:=.slice b R.length d) (hT.mono m) (hF.mono m) ok.feat oV oV ⟨_,_,_,rfl⟩) ?_;rintro Q P z rfl;exact G.nF 0 0<|G.p (2:Nat) 1 (2+1:Nat)<|G.b (H (2+1) _ _ _ cV (l2.trans z) ⟨oV,rfl⟩ oV)
 obtain rfl:i=3:=oV;refine G.lF (3:Nat) (3:Nat)<|G.lF lab (-1)<|G.hF lab T.length ?_;rcases A43 lab 0 with N|I
 ·exact G.hF lab 0<|G.r (.int .i64 0) ⟨rfl,rfl⟩
 refine G.hT lab 0 ?_;obtain⟨l,rfl⟩:∃ l:Nat,lab=(l:Int):=⟨lab.toNat,oV⟩;obtain⟨n,K⟩:=ok.l2 l rfl;obtain⟨C,L,rfl,V⟩:=Ab.at' (hT.mono m) (j:=l) (e:=Ia (n,2)) (by simp[K]);exact G.a C L T.length c l 2 oV<|G.f 94 C (L+l*2) 1 1<|G.lU none C (L+l*2+1) (.int .i64 (2:Nat)) (Le V)<|G.nF (2:Nat) 2<|G.r (.int .i64 0) ⟨rfl,rfl⟩
section
section rules
variable {P:Program} [A6 P] {fn:Func} {Post:Ca} {st:List KI×S} {u m:PH}
end rules
end
def O8 {z:Int}(h:z.natAbs<1000000000000000000):Lib.nDigits z.natAbs<=400:=A0l (Dr (k:=18) oV oV) oV
structure Dat (q:Rat):Prop where
 num:q.num.natAbs<=1000000000
 den:q.den<=12
def Dat.tx {q:Rat}(h:Dat q):Tx q:=⟨O8 (by have:=h.num;omega),by have:=O8 (z:=(q.den:Int)) (by have:=h.den;omega);simpa using this⟩
def CF.one1 (p:Par)(q:Rat):CF:=⟨1,Md (fun _=>0) p q,Md (fun _=>0) (p,p) (q*q)⟩
section
variable {F:CF}{K:Nat}{u:PH}{v:Value}
def Az8 (p:Par)(h:J0 u v F K)(Z:K<=1000000):Fn0 prog 128 [v,An p] u fun r _=>r=.string (mkS (Ag (F.s p))):=by
 obtain⟨T,Q,L,C,W,X,rfl,hT,hQ,E,Y,kT,kQ⟩:=h;refine Fn0.o func128<|G.l (ι:=Nat) (fun i=>[(3,.p 1 0),(8,sV L T.length C),(9,iV T.length),(10,iV i)]) (fun _=>[(1,⟨78,[iV p.1,tV p.2]⟩)])
  (fun i u' V=>i<=T.length/\(∀ j (d:j<T.length),j<i->(T[j]'d).1≠p)/\V=PH.mt) (fun i=>T.length-i) 0 ⟨oV,fun j d h=>oV,rfl⟩ ?_
 rintro J i O u1 m1 H ⟨hi,h0,rfl⟩;by_cases g:i<T.length
 ·refine G.lT i T.length ?_;have t:T[i]?=some T[i]:=A0i g;have m:=(E.val _ (A0y g)).1;obtain⟨z,I,rfl,N⟩:=Ab.at' (hT.mono H) (j:=i) (e:=As T[i]) (by simp[t]);refine G.a z I T.length C i 3 oV<|G.lU (some 3) z (I+i*3) (.agg #[.int .i64 T[i].1.1,.string (mkS T[i].1.2),.string (mkS (Ag T[i].2))]) N ?_;by_cases n:T[i].1=p
  ·exact G.eqAgg 78 #[.int .i64 T[i].1.1,.string (mkS T[i].1.2)] #[.int .i64 p.1,.string (mkS p.2)] true kV kV kV (fun w=>by rw[<-decide_eq_true n];exact Bo.eq T[i].1 p w)<|G.r (.string (mkS (Ag T[i].2))) ⟨rfl,by rw[m,n]⟩
  refine G.eqAgg 78 #[.int .i64 T[i].1.1,.string (mkS T[i].1.2)] #[.int .i64 p.1,.string (mkS p.2)] false kV kV kV (fun w=>by rw[<-decide_eq_false n];exact Bo.eq T[i].1 p w)<|G.i i ?_;exact G.b (O (i+1) _ _ _ cV H ⟨oV,fun j d h=>by
   rcases (by omega:j<i\/j=i) with e|rfl
   ·exact h0 j d e
   exact n,rfl⟩ oV)
 obtain rfl:i=T.length:=oV;refine G.lF T.length T.length ?_;have U:F.s p=0:=E.out p fun P=>by
  obtain⟨x,R,e⟩:=A0r.1 P;obtain⟨j,d,rfl⟩:=A2a R;exact h0 j d d e
 exact G.r (.string (mkS [48])) ⟨rfl,by rw[U,Ex]⟩
def Af3 (p q:Par)(h:J0 u v F K)(hK:K<=1000000):Fn0 prog 129 [v,An p,An q] u fun r _=>r=.string (mkS (Ag (F.t (Aw p q)))):=by
 obtain⟨T,Q,a1,c1,a2,R,rfl,hT,hQ,cT,U,kT,kQ⟩:=h;refine Fn0.o func129 ?_;by_cases E:Bf q p<0
 ·rw[show Aw p q=(q,p) by unfold Aw;rw[if_pos ((Dl.sym _ _).1 E)]];refine G.c call183 (T9 q p true (decide_eq_true E)) ?_;rintro v0 u0 Z rfl;refine G.l (ι:=Nat) (fun i=>[(4,.p 1 0),(5,.p 2 0),(15,sV a2 Q.length R),(16,iV Q.length),(17,iV i)]) (fun _=>[(1,⟨78,[iV q.1,tV q.2]⟩),(2,⟨78,[iV p.1,tV p.2]⟩)])
   (fun i u' m'=>i<=Q.length/\(∀ j (m:j<Q.length),j<i->(Q[j]'m).1≠(q,p))/\m'=PH.mt) (fun i=>Q.length-i) 0 ⟨oV,fun j m h=>oV,rfl⟩ ?_
  rintro J i O u1 m1 L ⟨hi,h0,rfl⟩;by_cases n:i<Q.length
  ·refine G.lT i Q.length ?_;have H:Q[i]?=some Q[i]:=A0i n;have z:=(U.val _ (A0y n)).1;obtain⟨N,P,rfl,V⟩:=Ab.at' (hQ.mono (Z.trans L)) (j:=i) (e:=D6 Q[i]) (by simp[H]);have d:Q[i].1≠(q,p)->∀ j (m:j<Q.length),j<i+1->(Q[j]'m).1≠(q,p):=fun I j m h=>by
    rcases (by omega:j<i\/j=i) with e|rfl
    ·exact h0 j m e
    exact I
   refine G.a N P Q.length R i 5 oV<|G.lU (some 5) N (P+i*5) (.agg #[.int .i64 Q[i].1.1.1,.string (mkS Q[i].1.1.2),.int .i64 Q[i].1.2.1,.string (mkS Q[i].1.2.2),.string (mkS (Ag Q[i].2))]) V ?_;by_cases C:Q[i].1.1=q
   ·refine G.eqAgg 78 #[.int .i64 Q[i].1.1.1,.string (mkS Q[i].1.1.2)] #[.int .i64 q.1,.string (mkS q.2)] true kV kV kV (fun w=>by rw[<-decide_eq_true C];exact Bo.eq Q[i].1.1 q w) ?_;by_cases g:Q[i].1.2=p
    ·exact G.eqAgg 78 #[.int .i64 Q[i].1.2.1,.string (mkS Q[i].1.2.2)] #[.int .i64 p.1,.string (mkS p.2)] true kV kV kV (fun w=>by rw[<-decide_eq_true g];exact Bo.eq Q[i].1.2 p w)<|G.r (.string (mkS (Ag Q[i].2))) ⟨rfl,by rw[z,show Q[i].1=(q,p) from A56 C g]⟩
    exact G.eqAgg 78 #[.int .i64 Q[i].1.2.1,.string (mkS Q[i].1.2.2)] #[.int .i64 p.1,.string (mkS p.2)] false kV kV kV (fun w=>by rw[<-decide_eq_false g];exact Bo.eq Q[i].1.2 p w)<|G.i i<|G.b (O (i+1) _ _ _ cV L ⟨oV,d fun e=>g (congrArg Prod.snd e),rfl⟩ oV)
   exact G.eqAgg 78 #[.int .i64 Q[i].1.1.1,.string (mkS Q[i].1.1.2)] #[.int .i64 q.1,.string (mkS q.2)] false kV kV kV (fun w=>by rw[<-decide_eq_false C];exact Bo.eq Q[i].1.1 q w)<|G.i i<|G.b (O (i+1) _ _ _ cV L ⟨oV,d fun e=>C (congrArg Prod.fst e),rfl⟩ oV)
  obtain rfl:i=Q.length:=oV;refine G.lF Q.length Q.length ?_;have Y:F.t (q,p)=0:=U.out (q,p) fun W=>by
   obtain⟨x,X,e⟩:=A0r.1 W;obtain⟨j,m,rfl⟩:=A2a X;exact h0 j m m e
  exact G.r (.string (mkS [48])) ⟨rfl,by rw[Y,Ex]⟩
 rw[show Aw p q=(p,q) by unfold Aw;rw[if_neg fun e=>E ((Dl.sym _ _).2 e)]];refine G.c call183 (T9 q p false (decide_eq_false E)) ?_;rintro v0 u0 Z rfl;refine G.l (ι:=Nat) (fun i=>[(4,.p 1 0),(5,.p 2 0),(15,sV a2 Q.length R),(16,iV Q.length),(17,iV i)]) (fun _=>[(1,⟨78,[iV p.1,tV p.2]⟩),(2,⟨78,[iV q.1,tV q.2]⟩)])
  (fun i u' m'=>i<=Q.length/\(∀ j (m:j<Q.length),j<i->(Q[j]'m).1≠(p,q))/\m'=PH.mt) (fun i=>Q.length-i) 0 ⟨oV,fun j m h=>oV,rfl⟩ ?_
 rintro J i O u1 m1 L ⟨hi,h0,rfl⟩;by_cases n:i<Q.length
 ·refine G.lT i Q.length ?_;have H:Q[i]?=some Q[i]:=A0i n;have z:=(U.val _ (A0y n)).1;obtain⟨N,P,rfl,V⟩:=Ab.at' (hQ.mono (Z.trans L)) (j:=i) (e:=D6 Q[i]) (by simp[H]);have d:Q[i].1≠(p,q)->∀ j (m:j<Q.length),j<i+1->(Q[j]'m).1≠(p,q):=fun I j m h=>by
   rcases (by omega:j<i\/j=i) with e|rfl
   ·exact h0 j m e
   exact I
  refine G.a N P Q.length R i 5 oV<|G.lU (some 5) N (P+i*5) (.agg #[.int .i64 Q[i].1.1.1,.string (mkS Q[i].1.1.2),.int .i64 Q[i].1.2.1,.string (mkS Q[i].1.2.2),.string (mkS (Ag Q[i].2))]) V ?_;by_cases C:Q[i].1.1=p
  ·refine G.eqAgg 78 #[.int .i64 Q[i].1.1.1,.string (mkS Q[i].1.1.2)] #[.int .i64 p.1,.string (mkS p.2)] true kV kV kV (fun w=>by rw[<-decide_eq_true C];exact Bo.eq Q[i].1.1 p w) ?_;by_cases g:Q[i].1.2=q
   ·exact G.eqAgg 78 #[.int .i64 Q[i].1.2.1,.string (mkS Q[i].1.2.2)] #[.int .i64 q.1,.string (mkS q.2)] true kV kV kV (fun w=>by rw[<-decide_eq_true g];exact Bo.eq Q[i].1.2 q w)<|G.r (.string (mkS (Ag Q[i].2))) ⟨rfl,by rw[z,show Q[i].1=(p,q) from A56 C g]⟩
   exact G.eqAgg 78 #[.int .i64 Q[i].1.2.1,.string (mkS Q[i].1.2.2)] #[.int .i64 q.1,.string (mkS q.2)] false kV kV kV (fun w=>by rw[<-decide_eq_false g];exact Bo.eq Q[i].1.2 q w)<|G.i i<|G.b (O (i+1) _ _ _ cV L ⟨oV,d fun e=>g (congrArg Prod.snd e),rfl⟩ oV)
  exact G.eqAgg 78 #[.int .i64 Q[i].1.1.1,.string (mkS Q[i].1.1.2)] #[.int .i64 p.1,.string (mkS p.2)] false kV kV kV (fun w=>by rw[<-decide_eq_false C];exact Bo.eq Q[i].1.1 p w)<|G.i i<|G.b (O (i+1) _ _ _ cV L ⟨oV,d fun e=>C (congrArg Prod.fst e),rfl⟩ oV)
 obtain rfl:i=Q.length:=oV;refine G.lF Q.length Q.length ?_;have Y:F.t (p,q)=0:=U.out (p,q) fun W=>by
  obtain⟨x,X,e⟩:=A0r.1 W;obtain⟨j,m,rfl⟩:=A2a X;exact h0 j m m e
 exact G.r (.string (mkS [48])) ⟨rfl,by rw[Y,Ex]⟩
end
section
variable {p:Par}{q:Rat}
def Aqc {d N:Nat}(e:Dn d N 1)(h:Dn d N q)(g:Dn d N (q*q)):CFD d N (CF.one1 p q) :=
 ⟨e,fun k=>by
  show Dn d N (Md (fun _=>(0:Rat)) p q k);unfold Md;split
  ·exact h
  ·exact Dn.zero _ _,fun k=>by
  show Dn d N (Md (fun _=>(0:Rat)) (p,p) (q*q) k);unfold Md;split
  ·exact g
  exact Dn.zero _ _⟩
def Are (hp:PV p):CFV (CF.one1 p q) :=
 ⟨fun k d=>by
  have d:Md (fun _=>(0:Rat)) p q k≠0:=d;unfold Md at d;split at d
  ·subst_vars;exact hp
  ·exact absurd rfl d,fun k d=>by
  have d:Md (fun _=>(0:Rat)) (p,p) (q*q) k≠0:=d;unfold Md at d;split at d
  ·subst_vars
   exact⟨hp,hp,fun e=>by
   have e:0<Bf p p:=e;have:=(Dl.sym _ _).2 e;omega⟩
  exact absurd rfl d⟩
def He.listP {u:PH}{g sz:Nat}{es:List Value}(h:He u g 0 sz es):Ab u (.slice (some ⟨g,0,none⟩) es.length es.length) sz es:=⟨_,_,rfl,A0s _,fun j e d=>⟨g,0,rfl,h j e d⟩⟩
def Ae4 {L:List (List UInt8)}(h:(L.all Kh&&decide L.Nodup)=true):X7 L:=by
 rw[A1b,A06,decide_eq_true_iff]at h;exact⟨h.1,h.2⟩
end
def pw {n:Nat}(h:n<10^30):n<10^100:=A12 h jV
section
variable {F:CF}{K:Nat}{p q:Par}{u:PH}{v:Value}
def Atq (h:p.1<q.1):Bf p q<0:=by
 have e:P6 p.1 q.1 = -1:=by unfold P6;rw[if_pos h]
 unfold Bf;rw[e,if_pos fV];decide
def Avq (h:¬ p.1<q.1)(d:p.1≠q.1):¬ Bf p q<0:=by
 have e:P6 p.1 q.1=1:=by unfold P6;rw[if_neg h,if_pos oV]
 unfold Bf;rw[e,if_pos fV];decide
def Aug (h:p.1=q.1):decide (Bf p q<0)=Op.bytesLess p.2 q.2:=by
 have e:P6 p.1 q.1=0:=by unfold P6;rw[if_neg oV,if_neg oV]
 unfold Bf;rw[e,if_neg fV];unfold Ur;cases Op.bytesLess p.2 q.2 with
 |true=>rfl
 |false =>
  simp only[A3z,if_false];split<;>rfl
def Ev (p q:Par)(r:Bool)(h:decide (Bf p q<0)=r):Fn0 prog 125 [An p,An q] u fun v _=>v=.bool r:=by
 refine Fn0.o func125 ?_;by_cases d:p.1<q.1
 ·refine G.lT' p.1 q.1 d ?_;rw[decide_eq_true (Atq d)]at h;subst h;exact G.r (.bool true) ⟨rfl,rfl⟩
 refine G.lF' p.1 q.1 d ?_;by_cases e:p.1=q.1
 ·rw[Aug e]at h;refine G.eT' p.1 q.1 e<|G.ltS p.2 q.2 r kV h ?_;cases r with
  |true=>exact G.r (.bool true) ⟨rfl,rfl⟩
  |false=>exact G.r (.bool false) ⟨rfl,rfl⟩
 rw[decide_eq_false (Avq d e)]at h;subst h;exact G.eF' p.1 q.1 e<|G.r (.bool false) ⟨rfl,rfl⟩
def Avf (p:Par)(h:J0 u v F K)(Z:K<=1000000):Fn0 prog 165 [v,An p] u fun r _=>r=.string (mkS (Ag (F.s p))):=by
 obtain⟨T,Q,L,C,W,X,rfl,hT,hQ,E,Y,kT,kQ⟩:=h;refine Fn0.o func165<|G.l (ι:=Nat) (fun i=>[(3,.p 1 0),(8,sV L T.length C),(9,iV T.length),(10,iV i)]) (fun _=>[(1,⟨78,[iV p.1,tV p.2]⟩)])
  (fun i u' V=>i<=T.length/\(∀ j (d:j<T.length),j<i->(T[j]'d).1≠p)/\V=PH.mt) (fun i=>T.length-i) 0 ⟨oV,fun j d h=>oV,rfl⟩ ?_
 rintro J i O u1 m1 H ⟨hi,h0,rfl⟩;by_cases g:i<T.length
 ·refine G.lT i T.length ?_;have t:T[i]?=some T[i]:=A0i g;have m:=(E.val _ (A0y g)).1;obtain⟨z,I,rfl,N⟩:=Ab.at' (hT.mono H) (j:=i) (e:=As T[i]) (by simp[t]);refine G.a z I T.length C i 3 oV<|G.lU (some 3) z (I+i*3) (.agg #[.int .i64 T[i].1.1,.string (mkS T[i].1.2),.string (mkS (Ag T[i].2))]) N ?_;by_cases n:T[i].1=p
  ·exact G.eqAgg 78 #[.int .i64 T[i].1.1,.string (mkS T[i].1.2)] #[.int .i64 p.1,.string (mkS p.2)] true kV kV kV (fun w=>by rw[<-decide_eq_true n];exact Bo.eq T[i].1 p w)<|G.r (.string (mkS (Ag T[i].2))) ⟨rfl,by rw[m,n]⟩
  refine G.eqAgg 78 #[.int .i64 T[i].1.1,.string (mkS T[i].1.2)] #[.int .i64 p.1,.string (mkS p.2)] false kV kV kV (fun w=>by rw[<-decide_eq_false n];exact Bo.eq T[i].1 p w)<|G.i i ?_;exact G.b (O (i+1) _ _ _ cV H ⟨oV,fun j d h=>by
   rcases (by omega:j<i\/j=i) with e|rfl
   ·exact h0 j d e
   exact n,rfl⟩ oV)
 obtain rfl:i=T.length:=oV;refine G.lF T.length T.length ?_;have U:F.s p=0:=E.out p fun P=>by
  obtain⟨x,R,e⟩:=A0r.1 P;obtain⟨j,d,rfl⟩:=A2a R;exact h0 j d d e
 exact G.r (.string (mkS [48])) ⟨rfl,by rw[U,Ex]⟩
def Ul (p q:Par)(h:J0 u v F K)(hK:K<=1000000):Fn0 prog 166 [v,An p,An q] u fun r _=>r=.string (mkS (Ag (F.t (Aw p q)))):=by
 obtain⟨T,Q,a1,c1,a2,R,rfl,hT,hQ,cT,U,kT,kQ⟩:=h;refine Fn0.o func166 ?_;by_cases E:Bf q p<0
 ·rw[show Aw p q=(q,p) by unfold Aw;rw[if_pos ((Dl.sym _ _).1 E)]];refine G.c call125 (Ev q p true (decide_eq_true E)) ?_;rintro v0 u0 Z rfl;refine G.l (ι:=Nat) (fun i=>[(4,.p 1 0),(5,.p 2 0),(15,sV a2 Q.length R),(16,iV Q.length),(17,iV i)]) (fun _=>[(1,⟨78,[iV q.1,tV q.2]⟩),(2,⟨78,[iV p.1,tV p.2]⟩)])
   (fun i u' m'=>i<=Q.length/\(∀ j (m:j<Q.length),j<i->(Q[j]'m).1≠(q,p))/\m'=PH.mt) (fun i=>Q.length-i) 0 ⟨oV,fun j m h=>oV,rfl⟩ ?_
  rintro J i O u1 m1 L ⟨hi,h0,rfl⟩;by_cases n:i<Q.length
  ·refine G.lT i Q.length ?_;have H:Q[i]?=some Q[i]:=A0i n;have z:=(U.val _ (A0y n)).1;obtain⟨N,P,rfl,V⟩:=Ab.at' (hQ.mono (Z.trans L)) (j:=i) (e:=D6 Q[i]) (by simp[H]);have d:Q[i].1≠(q,p)->∀ j (m:j<Q.length),j<i+1->(Q[j]'m).1≠(q,p):=fun I j m h=>by
    rcases (by omega:j<i\/j=i) with e|rfl
    ·exact h0 j m e
    exact I
   refine G.a N P Q.length R i 5 oV<|G.lU (some 5) N (P+i*5) (.agg #[.int .i64 Q[i].1.1.1,.string (mkS Q[i].1.1.2),.int .i64 Q[i].1.2.1,.string (mkS Q[i].1.2.2),.string (mkS (Ag Q[i].2))]) V ?_;by_cases C:Q[i].1.1=q
   ·refine G.eqAgg 78 #[.int .i64 Q[i].1.1.1,.string (mkS Q[i].1.1.2)] #[.int .i64 q.1,.string (mkS q.2)] true kV kV kV (fun w=>by rw[<-decide_eq_true C];exact Bo.eq Q[i].1.1 q w) ?_;by_cases g:Q[i].1.2=p
    ·exact G.eqAgg 78 #[.int .i64 Q[i].1.2.1,.string (mkS Q[i].1.2.2)] #[.int .i64 p.1,.string (mkS p.2)] true kV kV kV (fun w=>by rw[<-decide_eq_true g];exact Bo.eq Q[i].1.2 p w)<|G.r (.string (mkS (Ag Q[i].2))) ⟨rfl,by rw[z,show Q[i].1=(q,p) from A56 C g]⟩
    exact G.eqAgg 78 #[.int .i64 Q[i].1.2.1,.string (mkS Q[i].1.2.2)] #[.int .i64 p.1,.string (mkS p.2)] false kV kV kV (fun w=>by rw[<-decide_eq_false g];exact Bo.eq Q[i].1.2 p w)<|G.i i<|G.b (O (i+1) _ _ _ cV L ⟨oV,d fun e=>g (congrArg Prod.snd e),rfl⟩ oV)
   exact G.eqAgg 78 #[.int .i64 Q[i].1.1.1,.string (mkS Q[i].1.1.2)] #[.int .i64 q.1,.string (mkS q.2)] false kV kV kV (fun w=>by rw[<-decide_eq_false C];exact Bo.eq Q[i].1.1 q w)<|G.i i<|G.b (O (i+1) _ _ _ cV L ⟨oV,d fun e=>C (congrArg Prod.fst e),rfl⟩ oV)
  obtain rfl:i=Q.length:=oV;refine G.lF Q.length Q.length ?_;have Y:F.t (q,p)=0:=U.out (q,p) fun W=>by
   obtain⟨x,X,e⟩:=A0r.1 W;obtain⟨j,m,rfl⟩:=A2a X;exact h0 j m m e
  exact G.r (.string (mkS [48])) ⟨rfl,by rw[Y,Ex]⟩
 rw[show Aw p q=(p,q) by unfold Aw;rw[if_neg fun e=>E ((Dl.sym _ _).2 e)]];refine G.c call125 (Ev q p false (decide_eq_false E)) ?_;rintro v0 u0 Z rfl;refine G.l (ι:=Nat) (fun i=>[(4,.p 1 0),(5,.p 2 0),(15,sV a2 Q.length R),(16,iV Q.length),(17,iV i)]) (fun _=>[(1,⟨78,[iV p.1,tV p.2]⟩),(2,⟨78,[iV q.1,tV q.2]⟩)])
  (fun i u' m'=>i<=Q.length/\(∀ j (m:j<Q.length),j<i->(Q[j]'m).1≠(p,q))/\m'=PH.mt) (fun i=>Q.length-i) 0 ⟨oV,fun j m h=>oV,rfl⟩ ?_
 rintro J i O u1 m1 L ⟨hi,h0,rfl⟩;by_cases n:i<Q.length
 ·refine G.lT i Q.length ?_;have H:Q[i]?=some Q[i]:=A0i n;have z:=(U.val _ (A0y n)).1;obtain⟨N,P,rfl,V⟩:=Ab.at' (hQ.mono (Z.trans L)) (j:=i) (e:=D6 Q[i]) (by simp[H]);have d:Q[i].1≠(p,q)->∀ j (m:j<Q.length),j<i+1->(Q[j]'m).1≠(p,q):=fun I j m h=>by
   rcases (by omega:j<i\/j=i) with e|rfl
   ·exact h0 j m e
   exact I
  refine G.a N P Q.length R i 5 oV<|G.lU (some 5) N (P+i*5) (.agg #[.int .i64 Q[i].1.1.1,.string (mkS Q[i].1.1.2),.int .i64 Q[i].1.2.1,.string (mkS Q[i].1.2.2),.string (mkS (Ag Q[i].2))]) V ?_;by_cases C:Q[i].1.1=p
  ·refine G.eqAgg 78 #[.int .i64 Q[i].1.1.1,.string (mkS Q[i].1.1.2)] #[.int .i64 p.1,.string (mkS p.2)] true kV kV kV (fun w=>by rw[<-decide_eq_true C];exact Bo.eq Q[i].1.1 p w) ?_;by_cases g:Q[i].1.2=q
   ·exact G.eqAgg 78 #[.int .i64 Q[i].1.2.1,.string (mkS Q[i].1.2.2)] #[.int .i64 q.1,.string (mkS q.2)] true kV kV kV (fun w=>by rw[<-decide_eq_true g];exact Bo.eq Q[i].1.2 q w)<|G.r (.string (mkS (Ag Q[i].2))) ⟨rfl,by rw[z,show Q[i].1=(p,q) from A56 C g]⟩
   exact G.eqAgg 78 #[.int .i64 Q[i].1.2.1,.string (mkS Q[i].1.2.2)] #[.int .i64 q.1,.string (mkS q.2)] false kV kV kV (fun w=>by rw[<-decide_eq_false g];exact Bo.eq Q[i].1.2 q w)<|G.i i<|G.b (O (i+1) _ _ _ cV L ⟨oV,d fun e=>g (congrArg Prod.snd e),rfl⟩ oV)
  exact G.eqAgg 78 #[.int .i64 Q[i].1.1.1,.string (mkS Q[i].1.1.2)] #[.int .i64 p.1,.string (mkS p.2)] false kV kV kV (fun w=>by rw[<-decide_eq_false C];exact Bo.eq Q[i].1.1 p w)<|G.i i<|G.b (O (i+1) _ _ _ cV L ⟨oV,d fun e=>C (congrArg Prod.fst e),rfl⟩ oV)
 obtain rfl:i=Q.length:=oV;refine G.lF Q.length Q.length ?_;have Y:F.t (p,q)=0:=U.out (p,q) fun W=>by
  obtain⟨x,X,e⟩:=A0r.1 W;obtain⟨j,m,rfl⟩:=A2a X;exact h0 j m m e
 exact G.r (.string (mkS [48])) ⟨rfl,by rw[Y,Ex]⟩
end
section
variable {F:CF}{N' g:Nat}{q:Rat}{v x:Value}{y1 y3:Bool}{y2 y4:SlI}
section
variable {P:Program} [A6 P] {fn:Func} {Post:Ca} {st:List KI×S} {u m:PH}
theorem Qj {d:Operand->Value}{o:Op}{t:TypeId}{L:List (Nat×Value)}(h:Bc P d o=.build t L):∃ e:Array (Nat×Operand),o=.build t e/\e.toList.map (fun x=>(x.1,d x.2))=L:=by
 cases o<;>simp only[Bc]at h<;>try cases h
 any_goals ((repeat' split at h)<;>cases h;done)
 grind
def G.buildArr (t e:TypeId)(p q:Par)(h:Ak P (adv P st)=.build t [(0,An p),(1,An q)])(L:P.underlying t=some (.array 2 e))(J:szB P e=some 2)(O:Pn P t=some (.agg #[.int .i64 0,.string (mkS []),.int .i64 0,.string (mkS [])]))
 (k:G P fn Post (nx (adv P st) (.agg #[.int .i64 p.1,.string (mkS p.2),.int .i64 q.1,.string (mkS q.2)])) u m):G P fn Post st u m:=by
 refine G.ask h mV (fun n o d w hp=>?_) k;obtain⟨R,C,T⟩:=Qj d;obtain⟨H,Q,E,pos,j,z⟩:=o;simp only at C;subst C;have I:(R.map fun x=>(x.1,n x.2)).toList = [(0,An p),(1,An q)]:=by simp_all
 simp only[execOp,Instr.build,Sem.run_bind,K5 O,Result.andThen_ok,run_underlying L,Bg J,I];rfl
end
def D3 {κ:Type}(enc:κ->Value)(K:κ->Prop)(u:PH)(o:Obj)(f:κ->Rat)(N:Nat):Prop :=
 ∃ l:List (κ×Value),Ep enc o l/\(∀ p∈l,QP u p.2 (f p.1)/\K p.1/\Sz (f p.1) 12)/\(∀ k,k∉l.map (·.1)->f k=0)/\l.length<=N
section
variable {κ:Type} [DecidableEq κ] {enc:κ->Value} {K:κ->Prop} {u:PH} {o:Obj} {f:κ->Rat} {N:Nat}
def D3.mono {u':PH}(h:D3 enc K u o f N)(hl:PH.le u u'):D3 enc K u' o f N:=by
 obtain⟨l,h1,h2,h3,h4⟩:=h;exact⟨l,h1,fun p hp=>⟨(h2 p hp).1.mono hl,(h2 p hp).2⟩,h3,h4⟩
def D3.up (h:D3 enc K u o f N)(t:N<=N'):D3 enc K u o f N':=by
 obtain⟨l,d,e,j,n⟩:=h;exact⟨l,d,e,j,A0l n t⟩
def D3.congr {f':κ->Rat}(h:D3 enc K u o f N)(e:∀ k,f k=f' k):D3 enc K u o f' N:=by
 rw[<-funext e];exact h
def D3.empty:D3 enc K u (.map #[] 0) (fun _=>0) 0:=⟨[],Ep.empty,mV,fun _ _=>rfl,A0s _⟩
theorem D3.put {o':Obj}{a:κ}{x:Value}{q:Rat}{l:List (κ×Value)}(n:Ep enc o l)(t:∀ p∈l,QP u p.2 (f p.1)/\K p.1/\Sz (f p.1) 12)(h:∀ k,k∉l.map (·.1)->f k=0)(z:l.length<=N)
 (e:Ep enc o' (Is a x l)) (E:QP u x q) (d:K a) (C:Sz q 12):D3 enc K u o' (Md f a q) (N+1):=by
 refine⟨_,e,fun p hp=>?_,fun k d=>?_,A0l Ug oV⟩
 ·unfold Md;rcases Ado n.nodup hp with rfl|⟨hp,j⟩
  ·grind
  grind
 rw[Zi,not_or]at d;unfold Md;rw[if_neg d.1];exact h k d.2
end
def KT {κ:Type}(_:κ):Prop:=True
def KO (k:Par×Par):Prop:=¬ 0<Bf k.1 k.2
theorem KO.pair (p q:Par):KO (Aw p q):=by
 unfold KO Aw;have d:=Dl.sym p q;by_cases h:0<Bf p q
 ·grind
 grind
def J7 (m' u:PH)(v:Value)(F:CF)(N:Nat):Prop :=
 ∃ b a n c b' a' n' c' g1 g2 o1 o2,v=.agg #[.bool b,.slice a n c,.bool b',.slice a' n' c',.map (some g1),.map (some g2)]/\QP u (.agg #[.bool b,.slice a n c,.bool b',.slice a' n' c']) F.c/\g1≠g2/\m'=(PH.mt.upd g1 o1).upd g2 o2/\D3 An KT u o1 F.s N/\D3 prV KO u o2 F.t N
def Rl (u:PH)(v:Value)(F:CF)(N:Nat):Prop :=
 ∃ b a n c b' a' n' c' g1 g2 o1 o2,v=.agg #[.bool b,.slice a n c,.bool b',.slice a' n' c',.map (some g1),.map (some g2)]/\QP u (.agg #[.bool b,.slice a n c,.bool b',.slice a' n' c']) F.c/\u g1=some o1/\u g2=some o2/\D3 An KT u o1 F.s N/\D3 prV KO u o2 F.t N
def Rl.mono {u u':PH}{v:Value}{F:CF}{N:Nat}(h:Rl u v F N)(hl:PH.le u u'):Rl u' v F N:=by
 obtain⟨b,a,n,c,b',a',n',c',g1,g2,o1,o2,e,h1,h2,h3,h4,h5⟩:=h;exact⟨b,a,n,c,b',a',n',c',g1,g2,o1,o2,e,h1.mono hl,hl _ _ h2,hl _ _ h3,h4.mono hl,h5.mono hl⟩
def J7.grow {j u t:PH}{N:Nat}(h:J7 j u v F N)(d:PH.le u t):J7 j t v F N:=by
 obtain⟨b,a,n,c,b',z,O,C,g1,g2,Q,R,e,E,H,I,J,L⟩:=h;exact⟨b,a,n,c,b',z,O,C,g1,g2,Q,R,e,E.mono d,H,I,J.mono d,L.mono d⟩
def J7.give {z u j:PH}{N:Nat}(h:J7 z u v F N)(d:PH.le u j)(t:PH.le z j):Rl j v F N:=by
 obtain⟨b,a,n,c,b',C,O,E,g1,g2,Q,R,e,H,I,rfl,J,L⟩:=h;exact⟨b,a,n,c,b',C,O,E,g1,g2,Q,R,e,H.mono d,t _ _ (by rw[Ad _ _ I,Ac]),t _ _ (Ac _ _ _),J.mono d,L.mono d⟩
def J7.congr {t u:PH}{F d:CF}{N N':Nat}(h:J7 t u v F N)(e:F=d)(j:N<=N'):J7 t u v d N':=by
 subst e;obtain⟨b,a,n,c,b',z,O,C,g1,g2,Q,R,e,E,H,I,J,L⟩:=h;exact⟨b,a,n,c,b',z,O,C,g1,g2,Q,R,e,E,H,I,J.up j,L.up j⟩
def Rk {u:PH}{N:Nat}(h:Rl u v F N):∃ b a n c b' d t j g1 g2,v=.agg #[.bool b,.slice a n c,.bool b',.slice d t j,.map (some g1),.map (some g2)]:=by
 obtain⟨b,a,n,c,b',d,t,j,g1,g2,z,C,e,_⟩:=h;exact⟨b,a,n,c,b',d,t,j,g1,g2,e⟩
def Oa {z u:PH}{N:Nat}(h:J7 z u v F N):∃ b a n c b' d t j g1 g2,v=.agg #[.bool b,.slice a n c,.bool b',.slice d t j,.map (some g1),.map (some g2)]:=by
 obtain⟨b,a,n,c,b',d,t,j,g1,g2,C,E,e,_⟩:=h;exact⟨b,a,n,c,b',d,t,j,g1,g2,e⟩
def I2 {u:PH}{n:Int}(H:-9223372036854775807<=n)(I:n<=9223372036854775807):Ah prog 73 [.int .i64 n] u PH.mt fun v R Q=>J7 Q R v ⟨(n:Rat),fun _=>0,fun _=>0⟩ 0:=by
 refine Ah.o func73<|G.c call24 (Od H I) ?_;intro V U T z;obtain⟨b,a,E,c,j,C,t,rfl,_⟩:=z.opn;refine G.mapMk kV ?_;intro g1 J L;refine G.mapMk kV ?_;intro g2 d O;have h:g1≠g2:=fun e=>by subst e;rw[Ac]at d;cases d
 exact G.r (.agg #[.bool b,.slice a E c,.bool false,.slice j C t,.map (some g1),.map (some g2)]) ⟨b,a,E,c,false,j,C,t,g1,g2,_,_,rfl,z,h,rfl,D3.empty,D3.empty⟩
theorem Nt {u:PH}{g2:Option Nat}{o:Obj}{f:Par->Rat}{N:Nat}{a:Par}(h:D3 An KT u o f N)(J:QP u x q)(hq:SB q)(hf:SB (f a))(I:SB (q+f a)) :
 Ah prog 147 [.agg #[.bool y1,.slice y2.1 y2.2.1 y2.2.2,.bool y3,.slice y4.1 y4.2.1 y4.2.2,.map (some g),.map g2],An a,x] u (Kv g o) fun v u' m'=>∃ o',m'=Kv g o'/\D3 An KT u' o' (Md f a (q+f a)) (N+1):=by
 obtain⟨l,e,j,H,Q⟩:=id h;obtain⟨b,X,n,c,U,n',c',rfl,_⟩:=J.opn;refine Ah.o func147 ?_;cases hx':D1 a l with
 |none =>
  have a0:f a=0:=H a (Hl.1 hx');have e0:q+f a=q:=by grind
  rw[e0]at I⊢;refine G.mapNot (et:=84) Bo fz g o l a kV kV (.inr (By _ _)) e hx'<|G.mapPut (et:=84) Bo g o l a (.agg #[.bool b,.slice X n c,.bool false,.slice U n' c']) kV kV (By _ _) e ?_;intro o' d;exact G.r (.tuple #[]) ⟨o',Ds _ _ _ _,D3.put e j H Q d J trivial I.sz⟩
 |some xv =>
  obtain⟨R,_,_⟩:=j _ (Ol hx');obtain⟨Y,V,n1,c1,t,L,C,rfl,_⟩:=R.opn;refine G.mapHas (et:=84) Bo fz g o l a (.agg #[.bool Y,.slice V n1 c1,.bool false,.slice t L C]) kV kV (.inr (By _ _)) e hx'<|G.c call25 (Oo J R (hq.sz.mono oV) (hf.sz.mono oV)) ?_;intro v1 u1 l1 T;obtain⟨Z,W,n2,c2,z,O,E,rfl,_⟩:=T.opn;refine G.mapPut (et:=84) Bo g o l a (.agg #[.bool Z,.slice W n2 c2,.bool false,.slice z O E]) kV kV (By _ _) e ?_;intro o' d;exact G.r (.tuple #[]) ⟨o',Ds _ _ _ _,D3.put e (fun p hp=>⟨(j p hp).1.mono l1,(j p hp).2⟩) H Q d T trivial I.sz⟩
theorem Hb {u:PH}{g1:Option Nat}{o:Obj}{f:Par×Par->Rat}{N:Nat}{p r:Par}(h:D3 prV KO u o f N)(C:QP u x q)(hq:SB q)(Y:SB (f (Aw p r)))(E:SB (q+f (Aw p r))) :
 Ah prog 148 [.agg #[.bool y1,.slice y2.1 y2.2.1 y2.2.2,.bool y3,.slice y4.1 y4.2.1 y4.2.2,.map g1,.map (some g)],An p,An r,x] u (Kv g o) fun v u' m'=>∃ o',m'=Kv g o'/\D3 prV KO u' o' (Md f (Aw p r) (q+f (Aw p r))) (N+1):=by
 obtain⟨b,aa,n,c,a',n',c',rfl,_⟩:=C.opn;refine Ah.o func148 ?_;have T:=KO.pair p r;by_cases z:Bf r p<0
 ·have he:Aw p r=(r,p):=by unfold Aw;rw[if_pos ((Dl.sym r p).1 z)]
  rw[he]at Y E T⊢;refine G.c call125 (Ev r p true (decide_eq_true z)) ?_;rintro v0 u0 X rfl;obtain⟨l,j,t,O,U⟩:=h.mono X;have C:=C.mono X;cases hx':D1 (r,p) l with
  |none =>
   have a0:f (r,p)=0:=O _ (Hl.1 hx');have e0:q+f (r,p)=q:=by grind
   rw[e0]at E⊢;refine G.buildArr 224 78 r p kV kV kV kV<|G.mapNot (et:=84) Id fz g o l (r,p) kV kV (.inr (By _ _)) j hx'<|G.mapPut (et:=84) Id g o l (r,p) (.agg #[.bool b,.slice aa n c,.bool false,.slice a' n' c']) kV kV (By _ _) j ?_;intro o' d;exact G.r (.tuple #[]) ⟨o',Ds _ _ _ _,D3.put j t O U d C T E.sz⟩
  |some xv =>
   obtain⟨V,_,_⟩:=t _ (Ol hx');obtain⟨b1,Z,n1,c1,H,Q,J,rfl,_⟩:=V.opn;refine G.buildArr 224 78 r p kV kV kV kV<|G.mapHas (et:=84) Id fz g o l (r,p) (.agg #[.bool b1,.slice Z n1 c1,.bool false,.slice H Q J]) kV kV (.inr (By _ _)) j hx'<|G.c call25 (Oo C V (hq.sz.mono oV) (Y.sz.mono oV)) ?_;intro v1 u1 l1 W;obtain⟨b2,a2,n2,c2,I,R,L,rfl,_⟩:=W.opn;refine G.mapPut (et:=84) Id g o l (r,p) (.agg #[.bool b2,.slice a2 n2 c2,.bool false,.slice I R L]) kV kV (By _ _) j ?_;intro o' d;exact G.r (.tuple #[]) ⟨o',Ds _ _ _ _,D3.put j (fun p hp=>⟨(t p hp).1.mono l1,(t p hp).2⟩) O U d W T E.sz⟩
 have he:Aw p r=(p,r):=by unfold Aw;rw[if_neg (fun e=>z ((Dl.sym r p).2 e))]
 rw[he]at Y E T⊢;refine G.c call125 (Ev r p false (decide_eq_false z)) ?_;rintro v0 u0 X rfl;obtain⟨l,j,t,O,U⟩:=h.mono X;have C:=C.mono X;cases hx':D1 (p,r) l with
 |none =>
  have a0:f (p,r)=0:=O _ (Hl.1 hx');have e0:q+f (p,r)=q:=by grind
  rw[e0]at E⊢;refine G.buildArr 224 78 p r kV kV kV kV<|G.mapNot (et:=84) Id fz g o l (p,r) kV kV (.inr (By _ _)) j hx'<|G.mapPut (et:=84) Id g o l (p,r) (.agg #[.bool b,.slice aa n c,.bool false,.slice a' n' c']) kV kV (By _ _) j ?_;intro o' d;exact G.r (.tuple #[]) ⟨o',Ds _ _ _ _,D3.put j t O U d C T E.sz⟩
 |some xv =>
  obtain⟨V,_,_⟩:=t _ (Ol hx');obtain⟨b1,Z,n1,c1,H,Q,J,rfl,_⟩:=V.opn;refine G.buildArr 224 78 p r kV kV kV kV<|G.mapHas (et:=84) Id fz g o l (p,r) (.agg #[.bool b1,.slice Z n1 c1,.bool false,.slice H Q J]) kV kV (.inr (By _ _)) j hx'<|G.c call25 (Oo C V (hq.sz.mono oV) (Y.sz.mono oV)) ?_;intro v1 u1 l1 W;obtain⟨b2,a2,n2,c2,I,R,L,rfl,_⟩:=W.opn;refine G.mapPut (et:=84) Id g o l (p,r) (.agg #[.bool b2,.slice a2 n2 c2,.bool false,.slice I R L]) kV kV (By _ _) j ?_;intro o' d;exact G.r (.tuple #[]) ⟨o',Ds _ _ _ _,D3.put j (fun p hp=>⟨(t p hp).1.mono l1,(t p hp).2⟩) O U d W T E.sz⟩
end
section
variable {k:Nat}{s:List UInt8}
section rules
variable {P:Program} [A6 P] {fn:Func} {Post:Ca} {st:List KI×S} {u m:PH}
end rules
def Atr:List UInt8:=[114,101,100]
def Ac1:List UInt8:=[103,114,101,101,110]
def Aja:List UInt8:=[98,108,117,101]
def Asq (s:List UInt8):Bool:=Kh s&&(s==Atr||s==Ac1||s==Aja)
def Ax2 (h:Asq s=true):Kh s=true:=by
 unfold Asq at h;rw[A1b]at h;exact h.1
def M4 (k:Nat)(s:List UInt8):Prop:=s = []\/(k=3/\Kh s=true)\/(k=1/\∃ z:Int,z.natAbs<=1000000000/\s=Lib.itoa z)\/(k=2/\∃ q,SmW q/\s=Ag q)
def Zc (k:Nat)(s:List UInt8):Prop:=s = []\/(k=3/\Asq s=true)\/(k=1/\∃ z:Int,z.natAbs<=1000000000/\s=Lib.itoa z)\/(k=2/\∃ q,SmR q/\s=Ag q)
def Zc.ok (h:Zc k s):M4 k s:=h.imp id (Or.imp (fun⟨e,h⟩=>⟨e,Ax2 h⟩) (Or.imp id fun⟨e,q,d,g⟩=>⟨e,q,d.w,g⟩))
def F8 {q:Rat}(h:Ag q=s)(d:SmR q):Zc 2 s:=.inr (.inr (.inr ⟨rfl,q,d,h.symm⟩))
def Sm {z:Int}(h:Lib.itoa z=s)(d:z.natAbs<=1000000000):Zc 1 s:=.inr (.inr (.inl ⟨rfl,z,d,h.symm⟩))
def Aak {u:PH}{s:Src}{ts:List Int}{x:List UInt8×Nat}(h:Po u s ts)(R:k<=s.n)(N:1<=x.2)(O:x.2<=3) :
 Ah prog 33 [s.ptr,Ia x] u (s.M k) fun v _ T=>∃ (t:List UInt8) (L:Nat),v=.string (mkS t)/\Zc x.2 t/\L<=s.n/\T=s.M L:=by
 obtain⟨Y,F⟩:=x;simp only at N O⊢;refine Ah.o func33<|G.A call31 (Ud (n:=9) h R oV oV) ?_;rintro v1 Z X W ⟨r,I,rfl,V,e,rfl⟩ _;rw[Cm];by_cases U:r=8
 ·exact G.eT r 8<|G.r (.string (mkS [])) ⟨[],I,rfl,.inl rfl,e,rfl⟩
 refine G.eF r 8 ?_;by_cases K:F=3
 ·subst K;refine G.eT (3:Nat) 3<|G.B 9 1 16 (.string (mkS [])) [.string (mkS Atr),.string (mkS Ac1),.string (mkS Aja)] (D8 [Atr,Ac1,Aja]) ?_;intro g H l2 d;obtain⟨i,Q⟩:∃ i,i=r%3:=⟨_,rfl⟩;have j:i<3:=oV;refine G.remZ (r:Int) 3 (i:Int) kV oV oV (by rw[A5p oV];omega)<|G.a g 0 3 3 i 1 j ?_;obtain⟨t,C,E⟩:∃ t,ElP H g (0+i*1) (.string (mkS t))/\Asq t=true:=by
   rcases (by omega:i=0\/i=1\/i=2) with h|h|h
   ·rw[h];exact⟨Atr,d 0 _ rfl,jV⟩
   ·rw[h];exact⟨Ac1,d 1 _ rfl,jV⟩
   rw[h];exact⟨Aja,d 2 _ rfl,jV⟩
  exact G.lU none g (0+i*1) (.string (mkS t)) C<|G.r (.string (mkS t)) ⟨t,I,rfl,.inr (.inl ⟨rfl,E⟩),e,rfl⟩
 refine G.eF F 3 ?_;by_cases J:F=1
 ·subst J;refine G.eT (1:Nat) 1<|G.B 9 1 16 (.string (mkS [])) [.string (mkS [49]),.string (mkS [50]),.string (mkS [49,48])] (D8 [[49],[50],[49,48]]) ?_;intro g H l2 d;obtain⟨i,Q⟩:∃ i,i=r%3:=⟨_,rfl⟩;have j:i<3:=oV;refine G.remZ (r:Int) 3 (i:Int) kV oV oV (by rw[A5p oV];omega)<|G.a g 0 3 3 i 1 j ?_;obtain⟨t,C,E⟩:∃ t,ElP H g (0+i*1) (.string (mkS t))/\Zc 1 t:=by
   rcases (by omega:i=0\/i=1\/i=2) with h|h|h
   ·rw[h];exact⟨[49],d 0 _ rfl,Sm (z:=1) jV fV⟩
   ·rw[h];exact⟨[50],d 1 _ rfl,Sm (z:=2) jV fV⟩
   rw[h];exact⟨[49,48],d 2 _ rfl,Sm (z:=10) jV fV⟩
  exact G.lU none g (0+i*1) (.string (mkS t)) C<|G.r (.string (mkS t)) ⟨t,I,rfl,E,e,rfl⟩
 refine G.eF F 1 ?_;obtain rfl:F=2:=oV;refine G.B 9 1 16 (.string (mkS [])) [.string (mkS [48]),.string (mkS [49]),.string (mkS [45,50]),.string (mkS [49,47,50]),.string (mkS [51]),.string (mkS [53,47,51]),.string (mkS [49]),.string (mkS [50])] (D8 [[48],[49],[45,50],[49,47,50],[51],[53,47,51],[49],[50]]) ?_;intro g H l2 d;refine G.a g 0 8 8 r 1 oV ?_;obtain⟨t,C,E⟩:∃ t,ElP H g (0+r*1) (.string (mkS t))/\Zc 2 t:=by
  rcases (by omega:r=0\/r=1\/r=2\/r=3\/r=4\/r=5\/r=6\/r=7) with h|h|h|h|h|h|h|h
  ·rw[h];exact⟨_,d 0 _ rfl,F8 (q:=0) jV ⟨jV,jV⟩⟩
  ·rw[h];exact⟨_,d 1 _ rfl,F8 (q:=1) jV ⟨jV,jV⟩⟩
  ·rw[h];exact⟨_,d 2 _ rfl,F8 (q:=-2) jV ⟨jV,jV⟩⟩
  ·rw[h];exact⟨_,d 3 _ rfl,F8 (q:=1/2) jV ⟨jV,jV⟩⟩
  ·rw[h];exact⟨_,d 4 _ rfl,F8 (q:=3) jV ⟨jV,jV⟩⟩
  ·rw[h];exact⟨_,d 5 _ rfl,F8 (q:=5/3) jV ⟨jV,jV⟩⟩
  ·rw[h];exact⟨_,d 6 _ rfl,F8 (q:=1) jV ⟨jV,jV⟩⟩
  rw[h];exact⟨_,d 7 _ rfl,F8 (q:=2) jV ⟨jV,jV⟩⟩
 exact G.lU none g (0+r*1) (.string (mkS t)) C<|G.r (.string (mkS t)) ⟨t,I,rfl,E,e,rfl⟩
end
section
variable {C:CF}{F:List Ao}{a i:Nat}{f:Ao}{lab:Int}{p:Par}{q:Rat}{ss:List (List UInt8)}{w:List UInt8}
structure CF.One (F:CF):Prop where
 c:F.c=1
 t:∀ k,F.t k=if 0<Bf k.1 k.2 then 0 else F.s k.1*F.s k.2
theorem CF.One.num:(CF.num 1).One:=⟨rfl,fun k=>by
 show (0:Rat)=if 0<Bf k.1 k.2 then 0 else (0:Rat)*0
 split
 ·rfl
 grind⟩
def Axp (p:Par)(q:Rat)(k:Par):(CF.one1 p q).s k=if k=p then q else 0:=rfl
theorem CF.One.one1 (p:Par)(q:Rat):(CF.one1 p q).One:=⟨rfl,fun k=>by
 show (if k=(p,p) then q*q else 0)=if 0<Bf k.1 k.2 then 0 else (if k.1=p then q else 0)*(if k.2=p then q else 0)
 obtain⟨x,y⟩:=k;by_cases h:(x,y)=(p,p)
 ·obtain⟨g,j⟩:=Prod.mk.inj h;subst j;rw[g];have:=Dl.refl y;rw[if_pos rfl,if_neg (by simp only;omega)];simp
 rw[if_neg h];split
 ·rfl
 by_cases d:x=p
 ·have m:y≠p:=fun e=>h (by rw[d,e]);simp only[m,if_false];grind
 simp only[d,if_false];grind⟩
theorem CF.One.mul {F G:CF}(hF:F.One)(d:G.One):(F.mul G).One/\∀ p,(F.mul G).s p=F.s p+G.s p:=by
 have e:∀ p,(F.mul G).s p=F.s p+G.s p:=fun p=>by
  show G.s p*F.c+F.s p*G.c=_;rw[hF.c,d.c];grind
 refine⟨⟨?_,fun k=>?_⟩,e⟩
 ·show F.c*G.c=1;rw[hF.c,d.c];decide +kernel
 rw[e,e];show G.t k*F.c+F.t k*G.c+Ik F G k=_;rw[hF.c,d.c,hF.t,d.t];unfold Ik;split
 ·grind
 split
 ·rename_i he;rw[<-he];grind
 grind
abbrev LF:Type:=Option (Option (Par×Rat))
def LF.cf:LF->CF
 |none=>CF.num 0
 |some none=>CF.num 1
 |some (some x)=>CF.one1 x.1 x.2
def H8 (C:CF)(L:List LF):CF:=L.foldl (fun c y=>c.mul y.cf) C
def Aal (C:CF)(L:List LF)(x:LF):H8 C (L++[x])=(H8 C L).mul x.cf:=by unfold H8;rw[A6m];rfl
def Ape (F:CF):(CF.num 0).mul F=CF.num 0:=by
 rw[CF.mul_comm];exact CF.mul_zero F
def Z4:∀ L,H8 (CF.num 0) L=CF.num 0
 |[]=>rfl
 |x::L=>by
  unfold H8;rw[A6b,Ape];exact Z4 L
def Amq {L:List LF}(h:none∈L):H8 C L=CF.num 0:=by
 obtain⟨A,B,rfl⟩:=A6c h;unfold H8;rw[A6m,A6b];have:(List.foldl (fun c (y:LF)=>c.mul (LF.cf y)) C A).mul (LF.cf none)=CF.num 0:=CF.mul_zero _;rw[this];exact Z4 B
def LF.one {x:LF}(h:x≠none):x.cf.One:=by
 match x,h with
 |some none,_=>exact CF.One.num
 |some (some x),_=>exact CF.One.one1 _ _
def W9:∀ {L:List LF} {C:CF},C.One->none∉L->(H8 C L).One
 |[],C,h,_=>h
 |x::L,C,h,hn=>by
  have d:x≠none:=fun e=>hn (by rw[e];exact A1g ..);unfold H8;rw[A6b];exact W9 (h.mul (LF.one d)).1 fun e=>hn (A01 _ e)
theorem Acb {p:Par}:∀ {L:List LF} {C:CF},C.One->none∉L->(∀ q,some (some (p,q))∉L)->(H8 C L).s p=C.s p
 |[],C,h,_,_=>rfl
 |x::L,C,h,hn,hp=>by
  have g:x≠none:=fun e=>hn (by rw[e];exact A1g ..);have d:=h.mul (LF.one g);unfold H8;rw[A6b];have:=Acb (p:=p) d.1 (fun e=>hn (A01 _ e)) fun q e=>hp q (A01 _ e);unfold H8 at this;rw[this,d.2];have j:x.cf.s p=0:=by
   match x,g,hp with
   |some none,_,_=>rfl
   |some (some (p',q)),_,hp =>
    show (if p=p' then q else 0)=0;rw[if_neg fun e=>hp q (by rw[e];exact A1g ..)]
  rw[j];grind
theorem Avg {L:List LF}(h:C.One)(K:none∉L)(R:C.s p=0)(P:L[a]?=some (some (some (p,q))))(J:∀ b g,L[b]?=some (some (some (p,g)))->b=a):(H8 C L).s p=q:=by
 obtain⟨Q,t⟩:=A0o.1 P;have e:L=L.take a++some (some (p,q))::L.drop (a+1):=by
  rw[<-t,List.getElem_cons_drop,A4g]
 have m:none∉L.take a:=fun j=>K (A23 j);have z:none∉L.drop (a+1):=fun j=>K (A3w j);have E:∀ g,some (some (p,g))∉L.take a:=fun g j=>by
  obtain⟨b,u,d⟩:=A2a j;rw[A0q]at u;rw[A7p]at d;have:=J b g (by rw[A0i oV,d]);omega
 have H:∀ g,some (some (p,g))∉L.drop (a+1):=fun g j=>by
  obtain⟨b,u,d⟩:=A2a j;rw[A7y]at u;rw[List.getElem_drop]at d;have:=J (a+1+b) g (by rw[A0i oV,d]);omega
 rw[e];have N:=Acb (p:=p) h m E;have n:=W9 h m;have I:=n.mul (CF.One.one1 p q);have O:=Acb (p:=p) I.1 z H;have:H8 C (L.take a++some (some (p,q))::L.drop (a+1))=H8 ((H8 C (L.take a)).mul (CF.one1 p q)) (L.drop (a+1)):=by
  unfold H8;rw[A6m,A6b];rfl
 rw[this,O,I.2,N,R,Axp,if_pos rfl];grind
noncomputable def Lq (t:List UInt8):Rat:=open Classical in if h:∃ q,SmW q/\t=Ag q then h.choose else 0
def Zr {t:List UInt8}(h:∃ q,SmW q/\t=Ag q):SmW (Lq t)/\Ag (Lq t)=t:=by
 unfold Lq;rw[dif_pos h];exact⟨h.choose_spec.1,h.choose_spec.2.symm⟩
noncomputable def Lu (i:Nat)(f:Ao)(w:List UInt8):LF:=if f.2.1=2 then some (some (((i:Int),w),1)) else if w = [] then (if f.2.2=1 then none else some none) else some (some (((i:Int),[]),Lq w))
noncomputable def Vq (w:List UInt8):LF:=if w = [] then none else some (some ((-1,[]),Lq w))
noncomputable def H6 (F:List Ao)(lab:Int)(a:Nat)(w:List UInt8):LF:=if (a:Int)=lab then Vq w else match F.findIdx? (fun f=>f.1==a) with|some k=>Lu k (F.getD k (0,0,0)) w|none=>some none
noncomputable def Fe (F:List Ao)(lab:Int)(ss:List (List UInt8)):List LF:=ss.mapIdx (H6 F lab)
def Ji (h:ss[a]?=some w):(Fe F lab ss)[a]?=some (H6 F lab a w):=by
 unfold Fe;rw[A9t,h];rfl
def Hn :(Fe F lab ss).length=ss.length:=by unfold Fe;simp
def Ap6 (m:(F.map (·.1)).Nodup)(d:F[i]?=some f):F.findIdx? (fun g=>g.1==f.1)=some i:=by
 obtain⟨h,rfl⟩:=A0o.1 d;refine A5w.2 ⟨h,mV,fun j n=>?_⟩;simp only[beq_iff_eq];intro e;have:=(A83 (xs:=F.map (·.1)) (h₀:=by rw[A0k];omega) (h₁:=by rw[A0k];omega) (i:=j) (j:=i) m).1 (by rw[A3u,A3u];exact e);omega
def Aa3 (g:(F.map (·.1)).Nodup)(d:F[i]?=some f)(e:(f.1:Int)≠lab):H6 F lab f.1 w=Lu i f w:=by
 unfold H6;rw[if_neg e,Ap6 g d];simp[A0j,d]
def Hc (h:(a:Int)≠lab):H6 F lab a w=some none\/∃ (i:Nat) (f:Ao),F[i]?=some f/\f.1=a/\H6 F lab a w=Lu i f w:=by
 unfold H6;rw[if_neg h];cases hx:F.findIdx? (fun f=>f.1==a) with
 |none=>exact .inl rfl
 |some k =>
  obtain⟨d,e,_⟩:=A5w.1 hx;right;refine⟨k,F[k],A0i d,by simpa using e,?_⟩;simp[A0j,A0i d]
def Am5 (H:-1<=lab){a b:Nat}{q E:Rat}(d:(Fe F lab ss)[a]?=some (some (some (p,q))))(t:(Fe F lab ss)[b]?=some (some (some (p,E)))):b=a:=by
 have key:∀ {a:Nat} {q:Rat},(Fe F lab ss)[a]?=some (some (some (p,q)))->((a:Int)=lab/\p.1 = -1)\/∃ (i:Nat) (f:Ao),F[i]?=some f/\f.1=a/\p.1=(i:Int):=by
  intro a q d;unfold Fe at d;rw[A9t]at d;cases hw:ss[a]? with
  |none=>rw[hw]at d;cases d
  |some w =>
   rw[hw]at d;simp only[A3g,A0u]at d;by_cases h:(a:Int)=lab
   ·left;unfold H6 Vq at d;rw[if_pos h]at d;split at d
    ·cases d
    cases d;exact⟨h,rfl⟩
   right;rcases Hc (F:=F) (w:=w) h with e|⟨i,f,g,j,n⟩
   ·rw[e]at d;cases d
   rw[n]at d;refine⟨i,f,g,j,?_⟩;unfold Lu at d;split at d
   ·cases d;rfl
   split at d
   ·split at d<;>cases d
   cases d;rfl
 rcases key d with ⟨g,j⟩|⟨i,f,g,j,n⟩<;>rcases key t with ⟨m,z⟩|⟨u,f',m,z,I⟩
 ·omega
 ·omega
 ·omega
 obtain rfl:u=i:=oV;rw[g]at m;cases m;omega
end
section
variable {q:Rat}{t:List UInt8}{x:LF}
def Qi {κ:Type}[DecidableEq κ]{a b:κ}{x:Value}:∀ l:List (κ×Value),D1 b (Is a x l)=if b=a then some x else D1 b l
 |[]=>rfl
 |(c,v)::l=>by
  unfold Is;by_cases h:a=c
  ·subst h;rw[if_pos rfl];unfold D1;by_cases e:b=a
   ·rw[if_pos e,if_pos e]
   rw[if_neg e,if_neg e,if_neg e]
  rw[if_neg h];unfold D1;by_cases e:b=c
  ·rw[if_pos e,if_pos e,if_neg (fun d=>h (by rw[<-d,e]))]
  rw[if_neg e,if_neg e];exact Qi l
def Jg {m:PH}{b:Nat}{t:TypeId}{xs:List Value}{e:Value}(h:m b=some (.cells xs.toArray t (0,0)))(g:e.cells=xs.toArray):ElP m b 0 e:=fun i x d=>by
 refine⟨_,_,_,h,?_⟩;rw[g]at d;simpa using d
def SmW.dat (h:SmW q):Dat q:=⟨by have:=h.num;omega,h.le⟩
def SmW.sb (h:SmW q):SB q:=h.dn.small oV (pw jV)
def SmW.sb2 (h:SmW q):SB (q*q):=(h.dn.mul h.dn).small oV (pw jV)
def O3:SmW 1:=⟨jV,jV⟩
def LF.Small:LF->Prop
 |some (some x)=>SmW x.2/\PV x.1
 |_=>True
theorem LF.Small.cfd (h:x.Small):CFD 2 343731600 x.cf:=by
 match x,h with
 |none,_=>exact CFD.count (Dn.zero _ _)
 |some none,_=>exact CFD.count ⟨144,jV,fV⟩
 |some (some x),h =>
  have d:Dn 2 343731600 x.2:=by
   have:=h.1.dn.mul (show Dn 1 18540 1 from⟨12,jV,fV⟩);rw[show x.2*1=x.2 by grind]at this;exact this.mono oV
  exact Aqc ⟨144,jV,fV⟩ d ((h.1.dn.mul h.1.dn).mono oV)
def LF.Small.cfv (h:x.Small):CFV x.cf:=by
 match x,h with
 |none,_=>exact CFV.count 0
 |some none,_=>exact CFV.count 1
 |some (some x),h=>exact Are h.2
def Si {L:List LF}(h:∀ x∈L,x.Small):∀ i,i<=L.length->CFD (2*i) (1374926400^i) (H8 (CF.num 1) (L.take i))/\CFV (H8 (CF.num 1) (L.take i))
 |0,_=>⟨CFD.count ⟨1,jV,fV⟩,CFV.count 1⟩
 |i+1,hi=>by
  obtain⟨g,j⟩:=Si h i oV;have d:=h _ (A0y (show i<L.length by omega));have e:L.take (i+1)=L.take i++[L[i]]:=by rw[A0t,A0i oV];rfl
  rw[e,Aal];refine⟨?_,j.mul d.cfv⟩;have:=g.mul d.cfd;rw[show 2*(i+1)=2*i+2 by omega];exact this.mono (by rw[A1w];omega)
def Jt (h:M4 2 t)(d:t≠[]):SmW (Lq t)/\Ag (Lq t)=t:=by
 rcases h with e|⟨e,_⟩|⟨e,_⟩|⟨_,q,g,e⟩
 ·exact absurd e d
 ·omega
 ·omega
 exact Zr ⟨q,g,e⟩
def Ahs {T:List (List UInt8×Nat)}{F:List Ao}{lab:Int}{a:Nat}{x:List UInt8×Nat}(hF:Ej T F lab)(j:∀ l:Nat,lab=(l:Int)->∃ n,T[l]?=some (n,2))(J:F.length<=8)(u:T[a]?=some x)(m:M4 x.2 t):(H6 F lab a t).Small:=by
 by_cases d:(a:Int)=lab
 ·obtain⟨n,C⟩:=j a d.symm;rw[u]at C;cases C;unfold H6 Vq;rw[if_pos d];by_cases h:t = []
  ·rw[if_pos h];trivial
  rw[if_neg h];exact⟨(Jt m h).1,⟨by show (-1:Int)<=-1;omega,by show (-1:Int)<=1000;omega,.inl rfl⟩⟩
 rcases Hc (F:=F) (w:=t) d with e|⟨i,f,z,rfl,I⟩
 ·rw[e];trivial
 rw[I];obtain⟨O,_⟩:=A0o.1 z;obtain⟨n,k,K,g,_⟩:=hF.ok f (A0w z);rw[K]at u;cases u;unfold Lu;rcases g with ⟨E,H,N⟩|⟨E,H,N⟩
 ·rw[if_neg oV];by_cases h:t = []
  ·rw[if_pos h];split<;>trivial
  rw[if_neg h];subst H;exact⟨(Jt m h).1,⟨by show (-1:Int)<=(i:Int);omega,by show (i:Int)<=1000;omega,.inl rfl⟩⟩
 rw[if_pos E];refine⟨O3,⟨by show (-1:Int)<=(i:Int);omega,by show (i:Int)<=1000;omega,?_⟩⟩;rcases m with e|⟨_,L⟩|⟨e,_⟩|⟨e,_⟩
 ·exact .inl e
 ·exact .inr L
 ·omega
 omega
end
section
variable {F:List Ao}{T:List (List UInt8×Nat)}{f:Ao}{i:Nat}{lab:Int}{ss:List (List UInt8)}
structure Bp (T:List (List UInt8×Nat))(ss:List (List UInt8)):Prop where
 len:ss.length=T.length
 val:∀ (i:Nat) (x:List UInt8×Nat) (t:List UInt8),T[i]?=some x->ss[i]?=some t->M4 x.2 t
def Bp.at (h:Bp T ss)(d:i<ss.length):∃ x,T[i]?=some x/\M4 x.2 ss[i]:=by
 have:=h.len;have e:T[i]?=some (T[i]'oV):=A0i oV;exact⟨_,e,h.val i _ _ e (A0i d)⟩
def Kq (ss:List (List UInt8))(f:Ao):Bool:=f.2.1==1&&f.2.2==1&&(ss.getD f.1 []).isEmpty
def Df (F:List Ao)(lab:Int)(ss:List (List UInt8)):Bool:=!(decide (0<=lab)&&(ss.getD lab.toNat []).isEmpty) && !F.any (Kq ss)
def Uy (hF:Ej T F lab)(e:Bp T ss)(d:f∈F):f.1<ss.length:=by
 obtain⟨n,k,h,_⟩:=hF.ok f d;obtain⟨g,_⟩:=A0o.1 h;have:=e.len;omega
def X6 (hF:Ej T F lab)(j:Bp T ss)(e:F[i]?=some f):(Fe F lab ss)[f.1]?=some (Lu i f (ss.getD f.1 [])):=by
 have h:=A0w e;have g:=Uy hF j h;obtain⟨n,k,_,_,d⟩:=hF.ok f h;rw[Ji (w:=ss[f.1]) (A0i g),Aa3 hF.nodup e d];simp[A0j,A0i g]
def Al1 {l:Nat}(d:lab=(l:Int))(h:l<ss.length):(Fe F lab ss)[l]?=some (Vq (ss.getD l [])):=by
 rw[Ji (w:=ss[l]) (A0i h)];unfold H6;rw[if_pos d.symm];simp[A0j,A0i h]
def Acf (hF:Ej T F lab)(Q:Bp T ss)(V:-1<=lab)(N:∀ l:Nat,lab=(l:Int)->l<ss.length):Df F lab ss=true↔none∉Fe F lab ss:=by
 unfold Df;simp only[A1b,A3k,A73,decide_eq_false_iff_not,Int.not_le];constructor
 ·rintro⟨a,b⟩ hm;obtain⟨i,u,C⟩:=A2a hm;have d:(Fe F lab ss)[i]?=some none:=by rw[A0i u,C]
  have m:i<ss.length:=by rw[Hn]at u;exact u
  rw[Ji (w:=ss[i]) (A0i m)]at d;simp only[A0u]at d;by_cases g:(i:Int)=lab
  ·unfold H6 Vq at d;rw[if_pos g]at d;split at d
   ·rename_i he;rcases a with a|a
    ·omega
    rw[<-g]at a;simp[A0j,A0i m,he]at a
   cases d
  rcases Hc (F:=F) (w:=ss[i]) g with e|⟨j,f,g1,g2,g3⟩
  ·rw[e]at d;cases d
  rw[g3]at d;unfold Lu at d;split at d
  ·cases d
  rename_i k2;split at d
  ·rename_i he;split at d
   ·rename_i k3;have t:=A0w g1;obtain⟨n,k,_,P,_⟩:=hF.ok f t;have R:f.2.1=1:=by rcases P with ⟨h,_⟩|⟨h,_⟩;exact h;exact absurd h k2
    have:Kq ss f=true:=by
     unfold Kq;rw[g2];simp[R,k3,A0j,A0i m,he]
    have I:=List.any_eq_false.1 b f t;rw[this]at I;exact absurd rfl I
   cases d
  cases d
 intro J;constructor
 ·rcases Baf (lab<0) with h|h
  ·exact .inl h
  right;obtain⟨l,E⟩:∃ l:Nat,lab=(l:Int):=⟨lab.toNat,oV⟩;have H:=N l E;have:=Al1 (F:=F) E H;rw[E,A2r];cases he:ss.getD l [] with
  |cons x y=>rfl
  |nil =>
   rw[he]at this;exact absurd (A0w this) (by simpa[Vq] using J)
 rw[List.any_eq_false];intro f O z;obtain⟨i,u,rfl⟩:=A2a O;have:=X6 hF Q (A0i u);unfold Kq at z;simp only[A1b,beq_iff_eq,List.isEmpty_iff]at z;obtain⟨⟨U,K⟩,L⟩:=z;rw[L]at this;refine J ?_;have e:Lu i F[i] []=none:=by unfold Lu;rw[if_neg oV,if_pos rfl,if_pos K]
 rw[e]at this;exact A0w this
noncomputable def cfT (F:List Ao)(lab:Int)(ss:List (List UInt8)):CF:=H8 (CF.num 1) (Fe F lab ss)
def Ar7 (hF:Ej T F lab)(j:Bp T ss)(e:-1<=lab)(g:∀ l:Nat,lab=(l:Int)->l<ss.length)(d:Df F lab ss=false):cfT F lab ss=CF.num 0:=by
 refine Amq ?_;rcases Baf (none∈Fe F lab ss) with h|h
 ·exact h
 rw[(Acf hF j e g).2 h]at d;cases d
def Ajj (hF:Ej T F lab)(h:Bp T ss)(d:-1<=lab)(e:∀ l:Nat,lab=(l:Int)->l<ss.length)(g:Df F lab ss=true):(cfT F lab ss).One :=
 W9 CF.One.num ((Acf hF h d e).1 g)
def Ag7 (hF:Ej T F lab)(m:Bp T ss)(d:-1<=lab)(e:∀ l:Nat,lab=(l:Int)->l<ss.length)(j:Df F lab ss=true){a:Nat}{p:Par}{q:Rat}(h:(Fe F lab ss)[a]?=some (some (some (p,q)))):(cfT F lab ss).s p=q :=
 Avg CF.One.num ((Acf hF m d e).1 j) rfl h fun b n g=>Am5 d h g
def Ng {u:PH}{R:List Bw}(ok:B2 u T R F lab)(g:Bp T ss):∀ x∈Fe F lab ss,x.Small:=fun x j=>by
 obtain⟨i,d,rfl⟩:=A2a j;rw[Hn]at d;have e:=Ji (F:=F) (lab:=lab) (w:=ss[i]) (A0i d);rw[A0i (by rw[Hn];exact d),A0u]at e;rw[e];obtain⟨y,m,h⟩:=g.at d;exact Ahs ok.feat ok.l2 ok.f2 m h
end
section
variable {F:List Ao}{T:List (List UInt8×Nat)}{f:Ao}{i n:Nat}{lab:Int}{ss:List (List UInt8)}{x:Par×Rat}
noncomputable def Bcc (ss:List (List UInt8))(i:Nat)(f:Ao):Option (Par×Rat) :=
 if f.2.1=2 then some (((i:Int),ss.getD f.1 []),1) else if ss.getD f.1 [] = []\/ss.getD f.1 [] = [48] then none else some (((i:Int),[]),Lq (ss.getD f.1 []))
noncomputable def J9 (F:List Ao)(ss:List (List UInt8))(n:Nat):List (Par×Rat):=(F.zipIdx.take n).filterMap fun p=>Bcc ss p.2 p.1
def Amr (F:List Ao)(ss:List (List UInt8)):J9 F ss 0 = []:=rfl
def Aa1 (h:F[i]?=some f):F.zipIdx[i]?=some (f,i):=by
 rw[List.getElem?_zipIdx,h];simp
def Zx (h:F[i]?=some f):J9 F ss (i+1)=J9 F ss i++(Bcc ss i f).toList:=by
 unfold J9;rw[A0t,Aa1 h,List.filterMap_append];cases e:Bcc ss i f with
 |none=>simp[e]
 |some x=>simp[e]
def N0 :x∈J9 F ss n↔∃ i f,i<n/\F[i]?=some f/\Bcc ss i f=some x:=by
 unfold J9;rw[A93];constructor
 ·rintro⟨⟨f,i⟩,hm,he⟩;obtain⟨j,e,d⟩:=A2a hm;rw[A0q]at e;rw[A7p,List.getElem_zipIdx]at d;cases d;refine⟨j,_,oV,A0i (by have:=e;simp at this;omega),?_⟩;simpa using he
 rintro⟨i,f,hi,hf,he⟩;refine⟨(f,i),?_,he⟩;have:(F.zipIdx.take n)[i]?=some (f,i):=by rw[A3f,if_pos hi,Aa1 hf]
 exact A0w this
def Yz (h:Bcc ss i f=some x):x.1.1=(i:Int):=by
 unfold Bcc at h;split at h
 ·cases h;rfl
 split at h
 ·cases h
 cases h;rfl
def Bcs (F:List Ao)(ss:List (List UInt8)):∀ n,n<=F.length->((J9 F ss n).map (·.1)).Nodup
 |0,_=>by rw[Amr];simp
 |n+1,hn=>by
  rw[Zx (A0i (show n<F.length by omega)),A02];rw[A30];refine⟨Bcs F ss n oV,?_,fun a h b j e=>?_⟩
  ·cases Bcc ss n F[n]<;>simp
  subst e;obtain⟨x,t,rfl⟩:=A0r.1 h;obtain⟨i,f,z,_,m⟩:=N0.1 t;obtain⟨y,u,d⟩:=A0r.1 j;have g:Bcc ss n F[n]=some y:=by simpa using u
  have:=Yz m;have:=Yz g;rw[d]at this;omega
def Aqt (F:List Ao)(ss:List (List UInt8))(n:Nat):(J9 F ss n).length<=F.length:=by
 unfold J9;refine A0l (List.length_filterMap_le ..) ?_;rw[A0q,List.length_zipIdx];omega
def Xq (hF:Ej T F lab)(m:Bp T ss)(g:f∈F)(u:f.2.1≠2)(h0:ss.getD f.1 []≠[]):SmW (Lq (ss.getD f.1 []))/\Ag (Lq (ss.getD f.1 []))=ss.getD f.1 []:=by
 obtain⟨n,k,z,d,_⟩:=hF.ok f g;have j:=Uy hF m g;have e:ss.getD f.1 []=ss[f.1]:=by simp[A0j,A0i j]
 have t:=m.val f.1 _ _ z (A0i j);rw[<-e]at t;rcases d with ⟨_,rfl,_⟩|⟨h,_⟩
 ·exact Jt t h0
 exact absurd h u
def S2 {t:List UInt8}(h:Ag (Lq t)=t):Lq t=0↔t = [48]:=by
 constructor
 ·intro e;rw[<-h,e];exact Ex
 intro e;refine A2h fun d=>?_;exact Rw d (h.trans e)
theorem Anu (hF:Ej T F lab)(ht:Bp T ss)(hx:x∈J9 F ss n):x.2≠0/\∃ a:Nat,(Fe F lab ss)[a]?=some (some (some x)):=by
 obtain⟨i,f,_,hf,hv⟩:=N0.1 hx;have hm:=A0w hf;have hl:=X6 hF ht hf;unfold Bcc at hv;unfold Lu at hl;split at hv
 ·rename_i h2;cases hv;rw[if_pos h2]at hl;exact⟨(by decide:(1:Rat)≠0),_,hl⟩
 ·rename_i h2;split at hv
  ·cases hv
  ·rename_i h0;cases hv;rw[if_neg h2,if_neg (fun e=>h0 (.inl e))]at hl;refine⟨fun e=>h0 (.inr ?_),_,hl⟩;exact (S2 (Xq hF ht hm h2 (fun e=>h0 (.inl e))).2).1 e
noncomputable def Axh (lab:Int)(ss:List (List UInt8)):List (Par×Rat):=if 0<=lab/\ss.getD lab.toNat []≠[48] then [((-1,[]),Lq (ss.getD lab.toNat []))] else []
def Aur (hF:Ej T F lab)(E:Bp T ss)(H:-1<=lab){a:Nat}(h:(Fe F lab ss)[a]?=some (some (some x)))(z:x.2≠0)(m:∀ l:Nat,lab=(l:Int)->ss.getD l [] = [48]->Lq (ss.getD l [])=0):x∈Axh lab ss++J9 F ss F.length:=by
 have j:a<ss.length:=by
  obtain⟨u,_⟩:=A0o.1 h;rw[Hn]at u;exact u
 have g:ss.getD a []=ss[a]:=by simp[A0j,A0i j]
 rw[Ji (w:=ss[a]) (A0i j)]at h;simp only[A0u]at h;by_cases d:(a:Int)=lab
 ·unfold H6 Vq at h;rw[if_pos d]at h;split at h
  ·cases h
  cases h;refine A3d _ ?_;unfold Axh;have t:ss[a]≠[48]:=fun e=>z (by
   have:=m a d.symm;rw[g]at this;exact this e)
  rw[<-d,A2r,g,if_pos ⟨oV,t⟩];exact A07.2 rfl
 rcases Hc (F:=F) (w:=ss[a]) d with e|⟨i,f,g1,g2,g3⟩
 ·rw[e]at h;cases h
 rw[g3]at h;refine A9n _ (N0.2 ⟨i,f,(A0o.1 g1).1,g1,?_⟩);have C:=A0w g1;unfold Lu at h;unfold Bcc;rw[g2,g];split at h
 ·rename_i h2;cases h;rw[if_pos h2]
 rename_i h2;split at h
 ·split at h<;>cases h
 rename_i h0;cases h;rw[if_neg h2,if_neg];rintro (e|e)
 ·exact h0 e
 refine z ?_;have:=Xq hF E C h2 (by rw[g2,g];exact h0);rw[g2,g]at this;exact (S2 this.2).2 e
end
section
variable {i:Nat}{ss:List (List UInt8)}{u:PH}
structure Y9 (u:PH)(v tv:Value)(T:List (List UInt8×Nat))(R:List Bw)(F:List Ao)(lab:Int)(ss:List (List UInt8)):Prop where
 sch:Ic u v T R F lab
 ok:B2 u T R F lab
 lst:Ab u tv 1 (ss.map nmV)
 fit:Bp T ss
def Y9.mono {u u':PH}{v tv:Value}{T:List (List UInt8×Nat)}{R:List Bw}{F:List Ao}{lab:Int}{ss:List (List UInt8)}(h:Y9 u v tv T R F lab ss)(hl:PH.le u u'):Y9 u' v tv T R F lab ss :=
 ⟨h.sch.mono hl,h.ok.mono hl,h.lst.mono hl,h.fit⟩
def Y9.lt {v g:Value}{T:List (List UInt8×Nat)}{R:List Bw}{F:List Ao}{lab:Int}(h:Y9 u v g T R F lab ss):∀ l:Nat,lab=(l:Int)->l<ss.length:=fun l d=>by
 obtain⟨n,e⟩:=h.ok.l2 l d;obtain⟨j,_⟩:=A0o.1 e;have:=h.fit.len;omega
def R2 {a:Option Addr}{n c:Nat}(h:Ab u (.slice a n c) 1 (ss.map nmV))(g:i<ss.length):∃ b d,a=some ⟨b,d,none⟩/\ElP u b (d+i*1) (.string (mkS (ss.getD i []))):=by
 have e:ss.getD i []=ss[i]:=by simp[A0j,A0i g]
 rw[e];exact Ab.at' h (j:=i) (by simp[nmV,A0i g])
def Az9 (h:i<=8):1374926400^i<10^100:=A2i (A1h oV h) jV
def Azt (h:i<8):8*(1374926400^i*343731600)<10^100:=by
 have d:1374926400^i<=1374926400^8:=A1h oV oV;have e:1374926400^8<10^80:=jV
 have g:(10:Nat)^80*100000000000<10^100:=jV
 omega
end
section
variable {A T:List Nat}{i x:Nat}{listed:Array Bool}{o:Oper}{s0:S}
variable [Cj] [Dd]
section
variable {P:Program} {id:Nat} {ops:Array Oper} {dr:Bool} {Fin:S->PH->PH->Prop} {c:Cx} {Q:Exit->Act->World->Prop}
def Ob.append {l2:List Nat}:∀ {d:List Nat} {s:S} {u m:PH},Ob P id ops dr (fun s u m=>Ob P id ops dr Fin l2 s u m) d s u m->Ob P id ops dr Fin (d++l2) s u m
 |[],s,u,m,h=>by
  cases h with
  |nil h=>exact h
 |i::d,s,u,m,h=>by
  cases h with
  |auto ho hg hd he hl=>exact .auto ho hg hd he hl.append
  |skip ho hg hd hl=>exact .skip ho hg hd hl.append
  |ask ho hg hd hv hs hal hw hl=>exact .ask ho hg hd hv hs hal hw hl.append
  |big ho hg hd hv hs hf hk hw hl=>exact .big ho hg hd hv hs hf hk hw fun v n j e g=>(hl v n j e g).append
def Ob.fin {d:S->PH->PH->Prop}(e:∀ s u m,Fin s u m->d s u m):∀ {l:List Nat} {s:S} {u m:PH},Ob P id ops dr Fin l s u m->Ob P id ops dr d l s u m
 |[],s,u,m,h=>by
  cases h with
  |nil h=>exact .nil (e _ _ _ h)
 |i::l1,s,u,m,h=>by
  cases h with
  |auto ho hg hd he hl=>exact .auto ho hg hd he (hl.fin e)
  |skip ho hg hd hl=>exact .skip ho hg hd (hl.fin e)
  |ask ho hg hd hv hs hal hw hl=>exact .ask ho hg hd hv hs hal hw (hl.fin e)
  |big ho hg hd hv hs hf' hk hw hl=>exact .big ho hg hd hv hs hf' hk hw fun v t n g j=>(hl v t n g j).fin e
structure Mz (ops:Array Oper)(listed:Array Bool)(T:List Nat):Prop where
 sz:listed.size=ops.size
 mem:∀ i,i<ops.size->(listed.getD i true=false↔i∈T)
 lt:∀ i∈T,i<ops.size
 nd:T.Nodup
 cl:Ahf ops listed
theorem Aa5 :i∈Region.ready .any ops listed↔i<ops.size/\listed.getD i true=false/\∃ o,ops[i]?=some o/\∀ e∈o.after,Region.binds .any e=true->listed.getD e.on false=true:=by
 simp only[Region.ready,A3p,A5x,A1b,A3k];refine and_congr_right fun d=>and_congr_right fun _=>?_;have g:ops[i]?=some ops[i]:=A15 d;rw[g];simp only[A3g,A3s,A94];constructor
 ·grind
 grind
theorem Mz.no (h:Mz ops listed T)(g:x∈T):listed.getD x false=true->False:=by
 intro d;have e:=h.lt x g;have:=(h.mem x e).2 g;have j:x<listed.size:=by grind
 simp only[A2d,A15 j,A3s]at d this;rw[this]at d;cases d
theorem Mz.next {A B:List Nat}(h:Mz ops listed (A++i::B))(O:ops[i]?=some o)(J:∀ e∈o.after,Region.binds .any e=true->listed.getD e.on false=true):Mz ops (listed.setIfInBounds i true) (A++B):=by
 obtain⟨H,hT,z,N,C⟩:=h;have n:(A++B).Nodup/\i∉A++B:=by grind
 refine⟨by simpa using H,fun j g=>?_,fun j g=>z j ?_,n.1,?_⟩
 ·by_cases d:j=i
  ·simp_all
  have:=hT j g;simp only[A2d,A20 (fun h=>d h.symm)]at this⊢;rw[this];simp[d]
 ·grind
 intro j g o' F e L K;have t:∀ k,listed.getD k false=true->(listed.setIfInBounds i true).getD k false=true:=by
  intro k I;by_cases E:k=i
  ·grind
  simp only[A2d,A20 (fun h=>E h.symm)]at I⊢;exact I
 by_cases d:j=i
 ·grind
 refine t _ (C j ?_ o' F e L K);simp only[A2d,A20 (fun h=>d h.symm)]at g⊢;exact g
def Mz.swaps (h:Mz ops listed T)(z:∀ x∈A,x∈T)(E:ops[i]?=some o)(n:∀ e∈o.after,Region.binds .any e=true->listed.getD e.on false=true)(C:∀ x∈A,Il ops s0 x i=true):∀ x∈A,Aek ops s0 x i=true:=by
 intro x t;have hp:=C x t;unfold Il at hp;simp only[A1b,A33]at hp;have j:∀ o',ops[i]?=some o'->∀ e∈o'.after,Region.binds .any e=true->listed.getD e.on false=true:=fun o' g=>by rw[E]at g;obtain rfl:=A2k g;exact n
 rcases hp.2 with (d|d)|d
 ·exact (h.no (z x t) (Vz j d)).elim
 ·exact d
 exact (h.no (z x t) (Jp h.cl ops.size i j d)).elim
def Mz.any {s0:S}(d:Pb s0)(g:(List.range ops.size).all (L3 ops)=true)(hF:∀ s u m ρ a w,Fin s u m->Rel c s u m ρ a w->Q .normal a w){n:Nat}{T:List Nat}{listed:Array Bool}{s:S}{u m:PH}{ρ:Nat->Nat}{a:Act}{w:World}(h:Mz ops listed T)(z:T.length=n)
 (t:T.Pairwise (fun x y=>Il ops s0 x y=true)) (e:G6 ops s0 s) (j:Ob P id ops true Fin T s u m) (C:Rel c s u m ρ a w):Go.wpAny P .any ops Q n listed a w :=
 Ob.wpAny d g hF n T listed z h.sz h.mem h.lt h.nd h.cl t e j C
def Mz.perm {T e:List Nat}(h:Mz ops listed T)(hp:T.Perm e):Mz ops listed e :=
 ⟨h.sz,fun i d=>(h.mem i d).trans hp.mem_iff,fun i d=>h.lt i (hp.mem_iff.2 d),hp.nodup_iff.1 h.nd,h.cl⟩
theorem Mz.first {t:Nat}(h:Mz ops listed (t::T))(n:(List.range ops.size).all (L3 ops)=true)(I:∀ x∈T,dir ops t x=false):t∈Region.ready .any ops listed:=by
 have hp:=h.lt t mV;refine Aa5.2 ⟨hp,(h.mem t hp).2 mV,ops[t],A15 hp,fun e E z=>?_⟩;rw[A06]at n;have d:=n t (by simpa using hp);unfold L3 at d;rw[A15 hp]at d;simp only[A06]at d;have:=d e (by simpa using E);simp only[z,A5m,A8l,A1b]at this;have g:e.on<ops.size:=A8r▸this.1;have H:e.on≠t:=fun h=>by rw[h]at this;simp at this
 have C:dir ops t e.on=true:=by
  unfold dir;rw[A15 hp];simp only[A6s,A1b];exact⟨e,by simpa using E,z,mV⟩
 cases hl:listed.getD e.on true with
 |true =>
  have F:e.on<listed.size:=by have:=h.sz;omega
  simp only[A2d,A15 F]at hl⊢;exact hl
 |false =>
  have j:=(h.mem e.on g).1 hl;rcases A0v.1 j with j|j
  ·grind
  grind
def Tr {x y:Nat}(h:Il ops s0 x y=true):dir ops x y=false:=by
 unfold Il at h;simp only[A1b,A3k]at h;exact h.1.1
def V8 (P:Program)(id:Nat)(ops:Array Oper):List Nat->S->Option S
 |[],s=>some s
 |i::l,s=>match ops[i]? with
  |some o=>match G8 s o with
   |true=>match gv s ops o with
    |some true=>match eff P (id*1000+i) s o.op with
     |some (x,hw)=>V8 P id ops l ((s.put o.dst x).setb hw)
     |none=>none
    |some false=>V8 P id ops l (s.put o.dst (.v undef))
    |none=>none
   |false=>none
  |none=>none
def Ob.autos:∀ {l:List Nat} {s d:S} {u m:PH},V8 P id ops l s=some d->Fin d u m->Ob P id ops dr Fin l s u m
 |[],s,d,u,m,h,hf=>by
  unfold V8 at h;cases h;exact .nil hf
 |i::l,s,d,u,m,h,hf=>by
  unfold V8 at h;split at h
  ·rename_i o ho;split at h
   ·rename_i hd;split at h
    ·rename_i hg;split at h
     ·rename_i x hw he;exact .auto ho hg hd he (Ob.autos h hf)
     cases h
    ·rename_i hg;exact .skip ho hg hd (Ob.autos h hf)
    cases h
   cases h
  cases h
end
section
variable {P:Program} {fn:Func} {Post:Ca}
end
section rules
variable {P:Program} [A6 P] {fn:Func} {Post:Ca} {st:List KI×S} {u m:PH}
end rules
end
section
section
variable {P:Program} {id:Nat} {ops:Array Oper} {dr:Bool} {Fin:S->PH->PH->Prop} {c:Cx} {Q:Exit->Act->World->Prop} {F:Fence}
end
section rules
variable {P:Program} [A6 P] {fn:Func} {Post:Ca} {st:List KI×S} {u m:PH}
end rules
end
def ElP.sub {u:PH}{b d:Nat}{e x:Value}{k:Nat}(h:ElP u b d e)(m:∀ i y,x.cells[i]?=some y->e.cells[k+i]?=some y):ElP u b (d+k) x:=fun i y n=>by
 obtain⟨cs,t,fr,g,j⟩:=h (k+i) y (m i y n);exact⟨cs,t,fr,g,by rw[A21];exact j⟩
section
section
variable {P:Program} {l:Nat} {J J':S->PH->PH->Prop} {s:S} {u m:PH}
end
section
variable {P:Program} [A6 P] {fn:Func} {Post:Ca} {st:List KI×S} {u m:PH}
end
end
section
variable {b sz:Nat}{es:List Value}{m m0:PH}{o:Obj}{t:TypeId}{v:Value}
def Af.base (h:Af m0 m v t sz es)(F:m0 b≠none):Af (m0.upd b o) (m.upd b o) v t sz es:=by
 obtain⟨u,h⟩:=h;rcases h with ⟨j,n,rfl⟩|⟨g,cap,rest,j,rfl,n,z,C,E⟩
 ·exact⟨u,.inl ⟨j,n,rfl⟩⟩
 have d:g≠b:=fun e=>by subst e;exact F j
 exact⟨u,.inr ⟨g,cap,rest,by rw[Ad _ _ d];exact j,Jo _ _ _ d,n,z,C,E⟩⟩
def Af.see (h:Af m0 m v t sz es)(d:m0 b=some o):m b=some o:=h.le b o d
end
section
variable {l:Nat}{m:PH}{o:Obj}
def Aty {l b:Nat}(h:b≠l):(m.upd b o).del l=(m.del l).upd b o:=by
 funext k
 by_cases e:k=l
 ·subst e;rw[Ad _ _ (fun d=>h d.symm)];simp[PH.del]
 by_cases d:k=b
 ·subst d;rw[Ac];simp[PH.del,e,Ac]
 rw[Ad _ _ d];simp[PH.del,e,Ad _ _ d]
def Acu (h:m l=none):(m.upd l o).del l=m:=by
 funext k
 by_cases e:k=l
 ·subst e;simp[PH.del,h]
 simp[PH.del,e,Ad _ _ e]
def Awo (m:PH)(l:Nat):PH.le (m.del l) m:=fun g o h=>by
 unfold PH.del at h;split at h
 ·cases h
 exact h
def Af.del {m0 m:PH}{v:Value}{t:TypeId}{sz:Nat}{es:List Value}{l:Nat}(h:Af m0 m v t sz es)(F:m0 l≠none):Af (m0.del l) (m.del l) v t sz es:=by
 obtain⟨u,h⟩:=h;rcases h with ⟨j,n,rfl⟩|⟨g,cap,rest,j,rfl,n,z,C,E⟩
 ·exact⟨u,.inl ⟨j,n,rfl⟩⟩
 have d:g≠l:=fun e=>by subst e;exact F j
 exact⟨u,.inr ⟨g,cap,rest,by unfold PH.del;rw[if_neg d];exact j,Aty d,n,z,C,E⟩⟩
end
section
def Af.fresh {m0 m:PH}{v:Value}{t:TypeId}{sz:Nat}{es:List Value}{b:Nat}{o:Obj}(h:Af m0 m v t sz es)(z:m b=none):Af (m0.upd b o) (m.upd b o) v t sz es:=by
 obtain⟨C,h⟩:=h;rcases h with ⟨j,n,rfl⟩|⟨g,cap,rest,j,rfl,n,E,F,H⟩
 ·exact⟨C,.inl ⟨j,n,rfl⟩⟩
 have d:g≠b:=fun e=>by subst e;rw[Ac]at z;cases z
 exact⟨C,.inr ⟨g,cap,rest,by rw[Ad _ _ d];exact j,Jo _ _ _ d,n,E,F,H⟩⟩
section
variable {P:Program} [A6 P] {fn:Func} {Post:Ca} {st:List KI×S} {u m:PH}
end
def Ahm {κ:Type}[DecidableEq κ]{a:κ}{x:κ×Rat}:∀ {L:List (κ×Rat)},x.1∉L.map (·.1)->B8 a (L++[x])=if a=x.1 then x.2 else B8 a L
 |[],_=>by obtain⟨b,q⟩:=x;simp[B8]
 |(b,q)::L,h=>by
  rw[A1t,A0v,not_or]at h;rw[A5a];unfold B8;by_cases e:a=b
  ·rw[if_pos e,if_neg (fun d=>h.1 (by rw[<-d,e]))];simp[e]
  rw[if_neg e,Ahm h.2];simp[e]
def Apy {κ:Type}{l:List κ}(h:l.Nodup){i j:Nat}{x:κ}(z:l[i]?=some x)(C:l[j]?=some x):i=j:=by
 obtain⟨d,g⟩:=A0o.1 z;obtain⟨n,t⟩:=A0o.1 C;rcases A5q i j with e|e|e
 ·exact absurd (g.trans t.symm) (A3c.1 h i j d n e)
 ·exact e
 exact absurd (t.trans g.symm) (A3c.1 h j i n d e)
end
end Go.Proofs.YtdgncafgglafjaaGreatDoor
