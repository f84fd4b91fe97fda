/- Parts of one proof, joined by a program. -/
import Derived.Test.YtijchbjkdllolaaGreatDoorP06
import Derived.MapKept
import Derived.Laws.IdiomRangeMap
import Derived.Laws.StructEq
import Derived.RangeFuncSeq
import Derived.RangeFuncGives
import Derived.Maps.AppendAt
import Derived.Shelf.Abstract
import Derived.Shelf.AbstractIn
import Derived.Sort.MapsRangeIn
import Derived.WalkKit
import Derived.OwnWalkIn
import Derived.TacticsInMore
import Derived.RegionIn
import Derived.LoopNIn
import Derived.LoopIn
import Derived.Shelf.SlIter.Collect
import Derived.Shelf.SlSortCmp.WholeK
import Derived.Ground.SlsfProg
import Derived.Test.YtijchbjkdllolaaGreatDoorProg
import Derived.Shelf.SlSortCmp.NoneTotal
set_option linter.defProp false
set_option linter.unusedVariables false
set_option linter.unusedSimpArgs false
set_option linter.unusedSectionVars false
set_option maxHeartbeats 16000000
namespace Go.Proofs.YtijchbjkdllolaaGreatDoor
open Go.Proofs.Tryz
open Go.RowKit Go.MapKept
def A8e:=@List.set_getElem_self
def A2k:=@List.getElem?_cons_succ
def A3n:=@List.map_nil
def A45:=@Array.getElem?_toList
def A6k:=@Array.getElem?_modify
def A3o:=@Array.eq_empty_of_size_eq_zero
def A6g:=@Prod.ext
def A8g:=@UInt8.lt_iff_toNat_lt
def A7c:=@List.pairwise_cons
def A6x:=@Rat.natCast_inj
def A28:=@Rat.intCast_add
def A10:=@Rat.natCast_mul
def A7t:=@Rat.zero_mul
def Az2:=@Rat.intCast_natCast
def A83:=@Int.ofNat_le
def A4u:=@Rat.mul_inv_cancel
def A84:=@Array.forIn_toList
def A71:=@List.forIn_cons
def A8h:=@List.forIn_nil
def A3e:=@Rat.add_comm
def A2t:=@List.getElem_take
def A02:=@List.pairwise_iff_getElem
def A1f:=@List.getElem_map
def A85:=@Array.ext_getElem?
def Bbr {u:PH}{v:Value}{A:List (List Rat)}(h:J9 u v (K6 A))(F:Sq A):Fn0 prog 153 [v] u fun v' _=>v'=.tuple #[.int .i64 A.length,.int .i64 A.length,.int .i64 0]:=by
 obtain⟨a,c,rfl⟩:=h.opn;rw[C9]at h⊢;have a0:=F.le;refine Fn0.o func153 ?_;by_cases h0:0<A.length
 ·refine G.gT A.length 0 ?_;obtain⟨m,n,T,O,rfl,t,C⟩:=h.row (Uo (Ayr h0));rw[Ayt,F.len h0]at t C;refine G.a m n A.length c 0 1 h0<|G.lU none m (n+0*1) _ t ?_;clear t C;obtain⟨a,Z⟩:∃ a:Option Addr,a=some ⟨m,n,none⟩:=⟨_,rfl⟩;rw[<-Z]at h⊢;clear Z;refine G.gF A.length 12<|G.l (ι:=Nat) (fun i=>[(0,sV a A.length c),(5,iV A.length),(21,iV A.length),(22,iV i)]) (fun _=>[])
   (fun i R E=>i<=A.length/\E=PH.mt) (fun i=>A.length-i) 0 ⟨oV,rfl⟩ ?_
  rintro J1 i H u1 m1 L ⟨hi,rfl⟩;by_cases g:i<A.length
  ·refine G.lT i A.length ?_;obtain⟨m,n,T,O,rfl,t,C⟩:=(h.mono L).row (Uo (Ayr g));rw[Ayt,F.len g]at t C;exact G.a m n A.length c i 1 g<|G.lU none m (n+i*1) _ t<|G.gF A.length 12<|G.i i<|G.b (H (i+1) _ _ _ cV L ⟨oV,rfl⟩ oV)
  obtain rfl:i=A.length:=oV;clear g;refine G.lF A.length A.length ?_;clear H;refine G.l (ι:=Nat) (fun i=>[(0,sV a A.length c),(5,iV A.length),(33,iV A.length),(34,iV i)]) (fun _=>[])
   (fun i R E=>i<=A.length/\E=PH.mt) (fun i=>A.length-i) 0 ⟨oV,rfl⟩ ?_
  rintro J2 i I u2 m2 l2 ⟨hi,rfl⟩;by_cases g:i<A.length
  ·refine G.lT i A.length ?_;obtain⟨m,n,T,O,rfl,t,C⟩:=(h.mono (L.trans l2)).row (Uo (Ayr g));rw[Ayt,F.len g]at t C;exact G.a m n A.length c i 1 g<|G.lU none m (n+i*1) _ t<|G.nF A.length A.length<|G.i i<|G.b (I (i+1) _ _ _ cV l2 ⟨oV,rfl⟩ oV)
  obtain rfl:i=A.length:=oV;clear g;refine G.lF A.length A.length ?_;clear I;refine G.l (ι:=Nat) (fun i=>[(0,sV a A.length c),(5,iV A.length),(46,iV A.length),(47,iV i)]) (fun _=>[])
   (fun i R E=>i<=A.length/\E=PH.mt) (fun i=>A.length-i) 0 ⟨oV,rfl⟩ ?_
  rintro J3 i P u3 m3 V ⟨hi,rfl⟩;by_cases g:i<A.length
  ·refine G.lT i A.length ?_;obtain⟨m,n,T,O,rfl,t,C⟩:=(h.mono ((L.trans l2).trans V)).row (Uo (Ayr g));rw[Ayt,F.len g]at t C;refine G.a m n A.length c i 1 g<|G.lU none m (n+i*1) _ t<|G.l (ι:=Nat) (fun k=>[(0,sV (some ⟨m,n,none⟩) A.length c),(5,iV A.length),(46,iV A.length),(47,iV i),(8,iV i),(54,iV A.length),(55,iV k)]) (fun _=>[])
    (fun k R E=>k<=A.length/\E=PH.mt) (fun k=>A.length-k) 0 ⟨oV,rfl⟩ ?_
   rintro J4 k Q u4 m4 N ⟨hk,rfl⟩;by_cases K:k<A.length
   ·refine G.lT k A.length ?_;have J:k<A[i].length:=by rw[F.len g];exact K
    obtain⟨U,W,rfl,X⟩:=Ac.at' (Ac.mono C N) (j:=k) (e:=.string (mkS (Ae A[i][k]))) (by simp[D6,Ayr J]);refine G.a m n A.length c i 1 g<|G.lU none m (n+i*1) _ (t.mono N)<|G.a U W A.length O k 1 K<|G.lU none U (W+k*1) _ X<|G.c call18 (D1 (F.tx' g J)) ?_;rintro v5 u5 Y rfl;exact G.i k<|G.b (Q (k+1) _ _ _ cV (N.trans Y) ⟨oV,rfl⟩ oV)
   exact G.lF k A.length<|G.i i<|G.b (P (i+1) _ _ _ cV (V.trans N) ⟨oV,rfl⟩ oV)
  exact G.lF i A.length<|G.r (.tuple #[.int .i64 A.length,.int .i64 A.length,.int .i64 0]) ⟨rfl,rfl⟩
 refine G.gF A.length 0 ?_;have hz:(A.length:Int)=0:=oV;refine G.gF A.length 12<|G.l (ι:=Nat) (fun i=>[(0,sV a A.length c),(5,iV 0),(21,iV A.length),(22,iV i)]) (fun _=>[])
  (fun i R E=>i<=A.length/\E=PH.mt) (fun i=>A.length-i) 0 ⟨oV,rfl⟩ ?_
 rintro J1 i H u1 m1 L ⟨hi,rfl⟩;by_cases g:i<A.length
 ·refine G.lT i A.length ?_;obtain⟨m,n,T,O,rfl,t,C⟩:=(h.mono L).row (Uo (Ayr g));rw[Ayt,F.len g]at t C;exact G.a m n A.length c i 1 g<|G.lU none m (n+i*1) _ t<|G.gF A.length 12<|G.i i<|G.b (H (i+1) _ _ _ cV L ⟨oV,rfl⟩ oV)
 obtain rfl:i=A.length:=oV;clear g;refine G.lF A.length A.length ?_;clear H;refine G.l (ι:=Nat) (fun i=>[(0,sV a A.length c),(5,iV 0),(33,iV A.length),(34,iV i)]) (fun _=>[])
  (fun i R E=>i<=A.length/\E=PH.mt) (fun i=>A.length-i) 0 ⟨oV,rfl⟩ ?_
 rintro J2 i I u2 m2 l2 ⟨hi,rfl⟩;by_cases g:i<A.length
 ·refine G.lT i A.length ?_;obtain⟨m,n,T,O,rfl,t,C⟩:=(h.mono (L.trans l2)).row (Uo (Ayr g));rw[Ayt,F.len g]at t C;exact G.a m n A.length c i 1 g<|G.lU none m (n+i*1) _ t<|G.nF A.length 0<|G.i i<|G.b (I (i+1) _ _ _ cV l2 ⟨oV,rfl⟩ oV)
 obtain rfl:i=A.length:=oV;clear g;refine G.lF A.length A.length ?_;clear I;refine G.l (ι:=Nat) (fun i=>[(0,sV a A.length c),(5,iV 0),(46,iV A.length),(47,iV i)]) (fun _=>[])
  (fun i R E=>i<=A.length/\E=PH.mt) (fun i=>A.length-i) 0 ⟨oV,rfl⟩ ?_
 rintro J3 i P u3 m3 V ⟨hi,rfl⟩;by_cases g:i<A.length
 ·refine G.lT i A.length ?_;obtain⟨m,n,T,O,rfl,t,C⟩:=(h.mono ((L.trans l2).trans V)).row (Uo (Ayr g));rw[Ayt,F.len g]at t C;refine G.a m n A.length c i 1 g<|G.lU none m (n+i*1) _ t<|G.l (ι:=Nat) (fun k=>[(0,sV (some ⟨m,n,none⟩) A.length c),(5,iV 0),(46,iV A.length),(47,iV i),(8,iV i),(54,iV A.length),(55,iV k)]) (fun _=>[])
   (fun k R E=>k<=A.length/\E=PH.mt) (fun k=>A.length-k) 0 ⟨oV,rfl⟩ ?_
  rintro J4 k Q u4 m4 N ⟨hk,rfl⟩;by_cases K:k<A.length
  ·refine G.lT k A.length ?_;have J:k<A[i].length:=by rw[F.len g];exact K
   obtain⟨U,W,rfl,X⟩:=Ac.at' (Ac.mono C N) (j:=k) (e:=.string (mkS (Ae A[i][k]))) (by simp[D6,Ayr J]);refine G.a m n A.length c i 1 g<|G.lU none m (n+i*1) _ (t.mono N)<|G.a U W A.length O k 1 K<|G.lU none U (W+k*1) _ X<|G.c call18 (D1 (F.tx' g J)) ?_;rintro v5 u5 Y rfl;exact G.i k<|G.b (Q (k+1) _ _ _ cV (N.trans Y) ⟨oV,rfl⟩ oV)
  exact G.lF k A.length<|G.i i<|G.b (P (i+1) _ _ _ cV (V.trans N) ⟨oV,rfl⟩ oV)
 exact G.lF i A.length<|G.r (.tuple #[.int .i64 A.length,.int .i64 0,.int .i64 0]) ⟨rfl,by rw[hz]⟩
section
variable {n:Nat}
structure B3 where
 b:Bool
 a:Option Addr
 n:Nat
 c:Nat
def bv (f:B3):Value:=.agg #[.bool f.b,.slice f.a f.n f.c]
def bc (f:B3):List SV:=[.v (.bool f.b),.v (.slice f.a f.n f.c)]
def Dm.opB {u:PH}{v:Value}{z:Int}(h:Dm u v z):∃ f,v=bv f:=by
 obtain⟨b,a,n,c,rfl,_⟩:=h.opn;exact⟨⟨b,a,n,c⟩,rfl⟩
def nl1 (h:n<1000000000):nl n<=1:=Bc (by simpa using h)
def nlN (h:n<1000000000):nl ((n:Int)).natAbs<=1:=by rw[Az6];exact nl1 h
end
structure Q4 where
 b:Bool
 a:Option Addr
 n:Nat
 c:Nat
 a':Option Addr
 n':Nat
 c':Nat
def qv (f:Q4):Value:=.agg #[.bool f.b,.slice f.a f.n f.c,.bool false,.slice f.a' f.n' f.c']
def qc (f:Q4):List SV:=[.v (.bool f.b),.v (.slice f.a f.n f.c),.v (.bool false),.v (.slice f.a' f.n' f.c')]
def QP.opQ {u:PH}{v:Value}{q:Rat}(h:QP u v q):∃ f,v=qv f:=by
 obtain⟨b,a,n,c,e,j,g,rfl,_⟩:=h.opn;exact⟨⟨b,a,n,c,e,j,g⟩,rfl⟩
section
variable {M:List (List Rat)}{m m0 u:PH}{q:List Rat}{r:Value×List Value}{rows:List (Value×List Value)}{v:Value}
def zQ:Value:=.agg #[.bool false,.slice none 0 0,.bool false,.slice none 0 0]
def Bcj (f:Q4):Ba 4 [qv f]:=by
 intro x e;simp at e;subst e;exact⟨rfl,fun y g=>by simp[qv,Value.cells]at g;rcases g with rfl|rfl|rfl|rfl<;>rfl⟩
def Bbb (r:Value×List Value):Arr:=⟨r.1,52,4,r.2⟩
def oQ (v:Value)(rows:List (Value×List Value)):Arr:=⟨v,157,1,rows.map (·.1)⟩
def Bbl :(Bbb r).At m0 m=Af m0 m r.1 52 4 r.2:=rfl
def Bcf :(oQ v rows).At m0 m=Af m0 m v 157 1 (rows.map (·.1)):=rfl
def QAt (u:PH)(rows:List (Value×List Value))(M:List (List Rat)):Prop:=rows.length=M.length/\∀ (i:Nat) (r:Value×List Value),rows[i]?=some r->AtP QP u r.2 (gM M i)
def QAt.mono {u u':PH}{rows:List (Value×List Value)}{M:List (List Rat)}(h:QAt u rows M)(hl:PH.le u u'):QAt u' rows M:=⟨h.1,fun i r hr=>(h.2 i r hr).mono (fun _ _ k=>k.mono hl)⟩
def QAt.set {i:Nat}(h:QAt u rows M)(hi:i<rows.length)(n:AtP QP u r.2 q):QAt u (rows.set i r) (M.set i q):=by
 refine⟨by simp[h.1],fun j r' g=>?_⟩;rw[Ao9 (by rw[<-h.1];exact hi)];rw[A1g]at g;by_cases e:i=j
 ·subst e;rw[if_pos rfl,if_pos hi]at g;simp only[Ayz]at g;rw[if_pos rfl,<-g];exact n
 rw[if_neg e]at g⊢;exact h.2 j r' g
def QAt.snoc (h:QAt u rows M)(g:AtP QP u r.2 q):QAt u (rows++[r]) (M++[q]):=by
 refine⟨by simp[h.1],fun i r' hi=>?_⟩;rw[Bc6];by_cases e:i<rows.length
 ·rw[Azi e]at hi;rw[if_pos (by rw[<-h.1];exact e)];exact h.2 i r' hi
 rw[Azy oV]at hi;have j:i-rows.length=0:=by
  rcases Azx (i-rows.length) with h0|h0
  ·exact h0
  rw[Azo gV]at hi;cases hi
 rw[j]at hi;simp at hi;subst hi;rw[if_neg (by rw[<-h.1];exact e),if_pos (by rw[<-h.1];omega)];exact g
def Vk {α:Type}{l:List α}{k:Nat}(h:k<l.length):l.take (k+1)=l.take k++[l[k]]:=by
 rw[Aze,Ayr h];rfl
def Bcl {A:List (List Rat)}(h:J9 u v (K6 A))(hs:Sq A) :
 Ag prog 85 [v] u PH.mt fun v' X W=>∃ a c rows,v'=.slice a A.length c/\QAt X rows A/\Bag W (oQ (.slice a A.length c) rows::rows.map Bbb):=by
 obtain⟨a0,c0,rfl⟩:=h.opn;rw[C9]at h⊢;have a5:=hs.le;refine Ag.o func85<|G.l (ι:=Nat×(Option Addr×Nat)×List (Value×List Value)) (fun i=>[(0,sV a0 A.length c0),(3,sV i.2.1.1 i.1 i.2.1.2),(9,iV A.length),(10,iV i.1)]) (fun _=>[])
  (fun i X W=>i.1<=A.length/\QAt X i.2.2 (A.take i.1)/\Bag W (oQ (.slice i.2.1.1 i.1 i.2.1.2) i.2.2::i.2.2.map Bbb))
  (fun i=>A.length-i.1) (0,(none,0),[]) ⟨Azh _,⟨rfl,fun j r hj=>by simp at hj⟩,PH.mt,Af.nil _ _ _,trivial⟩ ?_
 rintro J ⟨i,⟨a,c⟩,rows⟩ hJ u1 m1 l1 ⟨hi,U,C⟩;simp only at hi U C hJ;have a4:rows.length=i:=by rw[U.1,Ay1];omega
 by_cases E:i<A.length
 ·refine G.lT i A.length ?_;obtain⟨b1,o1,a1,c1,rfl,e1,e2⟩:=(h.mono l1).row (Uo (Ayr E));have O:=hs.len E;rw[Ayt,O]at e1 e2;refine G.a b1 o1 A.length c0 i 1 E<|G.lU none b1 (o1+i*1) _ e1<|G.l (ι:=Nat×(Option Addr×Nat)×List Value) (fun j=>[(0,sV (some ⟨b1,o1,none⟩) A.length c0),(3,sV a i c),(9,iV A.length),(10,iV i),(5,sV j.2.1.1 j.1 j.2.1.2),(16,sV a1 A.length c1),(17,iV A.length),(18,iV j.1)]) (fun _=>[])
   (fun j X W=>j.1<=A.length/\AtP QP X j.2.2 (A[i].take j.1)/\Bag W (Bbb (.slice j.2.1.1 j.1 j.2.1.2,j.2.2)::oQ (.slice a i c) rows::rows.map Bbb))
   (fun j=>A.length-j.1) (0,(none,0),[]) ⟨Azh _,AtP.nil,m1,Af.nil _ _ _,C⟩ ?_
  rintro J2 ⟨j,⟨H,I⟩,es⟩ T u2 m2 l2 ⟨hj,t,n⟩;simp only at hj t n T;have a3:es.length=j:=by rw[t.1,Ay1];omega
  by_cases K:j<A.length
  ·refine G.lT j A.length ?_;have P:j<A[i].length:=by rw[O];exact K
   obtain⟨b2,o2,rfl,e3⟩:=Ac.at' (Ac.mono e2 l2) (j:=j) (e:=.string (mkS (Ae A[i][j]))) (by simp[D6,Ayr P]);refine G.a b2 o2 A.length c1 j 1 K<|G.lU none b2 (o2+j*1) _ e3<|G.c call19 (F0 (hs.tx' E P)) ?_;intro v4 u4 l4 k4;obtain⟨R,rfl⟩:=k4.opQ;refine G.B 52 4 64 zQ [qv R] (Bcj R) ?_;intro g5 u5 Q e5;obtain⟨mm,F,a2⟩:=n;rw[Bbl]at F;refine G.append 52 4 64 zQ mm es [qv R] (.slice H j I) g5 0 1 1 kV rfl rfl oV F e5 (Bcj R) rfl oV oV oV ?_;intro v6 m6 g;obtain⟨Y,Z,rfl⟩:=g.shape;have el:(es++[qv R]).length=j+1:=by simp[a3]
   rw[el]at g⊢;refine G.i j<|G.b (T (j+1,(Y,Z),es++[qv R]) _ _ _ cV ((l2.trans l4).trans Q) ⟨dV,?_,mm,g,a2⟩ dV);dsimp only;rw[Vk P];exact (t.mono (fun _ _ k=>k.mono (l4.trans Q))).snoc (k4.mono Q)
  obtain rfl:j=A.length:=oV;refine G.lF A.length A.length ?_;have hA:A[i].take A.length=A[i]:=by rw[<-O];exact Azj
  rw[hA]at t;refine G.B 157 1 24 (.slice none 0 0) [.slice H A.length I] (D4 _ _ _) ?_;intro g5 u5 Q e5;obtain⟨m0,F,V⟩:=n.focus 1 rfl;rw[Bcf]at F;refine G.k 157 1 24 (.slice none 0 0) m0 (rows.map (·.1)) [.slice H A.length I] (.slice a i c) g5 0 1 1 F e5 (D4 _ _ _) ?_;intro v6 m6 g;have em:rows.map (·.1)++[Value.slice H A.length I]=(rows++[(Value.slice H A.length I,es)]).map (·.1):=mV;rw[em]at g;obtain⟨Y,Z,rfl⟩:=g.shape;have el:((rows++[(Value.slice H A.length I,es)]).map (·.1)).length=i+1:=by simp[a4]
  rw[el]at g⊢;have L:=V (oQ (.slice Y (i+1) Z) (rows++[(Value.slice H A.length I,es)])) m6 g;have N:=Bag.perm Aqh L;refine G.i i<|G.b (hJ (i+1,(Y,Z),rows++[(Value.slice H A.length I,es)]) _ _ _ cV ((l1.trans l2).trans Q) ⟨dV,?_,by simpa using N⟩ dV);dsimp only;rw[Vk E];exact (U.mono (l2.trans Q)).snoc (t.mono (fun _ _ k=>k.mono Q))
 obtain rfl:i=A.length:=oV;refine G.lF A.length A.length ?_;rw[Azj]at U;exact G.r (.slice a A.length c) ⟨a,c,rows,rfl,U,C⟩
end
section
variable [Cc] [Cm]
def At2:List KI->Bool
 |.code (.region _ _ _)::_=>true
 |_=>false
def E6 (P:Program):Nat->List KI×S->List KI×S
 |0,st=>st
 |n+1,st=>cond (At2 st.1) st (match one P st.1 st.2 with|some st'=>E6 P n st'|none=>st)
section rules
variable {P:Program} [A5 P] {fn:Func} {Post:By} {st:List KI×S} {u m:PH}
def L9:∀ (n:Nat) (st:List KI×S),Sym P fn Post (E6 P n st).1 (E6 P n st).2 u m->Sym P fn Post st.1 st.2 u m
 |0,st,h=>h
 |n+1,st,h=>by
  unfold E6 at h;cases hn:At2 st.1 with
  |true=>simp[hn]at h;exact h
  |false =>
   simp only[hn,cond_false]at h;split at h
   ·rename_i st' he;obtain⟨e,g⟩:=st';exact Of A5.mx he (L9 n _ h)
   exact h
def G.canon (T:List (Nat×SV))(B:List (Nat×Blk))(h:Fv (E6 P 200 st).1=true)(j:T1 T B=true)(h0:Cov (E6 P 200 st).2.n (E6 P 200 st).2 T B)(k:G P fn Post ((E6 P 200 st).1,S.of (E6 P 200 st).2.n T B) u m):G P fn Post st u m:=by
 refine⟨L9 200 st ?_⟩;have g:=k.out;rw[Sym.ofNo h]at g⊢;intro c ρ a w e t;exact g c ρ a w e (t.cov h0 j)
def G.join {ι:Type}(b:Value)(T:ι->List (Nat×SV))(B:ι->List (Nat×Blk))(j:ι->PH->PH->Prop)(K:∀ i,T1 (T i) (B i)=true)(L:Fv (E6 P 200 (nx (adv P st) b)).1=true)
 (C:∀ i g h,PH.le u g->j i g h->G P fn Post ((E6 P 200 (nx (adv P st) b)).1,S.of (E6 P 200 (nx (adv P st) b)).2.n (T i) (B i)) g h)
 (k:(∀ i e g h,(E6 P 200 e).1=(E6 P 200 (nx (adv P st) b)).1->Cov (E6 P 200 (nx (adv P st) b)).2.n (E6 P 200 e).2 (T i) (B i)->PH.le u g->j i g h->G P fn Post e g h)->G P fn Post st u m):G P fn Post st u m:=by
 refine k fun i e g h F E H I=>?_;have J:Cov (E6 P 200 e).2.n (E6 P 200 e).2 (T i) (B i):=⟨rfl,E.t,E.b⟩;refine G.canon (T i) (B i) (by rw[F];exact L) (K i) J ?_;rw[F,E.n];exact C i g h H I
end rules
end
section
variable {v:Value}
def Wz (v:Value)(P:List Nat):Arr:=⟨v,3,1,Ai P⟩
def Atw {P:List Nat}{m0 m:PH}:(Wz v P).At m0 m=Af m0 m v 3 1 (Ai P):=rfl
def Bdj {e:List (Value×List Value)}{i:Nat}{x:Value}{es es':List Value}(h:e[i]?=some (x,es)):oQ v (e.set i (x,es'))=oQ v e:=by
 unfold oQ;rw[Aei (r':=(x,es')) h rfl]
end
def Acj {α:Type}{l:List α}{i:Nat}{x:α}(h:l[i]?=some x):l.set i x=l:=by
 obtain⟨e,g⟩:=Ayu.1 h;rw[<-g];exact A8e e
section
open Go.MapKept
variable {et t:TypeId}{g:Nat}{o:Obj}{w:World}
structure Wa (P:Program)(kt:TypeId){κ:Type}[DecidableEq κ](enc:κ->Value):Prop where
 eq:∀ a b w,(Op.equal kt (enc a) (enc b)).run P w=.ok (decide (a=b)) w
 now:∃ d,P.underlying kt=some d/\((∀ a b,Instr.sameNow d (enc a) (enc b)=none)\/(∀ a b,Instr.sameNow d (enc a) (enc b)=some (decide (a=b))))
 chk:∀ e a w,(Instr.checkKey e 10000 kt (enc a)).run P w=.ok () w
 bits:∀ a,Instr.sameBits 10000 (enc a) (enc a)=true
 inj:∀ a b,enc a=enc b->a=b
def Fo {κ:Type}(enc:κ->Value)(o:Obj)(l:List (κ×Value)):Prop :=
 ∃ es clock,o=.map es clock/\es.toList.map (fun e=>(e.key,e.val))=l.map (fun p=>(enc p.1,p.2))/\Stamped es clock
def Gx {κ:Type}[DecidableEq κ](a:κ):List (κ×Value)->Option Value
 |[]=>none
 |(b,v)::l=>if a=b then some v else Gx a l
def Kb {κ:Type}[DecidableEq κ](a:κ)(x:Value):List (κ×Value)->List (κ×Value)
 |[]=>[(a,x)]
 |(b,v)::l=>if a=b then (b,x)::l else (b,v)::Kb a x l
def Ar7 {κ:Type}[DecidableEq κ](a:κ):List (κ×Value)->List (κ×Value)
 |[]=>[]
 |(b,v)::l=>if a=b then l else (b,v)::Ar7 a l
def Id {κ:Type}[DecidableEq κ](a:κ):List (κ×Value)->Nat->Option (Nat×Value)
 |[],_=>none
 |(b,v)::l,i=>if a=b then some (i,v) else Id a l (i+1)
def Ail (z:Value)(r:Option Value)(ok:Bool):Value:=match r with|some v=>(if ok then .tuple #[v,.bool true] else v)|none=>(if ok then .tuple #[z,.bool false] else z)
def Me {α β:Type}{f:α->β}{l:List α}(h:(l.map f).Nodup):l.Nodup:=(List.pairwise_map.1 h).imp fun h e=>h (by rw[e])
section
variable {κ:Type} [DecidableEq κ] {enc:κ->Value}
def Y1 (a:κ):∀ (l:List (κ×Value)) (i:Nat),(Id a l i).map (·.2)=Gx a l
 |[],_=>rfl
 |(b,v)::l,i=>by
  unfold Id Gx;split
  ·rfl
  exact Y1 a l (i+1)
def Xg {a:κ}:∀ {l:List (κ×Value)} {i:Nat},Id a l i=none->a∉l.map (·.1)
 |[],_,_=>mV
 |(b,v)::l,i,h=>by
  unfold Id at h;split at h
  ·cases h
  rename_i hne;simp only[Azu,Ay7,not_or];exact⟨hne,Xg h⟩
def Wx {a:κ}:∀ {l:List (κ×Value)} {i j:Nat} {v:Value},Id a l i=some (j,v)->i<=j/\l[j-i]?=some (a,v)/\(∀ x,Kb a x l=l.set (j-i) (a,x))/\Ar7 a l=l.eraseIdx (j-i)
 |[],_,_,_,h=>by cases h
 |(b,w)::l,i,j,v,h=>by
  unfold Id at h;split at h
  ·rename_i e;simp only[Ayz,Az0]at h;obtain⟨rfl,rfl⟩:=h;subst e;exact⟨Ay2 _,mV,fun x=>by simp[Kb],by simp[Ar7]⟩
  rename_i hne;obtain⟨C,m,n,u⟩:=Wx h;have e:j-i=(j-(i+1))+1:=oV;refine⟨oV,by rw[e,A2k];exact m,fun x=>?_,?_⟩
  ·rw[e,A0i,<-n x];simp[Kb,hne]
  rw[e,List.eraseIdx_cons_succ,<-u];simp[Ar7,hne]
def Adx {a:κ}:∀ {l:List (κ×Value)} (x:Value),a∉l.map (·.1)->Kb a x l=l++[(a,x)]
 |[],_,_=>rfl
 |(b,v)::l,x,h=>by
  simp only[Azu,Ay7,not_or]at h;unfold Kb;rw[if_neg h.1,Adx x h.2];rfl
def Hb {a:κ}:∀ {l:List (κ×Value)},Gx a l=none↔a∉l.map (·.1)
 |[]=>by simp[Gx]
 |(b,v)::l=>by
  unfold Gx;split
  ·rename_i e;simp[e]
  rename_i hne;rw[Hb];simp[hne]
variable {P:Program} {kt:TypeId}
def Nz (K:Wa P kt enc)(a:κ)(w:World):∀ (es:List MapEntry) (l:List (κ×Value)) (i:Nat),es.map (fun e=>(e.key,e.val))=l.map (fun p=>(enc p.1,p.2))->(Instr.findAsking kt (enc a) es i).run P w=.ok (Id a l i) w
 |[],[],i,_=>by simp[Instr.findAsking,Id]
 |[],_::_,_,h=>by simp at h
 |_::_,[],_,h=>by simp at h
 |e::es,(b,v)::l,i,h=>by
  simp only[Azu,A0f,Az0]at h;obtain⟨⟨m,n⟩,u⟩:=h;unfold Instr.findAsking;simp only[Sem.run_bind,m,K.eq,Result.andThen_ok];unfold Id;by_cases j:a=b
  ·simp[j,n]
  simp only[decide_eq_false j,A1q,if_false,if_neg j];exact Nz K a w es l (i+1) u
def W5 {d:TypeDesc}(m:∀ a b,Instr.sameNow d (enc a) (enc b)=some (decide (a=b)))(a:κ):∀ (es:List MapEntry) (l:List (κ×Value)) (i:Nat),es.map (fun e=>(e.key,e.val))=l.map (fun p=>(enc p.1,p.2))->Instr.findNow d (enc a) es i=some (Id a l i)
 |[],[],i,_=>by simp[Instr.findNow,Id]
 |[],_::_,_,h=>by simp at h
 |_::_,[],_,h=>by simp at h
 |e::es,(b,v)::l,i,h=>by
  simp only[Azu,A0f,Az0]at h;obtain⟨⟨n,u⟩,C⟩:=h;unfold Instr.findNow Id;rw[n,m];by_cases j:a=b
  ·simp[j,u]
  simp only[decide_eq_false j,if_neg j];exact W5 m a es l (i+1) C
def T0 (K:Wa P kt enc)(a:κ)(w:World){es:List MapEntry}{l:List (κ×Value)}(h:es.map (fun e=>(e.key,e.val))=l.map (fun p=>(enc p.1,p.2))):(Instr.findKey kt (enc a) es).run P w=.ok (Id a l 0) w:=by
 obtain⟨d,m,j⟩:=K.now;unfold Instr.findKey;simp only[Sem.run_bind,run_underlying m,Result.andThen_ok];rcases j with j|j
 case inr=>rw[W5 j a es l 0 h];rfl
 cases es with
 |nil =>
  cases l with
  |nil=>simp[Instr.findNow,Id]
  |cons=>simp at h
 |cons e es =>
  have n:Instr.findNow d (enc a) (e::es) 0=none:=by
   cases l with
   |nil=>simp at h
   |cons p l =>
    simp only[Azu,A0f,Az0]at h;unfold Instr.findNow;rw[h.1.1,j]
  rw[n];exact Nz K a w _ _ _ h
def Fo.empty:Fo enc (.map #[] 0) []:=⟨#[],0,rfl,mV,stamped_empty 0⟩
def Fo.nodup {l:List (κ×Value)}(h:Fo enc o l):(l.map (·.1)).Nodup:=by
 obtain⟨es,e,rfl,n,u⟩:=h;have m:es.toList.map (·.key)=l.map (fun p=>enc p.1):=by
  have:=congrArg (List.map (·.1)) n;simpa[Function.comp_def] using this
 have j:=u.2.2;rw[m]at j;have:l.map (fun p=>enc p.1)=(l.map (·.1)).map enc:=by simp[Function.comp_def]
 rw[this]at j;exact Me j
def Ag6 (K:Wa P kt enc)(u:P.underlying t=some (.map kt et)){z:Value}(C:∀ w,(zeroValue et).run P w=.ok z w){l:List (κ×Value)}(m:w.heap[g]?=some o)(n:Fo enc o l)(a:κ)(ok:Bool) :
 (Instr.lookup t (.map (some g)) (enc a) ok).run P w=.ok (Ail z (Gx a l) ok) w:=by
 obtain⟨es,e,rfl,h,E⟩:=n;have j:=T0 K a w h;rw[<-Y1 a l 0];simp only[Instr.lookup,Sem.run_bind,run_underlying u,Result.andThen_ok,MapKept.run_getObj_map m,K.chk,Sem.run_pure,j];cases Id a l 0 with
 |none=>simp only[Ail,Option.map_none,Sem.run_bind,C,Result.andThen_ok,Sem.run_pure]
 |some p=>simp only[Ail,A1n,Sem.run_bind,Sem.run_pure,Result.andThen_ok]
def Ahw (K:Wa P kt enc)(X:P.underlying t=some (.map kt et)){l:List (κ×Value)}(J:w.heap[g]?=some o)(ho:Fo enc o l)(a:κ)(x:Value) :
 ∃ o',Fo enc o' (Kb a x l)/\(Instr.mapUpdate t (.map (some g)) (enc a) x).run P w=.ok () { w with heap:=w.heap.setIfInBounds g o' }:=by
 obtain⟨es,m,rfl,u,W⟩:=ho;have I:=T0 K a w u;have U:es.toList.length=l.length:=by simpa using congrArg List.length u
 cases hfk:Id a l 0 with
 |none =>
  rw[hfk]at I;have V:=Xg hfk;refine⟨.map (es.push { key:=enc a,val:=x,born:=m }) (m+1),⟨_,_,rfl,?_,stamped_push W (fun e Z T=>?_)⟩,?_⟩
  ·rw[Adx x V];simp only[Array.toList_push,Aza,u,Azu,A3n]
  ·obtain⟨j,Y,rfl⟩:=A01.1 Z;have:=congrArg (fun t=>t[j]?) u;simp only[Ayy,Ayr Y,A1n]at this;rw[Ayr oV]at this;simp only[A1n,Ayz,Az0]at this;rw[this.1]at T;exact V (Ayx.2 ⟨_,Ay8 oV,K.inj _ _ T⟩)
  simp only[Instr.mapUpdate,Sem.run_bind,run_underlying X,Result.andThen_ok,MapKept.run_getObj_map J,K.chk,I];exact MapKept.run_setObj_map _ J
 |some p =>
  obtain⟨j,v⟩:=p;rw[hfk]at I;obtain⟨_,L,R,_⟩:=Wx hfk;rw[A43]at L R;have O:j<l.length:=(Ayu.1 L).1;have N:j<es.toList.length:=oV;obtain⟨H,C⟩:∃ H,es.toList[j]?=some H:=⟨_,Ayr N⟩;have E:H.key=enc a:=by
   have:=congrArg (fun t=>t[j]?) u;simp only[Ayy,C,A1n,L,Ayz,Az0]at this;exact this.1
  have n:es[j]?=some H:=by rw[<-A45];exact C
  refine⟨.map (es.modify j fun e=>{ e with key:=enc a,val:=x }) m,⟨_,_,rfl,?_,stamped_modify W j _ (fun _ _=>rfl) (fun e _ h=>?_)⟩,?_⟩
  ·rw[R x,A1d];apply A2f;intro i;simp only[Ayy,A45,A6k,A1g];have hi:=congrArg (fun t=>t[i]?) u;simp only[Ayy,A45]at hi;by_cases e:j=i
   ·subst e;rw[if_pos rfl,if_pos rfl,n,if_pos (by simpa using O)];rfl
   rw[if_neg e,if_neg e];exact hi
  ·rw[n]at h;cases h;exact E.symm
  have F:((es[j]?).map (·.key)).getD (enc a)=enc a:=by rw[n];simp[E]
  simp only[Instr.mapUpdate,Sem.run_bind,run_underlying X,Result.andThen_ok,MapKept.run_getObj_map J,K.chk,I,F];have Q:(Instr.keyThatStays (enc a) (enc a)).run P w=.ok (enc a) w:=by unfold Instr.keyThatStays;rw[if_pos (K.bits a)];rfl
  rw[Q];simp only[Result.andThen_ok];exact MapKept.run_setObj_map _ J
end
end
section
variable {D:List MapEntry}{clock g:Nat}{env:Operand->Value}{es:Array MapEntry}{o o':Obj}
variable [Cc]
open Go.MapKept
inductive M0 where
 |other
 |mk
 |look (t:Option TypeDesc) (x k:Value) (ok:Bool)
 |put (t:Option TypeDesc) (x k v:Value)
 |range (t:Option TypeDesc) (x:Value)
 |next (it:Value)
 |entry (it:Value)
def Mz (P:Program)(env:Operand->Value):Op->M0
 |.makeMap _ none=>.mk
 |.lookup t x i ok=>.look (P.underlying t) (env x) (env i) ok
 |.mapUpdate t x k v=>.put (P.underlying t) (env x) (env k) (env v)
 |.insert t x k v=>.put (P.underlying t) (env x) (env k) (env v)
 |.range t x=>.range (P.underlying t) (env x)
 |.next it false=>.next (env it)
 |.entry it=>.entry (env it)
 |_=>.other
def M2 (P:Program)(st:List KI×S):M0 :=
 match st.1 with
 |.reg _ ops _ (i::_)::_=>match ops[i]? with
  |some o=>match E1 st.2 o&&(Ka st.2 o.op&&Iu o.op) with
   |true=>match gv st.2 ops o with
    |some true=>Mz P (Cn st.2) o.op
    |_=>.other
   |false=>.other
  |none=>.other
 |_=>.other
def Rj:Obj->Bool
 |.cells ..=>false
 |_=>true
section good
variable {u m:PH} {w:World}
def Sb (w:World)(g:Nat)(o:Obj):World:={ w with heap:=w.heap.setIfInBounds g o }
def Y8 (h:w.heap[g]?=some o):(Sb w g o').heap[g]?=some o':=by
 show (w.heap.setIfInBounds g o')[g]?=_;rw[A55];simp[A3 h]
def Uw {g k:Nat}(h:k≠g):(Sb w g o').heap[k]?=w.heap[k]?:=by
 show (w.heap.setIfInBounds g o')[k]?=_;rw[A0s (fun e=>h e.symm)]
def Amh (g:Nat)(o':Obj):(Sb w g o').heap.size=w.heap.size:=by show (w.heap.setIfInBounds g o').size=_;simp
theorem Bo.setO (h : Bo u m w)   (hg : m g = some o) (hn : Rj o' = true) : Bo u (m.upd g o') (Sb w g o') ∧ Br u m w u (m.upd g o') (Sb w g o') := by
  have hb := h.pm g _ hg
  have hug : u g = none := by rcases h.ap g with e | e
                              · exact e
                              · rw [hg] at e; cases e
  refine ⟨⟨fun k o hk => ?_, fun k o hk => ?_, fun k => ?_, fun k cs1 t1 fr1 j z hk hj => ?_⟩, ⟨by rw [Amh]; exact Ay2 _, fun k hk hm => Uw (fun e => by rw [e, hg] at hm; cases hm), fun _ _ => rfl, fun k hk hm => by rw [Ad _ _ (fun e => by rw [e, hg] at hm; cases hm)]; exact hm, ⟨rfl, rfl⟩, fun _ => ⟨rfl, Ay2 _⟩⟩⟩
  · rw [Uw (fun e => by rw [e, hug] at hk; cases hk)]; exact h.pu k o hk
  · by_cases e : k = g
    · subst e; rw [Ab] at hk; rw [Y8 hb]; exact hk
    · rw [Ad _ _ e] at hk; rw [Uw e]; exact h.pm k o hk
  · by_cases e : k = g
    · subst e; exact .inl hug
    · rw [Ad _ _ e]; exact h.ap k
  · by_cases e : k = g
    · subst e
      rw [Y8 hb] at hk
      simp only [Ayz] at hk
      subst hk; cases hn
    · rw [Uw e] at hk; exact h.cl k cs1 t1 fr1 j z hk hj
def Bo.newO (h:Bo u m w)(I:Rj o=true):Bo u (m.upd w.heap.size o) (w.alloc o)/\Br u m w u (m.upd w.heap.size o) (w.alloc o)/\m w.heap.size=none/\u w.heap.size=none:=by
 have E:m w.heap.size=none:=h.pm.none (Ay2 _);have F:u w.heap.size=none:=h.pu.none (Ay2 _);refine⟨⟨fun g o' n=>?_,fun g o' n=>?_,fun g=>?_,fun g cs t fr j z n H=>?_⟩,⟨by rw[Bz];omega,fun g n _=>Av _ _ n,fun _ _=>rfl,fun g n E=>by rw[Ad _ _ oV];exact E,⟨rfl,rfl⟩,fun _=>⟨rfl,Ay2 _⟩⟩,E,F⟩
 ·rw[Av _ _ (h.pu.lt n)];exact h.pu g o' n
 ·by_cases e:g=w.heap.size
  ·subst e;rw[Ab]at n;rw[Cf];exact n
  rw[Ad _ _ e]at n;rw[Av _ _ (h.pm.lt n)];exact h.pm g o' n
 ·by_cases e:g=w.heap.size
  ·subst e;exact .inl F
  rw[Ad _ _ e];exact h.ap g
 by_cases e:g=w.heap.size
 ·subst e;rw[Cf]at n;simp only[Ayz]at n;subst n;cases I
 have C:=A3 n;rw[Bz]at C;rw[Av _ _ oV]at n;exact h.cl g cs t fr j z n H
def Bo.drewG (h:Bo u m w):Br u m w u m w.drew:=⟨Ay2 _,fun _ _ _=>rfl,fun _ _=>rfl,fun _ _ h=>h,⟨rfl,rfl⟩,fun _=>⟨rfl,Nat.le_succ _⟩⟩
end good
section rules
variable {P:Program} [A5 P] {fn:Func} {Post:By} {st:List KI×S} {u m:PH}
def Vo {V:M0}(h:M2 P st=V)(n:V≠.other):∃ t e j i l k s o,st=(.reg t e j (i::l)::k,s)/\e[i]?=some o/\gv s e o=some true/\E1 s o=true/\Ka s o.op=true/\Iu o.op=true/\Mz P (Cn s) o.op=V /\
 ∀ v,nx st v=(.reg t e j l::k,s.put o.dst (.v v)):=by
 obtain⟨C,s⟩:=st;unfold M2 at h;simp only at h;split at h
 ·rename_i t e j i l k;split at h
  ·rename_i o ho;split at h
   ·rename_i hb;simp only[Azb]at hb;split at h
    ·rename_i hg;exact⟨t,e,j,i,l,k,s,o,rfl,ho,hg,hb.1,hb.2.1,hb.2.2,h,fun v=>by simp[nx,ho]⟩
    exact absurd h.symm n
   exact absurd h.symm n
  exact absurd h.symm n
 exact absurd h.symm n
def Qc:M0->Bool
 |.look ..=>true
 |_=>false
def Afx {o:Op}{V:M0}(h:Mz P env o=V)(j:V≠.other)(e:Qc V=false):Fe o=false:=by
 unfold Mz at h;split at h<;>first|rfl|exact absurd h.symm j|(rw[<-h]at e;cases e)
def G.bigX {V:M0}{K:Value->PH->PH->Prop}(h:M2 P (adv P st)=V)(E:V≠.other/\Qc V=false)(C:(∀ v n j,K v n j->PH.le m j)\/T6 (adv P st)=true)
 (R:∀ env (o:Oper),Mz P env o.op=V->∀ w,Bo u m w->Eb P env o w fun v w'=>∃ n j,Bo n j w'/\Br u m w n j w'/\K v n j)
 (k:∀ v n j,PH.le u n->K v n j->G P fn Post (nx (adv P st) v) n j):G P fn Post st u m:=by
 refine G.stp ?_;obtain⟨Y,W,X,i,l,Z,s,o,e,I,Q,O,U,T,t,H⟩:=Vo h E.1;rw[e]at C⊢;refine⟨?_⟩;refine Ob.big (K:=K) I Q O U T (Afx t E.1 E.2) (fun v n j N=>?_) (fun w F=>R _ o t w F) (fun v n j J L=>?_)
 ·rcases C with C|C
  ·exact .inl (C v n j N)
  exact .inr (Z8 I C)
 have:=(k v n j J L).out;rw[H]at this;exact this
def Amk {o:Oper}{w w':World}{K:Value->World->Prop}(h:(execOp env o).run P w=.ok .skip w')(e:K undef w'):Eb P env o w K:=by
 unfold Eb;rw[h];exact e
def G.mapMk (h:M2 P (adv P st)=.mk)(k:∀ g,m g=none->u g=none->G P fn Post (nx (adv P st) (.map (some g))) u (m.upd g (.map #[] 0))):G P fn Post st u m:=by
 refine G.bigX (K:=fun v E j=>E=u/\PH.le m j/\∃ g,m g=none/\u g=none/\v=.map (some g)/\j=m.upd g (.map #[] 0)) h (by simp[Qc]) (.inl fun v E j C=>C.2.1) (fun env o e w t=>?_) (fun R E j O C=>?_)
 ·obtain⟨I,Q,H,pos,after,n⟩:=o;simp only at e;unfold Mz at e;split at e<;>try (cases e;done)
  obtain⟨g1,g2,F,J⟩:=t.newO (o:=.map #[] 0) rfl;refine B0 (w':=w.alloc (.map #[] 0)) (v:=.map (some w.heap.size)) ?_ ⟨u,_,g1,g2,rfl,Kx _ F,w.heap.size,F,J,rfl,rfl⟩;simp[execOp,Instr.makeMap,World.alloc_eq]
 obtain⟨rfl,_,g,L,N,rfl,rfl⟩:=C;exact k g L N
def Z6 (P:Program)(t:TypeId):Option Value:=match P.info? t with|some i=>i.zero|none=>none
def Yu {t:TypeId}{z:Value}(h:Z6 P t=some z)(w:World):(zeroValue t).run P w=.ok z w:=by
 unfold Z6 at h;split at h
 ·rename_i i hi;simp[zeroValue,typeInfo,hi,h]
 cases h
variable {κ:Type} [DecidableEq κ] {enc:κ->Value} {kt et:TypeId}
def G.mapGet (K:Wa P kt enc)(z:Value)(g:Nat)(o:Obj)(l:List (κ×Value))(a:κ)(ok:Bool)(h:M2 P (adv P st)=.look (some (.map kt et)) (.map (some g)) (enc a) ok)(Y:Z6 P et=some z)(R:u g=some o\/m g=some o)(T:Fo enc o l)
 (k:G P fn Post (nx (adv P st) (Ail z (Gx a l) ok)) u m):G P fn Post st u m:=by
 refine G.stp ?_;obtain⟨id,a0,dr,i,l',kk,s,o',e,H,E,Q,W,V,j,F⟩:=Vo h mV;have k:=k.out;rw[F]at k;rw[e];have C:Fu o'.op=false:=by
  unfold Mz at j;split at j<;>first|(cases j;done)|(rename_i e;rw[e];rfl)
 refine⟨Ob.ask H E Q W V C (fun w hp=>?_) k⟩;obtain⟨J,Z,I,pos,after,n⟩:=o';simp only at j hp;unfold Mz at j;split at j<;>try (cases j;done)
 rename_i t x i ok';simp only[M0.look.injEq]at j;obtain⟨L,N,O,rfl⟩:=j;obtain⟨pu,pm⟩:=hp rfl;have X:w.heap[g]?=some o:=R.elim (pu g o) (pm g o);have U:=Ag6 K L (fun w=>Yu Y w) X T a ok';simp only[execOp,N,O];simp[U]
def G.mapHas (K:Wa P kt enc)(z:Value)(g:Nat)(o:Obj)(l:List (κ×Value))(a:κ)(x:Value)(h:M2 P (adv P st)=.look (some (.map kt et)) (.map (some g)) (enc a) true)(t:Z6 P et=some z)(e:u g=some o\/m g=some o)(j:Fo enc o l)(n:Gx a l=some x)
 (k:G P fn Post (nx (adv P st) (.tuple #[x,.bool true])) u m):G P fn Post st u m :=
 G.mapGet K z g o l a true h t e j (by rw[n];exact k)
def G.mapNot (K:Wa P kt enc)(z:Value)(g:Nat)(o:Obj)(l:List (κ×Value))(a:κ)(h:M2 P (adv P st)=.look (some (.map kt et)) (.map (some g)) (enc a) true)(t:Z6 P et=some z)(e:u g=some o\/m g=some o)(j:Fo enc o l)(n:Gx a l=none)
 (k:G P fn Post (nx (adv P st) (.tuple #[z,.bool false])) u m):G P fn Post st u m :=
 G.mapGet K z g o l a true h t e j (by rw[n];exact k)
def G.mapPut (K:Wa P kt enc)(g:Nat)(o:Obj)(l:List (κ×Value))(a:κ)(x:Value)(h:M2 P (adv P st)=.put (some (.map kt et)) (.map (some g)) (enc a) x)(R:T6 (adv P st)=true)(T:m g=some o)(ho:Fo enc o l)
 (k:∀ o',Fo enc o' (Kb a x l)->G P fn Post (nx (adv P st) undef) u (m.upd g o')):G P fn Post st u m:=by
 refine G.bigX (K:=fun v J I=>J=u/\v=undef/\∃ o',Fo enc o' (Kb a x l)/\I=m.upd g o') h (by simp[Qc]) (.inr R) (fun env o' e w L=>?_) (fun v' J I Z W=>?_)
 ·obtain⟨Q,C,O,pos,after,j⟩:=o';simp only at e;have key:∀ t X A Y,P.underlying t=some (.map kt et)->env X=.map (some g)->env A=enc a->env Y=x->(C=.mapUpdate t X A Y\/C=.insert t X A Y)->Eb P env ⟨Q,C,O,pos,after,j⟩ w fun v w'=>∃ J I,Bo J I w'/\Br u m w J I w'/\J=u/\v=undef/\∃ o',Fo enc o' (Kb a x l)/\I=m.upd g o':=by
   intro t X A Y n E F H V;have hw:w.heap[g]?=some o:=L.pm g o T;obtain⟨o',N,U⟩:=Ahw K n hw ho a x;have hn:Rj o'=true:=by obtain⟨es,c,rfl,_⟩:=N;rfl
   obtain⟨g1,g2⟩:=L.setO T hn;refine Amk (w':=Sb w g o') ?_ ⟨u,_,g1,g2,rfl,rfl,o',N,rfl⟩;rcases V with rfl|rfl
   ·simp only[execOp,E,F,H];simp[U,Sb]
   simp only[execOp,E,F,H];simp[U,Sb]
  unfold Mz at e;split at e<;>try (cases e;done)
  ·simp only[M0.put.injEq]at e;obtain⟨n,E,F,H⟩:=e;exact key _ _ _ _ n E F H (.inl rfl)
  simp only[M0.put.injEq]at e;obtain⟨n,E,F,H⟩:=e;exact key _ _ _ _ n E F H (.inr rfl)
 obtain⟨rfl,rfl,o',n,rfl⟩:=W;exact k o' n
def Aw (D:List MapEntry):Array Nat:=(D.map (·.born)).toArray
structure Ug (es:Array MapEntry)(D:List MapEntry):Prop where
 sub:∀ e∈D,e∈es.toList
 nod:(D.map (·.born)).Nodup
def Ug.nil (es:Array MapEntry):Ug es []:=⟨mV,mV⟩
def G.mapRange (g:Nat)(es:Array MapEntry)(clock:Nat)(kt et:TypeId)(h:M2 P (adv P st)=.range (some (.map kt et)) (.map (some g)))(O:u g=some (.map es clock)\/m g=some (.map es clock))
 (k:∀ i,m i=none->u i=none->G P fn Post (nx (adv P st) (.pointer (some ⟨i,0,none⟩))) u (m.upd i (.mapIter (some g) clock (Aw []) clock))):G P fn Post st u m:=by
 refine G.bigX (K:=fun v H n=>H=u/\PH.le m n/\∃ i,m i=none/\u i=none/\v=.pointer (some ⟨i,0,none⟩)/\n=m.upd i (.mapIter (some g) clock (Aw []) clock)) h (by simp[Qc]) (.inl fun v H n F=>F.2.1) (fun env o e w j=>?_) (fun V H n Q F=>?_)
 ·obtain⟨L,U,J,pos,after,t⟩:=o;simp only at e;unfold Mz at e;split at e<;>try (cases e;done)
  simp only[M0.range.injEq]at e;obtain⟨C,E⟩:=e;have T:w.heap[g]?=some (.map es clock):=O.elim (j.pu g _) (j.pm g _);obtain⟨g1,g2,I,N⟩:=j.newO (o:=.mapIter (some g) clock (Aw []) clock) rfl;have R:=run_range_map (P:=P) w _ kt et g es clock C T;refine B0 (w':=w.alloc (.mapIter (some g) clock (Aw []) clock)) (v:=.pointer (some ⟨w.heap.size,0,none⟩)) ?_ ⟨u,_,g1,g2,rfl,Kx _ I,w.heap.size,I,N,rfl,rfl⟩;simp only[execOp,E];simp[R,Aw]
 obtain⟨rfl,_,i,C,E,rfl,rfl⟩:=F;exact k i C E
def Adh (n:Nat)(t:0<n)(w:World):∃ j e,j<n/\(e=w\/e=w.drew)/\(choose (.mapNext n)).run P w=.ok j e:=by
 by_cases h:n<=1
 ·exact⟨0,w,t,.inl rfl,by simp[choose,Sem.run,Question.forced,h]⟩
 exact⟨_,w.drew,A0z _ t,.inr rfl,by
  simp only[choose,Sem.run,Question.forced,decide_eq_true_eq,h,if_false,Question.cut];rfl⟩
def Alm {w:World}{C g:Nat}(O:TypeId)(hi:w.heap[C]?=some (.mapIter (some g) clock (Aw D) clock))(U:w.heap[g]?=some (.map es clock))(N:Stamped es clock) :
 ((leftOf es (Aw D)).size=0/\(Instr.next (.pointer (some ⟨C,0,none⟩)) false O).run P w=.ok (.tuple #[.bool false]) w) \/
 ∃ e∈(leftOf es (Aw D)).toList,∃ n,(n=w\/n=w.drew)/\(Instr.next (.pointer (some ⟨C,0,none⟩)) false O).run P w=.ok (.tuple #[.bool true,e.key,e.val]) (Sb n C (.mapIter (some g) clock (Aw (D++[e])) clock)):=by
 have W:(Aw D).push=fun b=>(Aw D).push b:=rfl;have t:∀ e:MapEntry,(Aw D).push e.born=Aw (D++[e]):=fun e=>by simp[Aw]
 simp only[Instr.next,getObj,Sem.run_bind,Sem.run,hi,U,Result.andThen,next_test_false (Aw D) es clock clock N.1 (Ay2 _),A1q,if_false];have h:∀ x∈(leftOf es (Aw D)).toList,x.born<clock:=fun x I=>N.1 x (mem_left I).1;have T:es.filter (fun e=>!(Aw D).contains e.born)=leftOf es (Aw D):=rfl;simp only[T];generalize leftOf es (Aw D)=L at h⊢;have Q:L.filter (fun x=>decide (x.born<clock))=L:=Array.filter_eq_self.2 (fun x I=>by simpa using h x (by simpa using I));have R:L.filter (fun x=>decide (x.born≥clock)) = #[]:=by
  rw[Array.filter_eq_empty_iff];intro x I;have:=h x (by simpa using I);simp;omega
 simp only[Q,R,Array.append_empty];by_cases h0:L.size=0
 ·left;have:L = #[]:=A3o h0;subst this;refine⟨rfl,?_⟩;simp[choose,Sem.run,Question.forced]
 right;have K:L.isEmpty=false:=by simp[Array.isEmpty,h0]
 simp only[K,A1q,if_false,Array.empty_append,Array.size_map];obtain⟨j,n,V,E,F⟩:=Adh (P:=P) L.size oV w;refine⟨L[j],mV,n,E,?_⟩;have J:n.heap[C]?=some (.mapIter (some g) clock (Aw D) clock):=by rcases E with rfl|rfl<;>exact hi
 have H:∀ o':Obj,(setObj C o').run P n=.ok () (Sb n C o'):=fun o'=>by
  simp only[setObj,Sem.run,J,Sb]
 simp only[F,Array.getElem?_map,A0l V,A1n,Sem.run_bind,H,Result.andThen,t];rfl
def Pe (D:List MapEntry)(b:Nat):(Aw D).contains b=true↔b∈D.map (·.born):=by
 unfold Aw;simp
def Amm (H:Stamped es clock)(n:Ug es D)(h:(leftOf es (Aw D)).size=0):D.Perm es.toList:=by
 have F:es.toList.Nodup:=Me H.2.1;have C:D.Nodup:=Me n.nod;refine (List.perm_ext_iff_of_nodup C F).2 fun e=>⟨n.sub e,fun J=>?_⟩;have E:leftOf es (Aw D) = #[]:=A3o h;have t:(Aw D).contains e.born=true:=by
  cases t:(Aw D).contains e.born with
  |true=>rfl
  |false =>
   have:e∈leftOf es (Aw D):=Array.mem_filter.2 ⟨by simpa using J,by rw[t];rfl⟩;rw[E]at this;simp at this
 obtain⟨d,I,N⟩:=Ayx.1 ((Pe D _).1 t);have K:=find_born e es.toList H.2.1 J;have j:=find_born d es.toList H.2.1 (n.sub d I);rw[N]at j;rw[K]at j;have L:=A0j j;rw[L];exact I
def Ug.snoc (h:Ug es D){e:MapEntry}(F:e∈(leftOf es (Aw D)).toList):Ug es (D++[e]):=by
 obtain⟨C,n⟩:=mem_left F;refine⟨fun x j=>?_,?_⟩
 ·simp only[Ay5,Azs]at j;rcases j with j|rfl
  ·exact h.sub x j
  exact C
 simp only[Aza,Azu,A3n];refine A1h.2 ⟨h.nod,mV,fun a E b t=>?_⟩;simp only[Azs]at t;subst t;rintro rfl;rw[(Pe D _).2 E]at n;cases n
def G.mapNext (t g:Nat)(es:Array MapEntry)(clock:Nat)(D:List MapEntry)(h:M2 P (adv P st)=.next (.pointer (some ⟨t,0,none⟩)))(J:T6 (adv P st)=true)(hi:m t=some (.mapIter (some g) clock (Aw D) clock))(Z:u g=some (.map es clock)\/m g=some (.map es clock))(U:Stamped es clock)(R:Ug es D)
 (k0:D.Perm es.toList->G P fn Post (nx (adv P st) (.tuple #[.bool false])) u m)
 (k1:∀ e,e∈es.toList->Ug es (D++[e])->G P fn Post (nx (adv P st) (.tuple #[.bool true,e.key,e.val])) u (m.upd t (.mapIter (some g) clock (Aw (D++[e])) clock))):G P fn Post st u m:=by
 refine G.bigX (K:=fun v V O=>V=u/\((O=m/\v=.tuple #[.bool false]/\D.Perm es.toList)\/∃ e,e∈es.toList/\Ug es (D++[e])/\v=.tuple #[.bool true,e.key,e.val]/\O=m.upd t (.mapIter (some g) clock (Aw (D++[e])) clock))) h (by simp[Qc]) (.inr J) (fun env o j w n=>?_) (fun v' V O a0 hk=>?_)
 ·obtain⟨W,a1,H,pos,after,I⟩:=o;simp only at j;unfold Mz at j;split at j<;>try (cases j;done)
  simp only[M0.next.injEq]at j;have hw:w.heap[g]?=some (.map es clock):=Z.elim (n.pu g _) (n.pm g _);have N:=n.pm t _ hi;rcases Alm (P:=P) H N hw U with ⟨h0,L⟩|⟨e,T,Q,F,L⟩
  ·refine B0 (w':=w) (v:=.tuple #[.bool false]) ?_ ⟨u,m,n,Br.refl _ _ _,rfl,.inl ⟨rfl,rfl,Amm U R h0⟩⟩;simp only[execOp,j];simp[L]
  have C:Bo u m Q:=by rcases F with rfl|rfl;exact n;exact n.drew'
  have E:Br u m w u m Q:=by rcases F with rfl|rfl;exact Br.refl _ _ _;exact n.drewG
  obtain⟨g1,g2⟩:=C.setO (o':=.mapIter (some g) clock (Aw (D++[e])) clock) hi rfl;refine B0 (w':=Sb Q t (.mapIter (some g) clock (Aw (D++[e])) clock)) (v:=.tuple #[.bool true,e.key,e.val]) ?_ ⟨u,_,g1,E.trans g2,rfl,.inr ⟨e,(mem_left T).1,R.snoc T,rfl,rfl⟩⟩;simp only[execOp,j];simp[L]
 obtain⟨rfl,⟨rfl,rfl,hp⟩|⟨e,X,Y,rfl,rfl⟩⟩:=hk
 ·exact k0 hp
 exact k1 e X Y
def G.mapEntry (t g:Nat)(es:Array MapEntry)(clock:Nat)(D:List MapEntry)(e:MapEntry)(h:M2 P (adv P st)=.entry (.pointer (some ⟨t,0,none⟩)))(hi:m t=some (.mapIter (some g) clock (Aw (D++[e])) clock))(R:u g=some (.map es clock)\/m g=some (.map es clock))(V:Stamped es clock)(O:e∈es.toList)
 (k:G P fn Post (nx (adv P st) (.tuple #[e.key,e.val])) u m):G P fn Post st u m:=by
 refine G.bigX (K:=fun v I H=>I=u/\H=m/\v=.tuple #[e.key,e.val]) h (by simp[Qc]) (.inl fun v I H E=>by rw[E.2.1];exact PH.le_refl _) (fun env o j w n=>?_) (fun Y I H T E=>?_)
 ·obtain⟨L,X,J,pos,after,C⟩:=o;simp only at j;unfold Mz at j;split at j<;>try (cases j;done)
  simp only[M0.entry.injEq]at j;have W:w.heap[g]?=some (.map es clock):=R.elim (n.pu g _) (n.pm g _);have F:=n.pm t _ hi;have N:(Aw (D++[e])).back?=some e.born:=by simp[Aw]
  have Q:es.find? (fun x=>x.born==e.born)=some e:=by rw[<-Array.find?_toList];exact find_born e es.toList V.2.1 O
  have U:(Instr.entry (.pointer (some ⟨t,0,none⟩))).run P w=.ok (.tuple #[e.key,e.val]) w:=by
   simp only[Instr.entry,getObj,Sem.run_bind,Sem.run,F,W,Result.andThen,N,bne_self_eq_false,A1q,if_false,Q];rfl
  refine B0 (w':=w) ?_ ⟨u,m,n,Br.refl _ _ _,rfl,rfl,rfl⟩;simp only[execOp,j];simp[U]
 obtain⟨rfl,rfl,rfl⟩:=E;exact k
end rules
end
section
variable {g:Nat}
variable [Cc]
def L7 (g:Nat)(o:Obj):PH:=PH.mt.upd g o
def PH.del (m:PH)(g:Nat):PH:=fun h=>if h=g then none else m h
def Cb (g:Nat)(o:Obj):L7 g o g=some o:=Ab _ _ _
def Aa9 {g h:Nat}(o:Obj)(e:h≠g):L7 g o h=none:=by unfold L7;rw[Ad _ _ e];rfl
def Amj {m:PH}{o:Obj}(h:m g=some o):m=(m.del g).or (L7 g o)/\Lp (m.del g) (L7 g o):=by
 constructor
 ·funext k
  by_cases e:k=g
  ·subst e;rw[PH.or_r (by simp[PH.del]),Cb,h]
  cases hk:m k with
  |none=>rw[PH.or_r (by simp[PH.del,e,hk]),Aa9 o e]
  |some p=>rw[PH.or_l (o:=p) (by simp[PH.del,e,hk])]
 intro k;by_cases e:k=g
 ·left;simp[PH.del,e]
 right;exact Aa9 o e
def App {m:PH}{o:Obj}:(m.del g).or (L7 g o)=m.upd g o:=by
 funext k
 by_cases e:k=g
 ·subst e;rw[PH.or_r (by simp[PH.del]),Cb,Ab]
 rw[Ad _ _ e];cases hk:m k with
 |none=>rw[PH.or_r (by simp[PH.del,e,hk]),Aa9 o e]
 |some p=>rw[PH.or_l (o:=p) (by simp[PH.del,e,hk])]
section
variable {P:Program} [A5 P] {fn:Func} {Post:By} {st:List KI×S} {u m:PH}
def G.callG (f:Nat)(args:List Value){g:Nat}{o:Obj}{R:Value->PH->Obj->Prop}(h:Aj P (adv P st)=.call f args)(j:T6 (adv P st)=true)(F:∀ args w,(callFunc f args).run P w=.ok (.enter f args) w)(H:m g=some o)
 (c:Ag P f args u (L7 g o) (fun v e n=>∃ o',n=L7 g o'/\R v e o')) (k:∀ v e o',PH.le u e->R v e o'->G P fn Post (nx (adv P st) v) e (m.upd g o')):G P fn Post st u m:=by
 obtain⟨t,C⟩:=Amj H;refine G.callA f args h j F t C c ?_;rintro v e n I ⟨o',rfl,E⟩ _;rw[App];exact k v e o' I E
def Ag.giveAll {f:FuncId}{args:List Value}{R:Value->PH->PH->Prop}(c:Ag P f args u PH.mt R):Fn0 P f args u (fun v n=>∃ K J,PH.le K n/\PH.le J n/\R v K J):=by
 intro w T;refine Calls.mono (c w T) fun e w' Q=>?_;obtain⟨v,n,H,L,I,C,O⟩:=Q;have F:PH.le n (H.or n):=fun g o h=>by
  cases hx:H g with
  |none=>rw[PH.or_r hx];exact h
  |some p=>have:=(I.ap g).resolve_right (by rw[hx];simp);rw[this]at h;cases h
 refine⟨v,H.or n,PH.mt,L,⟨fun g o h=>?_,E5.mt _,fun g=>.inr rfl,fun g cs t fr j z h U=>?_⟩,⟨C.sz,C.old,fun g E=>?_,fun _ _ _=>rfl,C.io,C.dr⟩,rfl,n,H,F,fun g o h=>PH.or_l h,O⟩
 ·cases hx:H g with
  |none=>rw[PH.or_r hx]at h;exact I.pu g o h
  |some p=>rw[PH.or_l hx]at h;cases h;exact I.pm g _ hx
 ·exact F g _ (I.cl g cs t fr j z h U)
 rw[PH.or_r (C.ms g E rfl)];exact C.us g E
end
abbrev SlI:Type:=Option Addr×Nat×Nat
def Gp {κ:Type}(enc:κ->Value)(R:PH->Value->Rat->Prop)(nz:Bool)(u:PH)(o:Obj)(f:κ->Rat)(N s:Nat):Prop :=
 ∃ l:List (κ×Value),Fo enc o l/\(∀ p∈l,R u p.2 (f p.1)/\(nz=true->f p.1≠0)/\Sz (f p.1) s)/\(∀ k,k∉l.map (·.1)->f k=0)/\l.length<=N
section
variable {κ:Type} [DecidableEq κ] {enc:κ->Value} {R:PH->Value->Rat->Prop} {nz:Bool} {u:PH} {o:Obj} {f:κ->Rat} {N s:Nat}
def Gp.up {j n:Nat}(h:Gp enc R nz u o f N s)(F:N<=j)(H:s<=n):Gp enc R nz u o f j n:=by
 obtain⟨l,t,e,C,E⟩:=h;exact⟨l,t,fun p hp=>⟨(e p hp).1,(e p hp).2.1,(e p hp).2.2.mono H⟩,C,Ayv E F⟩
def Gp.congr {f':κ->Rat}(h:Gp enc R nz u o f N s)(e:∀ k,f k=f' k):Gp enc R nz u o f' N s:=by
 rw[<-funext e];exact h
def Gp.empty (s:Nat):Gp enc R nz u (.map #[] 0) (fun _=>0) 0 s:=⟨[],Fo.empty,mV,fun _ _=>rfl,Ay2 _⟩
def I6 {a:κ}:∀ {l:List (κ×Value)} {v:Value},Gx a l=some v->(a,v)∈l
 |(b,w)::l,v,h=>by
  unfold Gx at h;split at h
  ·rename_i e;cases h;rw[e];simp
  exact Azq _ (I6 h)
def Aar {a:κ}:∀ {l:List (κ×Value)} {v:Value},(l.map (·.1)).Nodup->(a,v)∈l->Gx a l=some v
 |(b,w)::l,v,hn,h=>by
  simp only[Azu,A1i]at hn;unfold Gx;rcases Ay7.1 h with e|e
  ·cases e;rw[if_pos rfl]
  have:a≠b:=fun j=>hn.1 (by rw[<-j];exact Ayx.2 ⟨_,e,rfl⟩);rw[if_neg this];exact Aar hn.2 e
def Wm {a:κ}{x:Value}:∀ {l:List (κ×Value)} {p:κ×Value},(l.map (·.1)).Nodup->p∈Kb a x l->p=(a,x)\/(p∈l/\p.1≠a)
 |[],p,_,h=>by simp[Kb]at h;exact .inl h
 |(b,w)::l,p,hn,h=>by
  simp only[Azu,A1i]at hn;unfold Kb at h;split at h
  ·rename_i e;subst e;rcases Ay7.1 h with h|h
   ·exact .inl h
   refine .inr ⟨Azq _ h,fun j=>hn.1 ?_⟩;rw[<-j];exact Ayx.2 ⟨p,h,rfl⟩
  rename_i e;rcases Ay7.1 h with h|h
  ·subst h;exact .inr ⟨mV,fun j=>e j.symm⟩
  rcases Wm hn.2 h with h|⟨h,n⟩
  ·exact .inl h
  exact .inr ⟨Azq _ h,n⟩
def Sk {a:κ}{x:Value}{k:κ}:∀ {l:List (κ×Value)},k∈(Kb a x l).map (·.1)↔k=a\/k∈l.map (·.1)
 |[]=>by simp[Kb]
 |(b,w)::l=>by
  unfold Kb;split
  ·rename_i e;subst e;simp
  simp only[Azu,Ay7,Sk (l:=l)];constructor
  ·rintro (h|h|h)
   ·exact .inr (.inl h)
   ·exact .inl h
   exact .inr (.inr h)
  rintro (h|h|h)
  ·exact .inr (.inl h)
  ·exact .inl h
  exact .inr (.inr h)
def M9 {a:κ}{x:Value}:∀ {l:List (κ×Value)},(Kb a x l).length<=l.length+1
 |[]=>by simp[Kb]
 |(b,w)::l=>by
  unfold Kb;split
  ·simp
  have:=M9 (a:=a) (x:=x) (l:=l);simp;omega
def I1 (f:κ->Rat)(a:κ)(q:Rat):κ->Rat:=fun k=>if k=a then q else f k
def Gp.put {o':Obj}{a:κ}{x:Value}{q:Rat}{l:List (κ×Value)}(F:Fo enc o l)(e:∀ p∈l,R u p.2 (f p.1)/\(nz=true->f p.1≠0)/\Sz (f p.1) s)(E:∀ k,k∉l.map (·.1)->f k=0)(K:l.length<=N)
 (C:Fo enc o' (Kb a x l)) (J:R u x q) (H:nz=true->q≠0) {t:Nat} (I:Sz q t) (n:s<=t):Gp enc R nz u o' (I1 f a q) (N+1) t:=by
 refine⟨_,C,fun p hp=>?_,fun k h=>?_,Ayv M9 oV⟩
 ·unfold I1;rcases Wm F.nodup hp with rfl|⟨hp,j⟩
  ·simp only[if_true];exact⟨J,H,I⟩
  rw[if_neg j];exact⟨(e p hp).1,(e p hp).2.1,(e p hp).2.2.mono n⟩
 rw[Sk,not_or]at h;unfold I1;rw[if_neg h.1];exact E k h.2
end
end
section
variable [Cc]
open Go.MapKept
def Sr {α β:Type}(f:α->β):∀ {l:List α} {x y:α},(l.map f).Nodup->x∈l->y∈l->f x=f y->x=y
 |[],_,_,_,h,_,_=>by simp at h
 |a::l,x,y,hn,j,g,e=>by
  simp only[Azu,A1i]at hn;rcases Ay7.1 j with t|j
  ·subst t;rcases Ay7.1 g with n|g
   ·exact n.symm
   exact absurd (Ayx.2 ⟨y,g,e.symm⟩) hn.1
  rcases Ay7.1 g with n|g
  ·rw[n]at e;exact absurd (Ayx.2 ⟨x,j,e⟩) hn.1
  exact Sr f hn.2 j g e
def Xp {α β:Type}(f:α->β):∀ {L l:List α},(L.map f).Nodup->(∀ p∈L,p∈l)->L.length<=l.length
 |[],_,_,_=>Azh _
 |a::L,l,hn,hs=>by
  simp only[Azu,A1i]at hn;obtain⟨s,t,rfl⟩:=A3i (hs a mV);have:=Xp f (L:=L) (l:=s++t) hn.2 (fun p hp=>by
   have j:=hs p (by simp[hp]);have g:p≠a:=fun e=>hn.1 (by rw[<-e];exact Ayx.2 ⟨p,hp,rfl⟩);simp only[Ay5,Ay7]at j⊢;rcases j with h|h|h
   ·exact .inl h
   ·exact absurd h g
   exact .inr h)
  simp only[Ay3,A0q]at this⊢;omega
section
variable {κ:Type} [DecidableEq κ] {enc:κ->Value}
structure Gc (enc:κ->Value)(es:Array MapEntry)(l:List (κ×Value))(D:List MapEntry)(L:List (κ×Value)):Prop where
 it:Ug es D
 kv:D.map (fun e=>(e.key,e.val))=L.map (fun p=>(enc p.1,p.2))
 sub:∀ p∈L,p∈l
 nod:(L.map (·.1)).Nodup
def Gc.nil (es:Array MapEntry)(l:List (κ×Value)):Gc enc es l [] []:=⟨Ug.nil es,rfl,mV,mV⟩
def Gc.snoc (F:∀ a b,enc a=enc b->a=b){es:Array MapEntry}{l:List (κ×Value)}{D:List MapEntry}{L:List (κ×Value)}(Q:es.toList.map (fun e=>(e.key,e.val))=l.map (fun p=>(enc p.1,p.2)))(R:(l.map (·.1)).Nodup)
 (h:Gc enc es l D L) {e:MapEntry} (O:e∈es.toList) (hi:Ug es (D++[e])):∃ p,p∈l/\e.key=enc p.1/\e.val=p.2/\p.1∉L.map (·.1)/\Gc enc es l (D++[e]) (L++[p]):=by
 have U:(e.key,e.val)∈l.map (fun p=>(enc p.1,p.2)):=by rw[<-Q];exact Ayx.2 ⟨e,O,rfl⟩
 obtain⟨p,hp,g⟩:=Ayx.1 U;simp only[Az0]at g;have H:(es.toList.map (·.key)).Nodup:=by
  have T:es.toList.map (·.key)=(l.map (·.1)).map enc:=by
   have:=congrArg (List.map (·.1)) Q;simpa[Function.comp_def] using this
  rw[T];exact List.pairwise_map.2 (R.imp fun I j=>I (F _ _ j))
 have t:p.1∉L.map (·.1):=by
  intro X;obtain⟨q,n,K⟩:=Ayx.1 X;have J:q=p:=Sr (·.1) R (h.sub q n) hp K;subst J;have V:(enc q.1,q.2)∈D.map (fun e=>(e.key,e.val)):=by rw[h.kv];exact Ayx.2 ⟨q,n,rfl⟩
  obtain⟨j,C,E⟩:=Ayx.1 V;simp only[Az0]at E;have:j=e:=Sr (·.key) H (h.it.sub j C) O (E.1.trans g.1);subst this;have:=hi.nod;rw[Aza,A1h]at this;exact this.2.2 j.born (Ayx.2 ⟨j,C,rfl⟩) j.born mV rfl
 refine⟨p,hp,g.1.symm,g.2.symm,t,hi,?_,fun q n=>?_,?_⟩
 ·rw[Aza,Aza,h.kv];simp[g.1,g.2]
 ·rcases Ay5.1 n with n|n
  ·exact h.sub q n
  simp at n;subst n;exact hp
 rw[Aza,A1h];exact⟨h.nod,mV,fun a W b N j=>t (by simp at N;rw[<-N,<-j];exact W)⟩
def Gc.all (n:∀ a b,enc a=enc b->a=b){es:Array MapEntry}{l:List (κ×Value)}{D:List MapEntry}{L:List (κ×Value)}(H:es.toList.map (fun e=>(e.key,e.val))=l.map (fun p=>(enc p.1,p.2)))
 (h:Gc enc es l D L) (hp:D.Perm es.toList):∀ p∈l,p∈L:=by
 intro p t;have C:(enc p.1,p.2)∈es.toList.map (fun e=>(e.key,e.val)):=by rw[H];exact Ayx.2 ⟨p,t,rfl⟩
 obtain⟨e,F,g⟩:=Ayx.1 C;have E:(e.key,e.val)∈L.map (fun p=>(enc p.1,p.2)):=by rw[<-h.kv];exact Ayx.2 ⟨e,hp.mem_iff.2 F,rfl⟩
 obtain⟨q,I,j⟩:=Ayx.1 E;simp only[Az0]at j g;have:q=p:=A6g (n _ _ (j.1.trans g.1)) (j.2.trans g.2);subst this;exact I
def Gc.len {es:Array MapEntry}{l:List (κ×Value)}{D:List MapEntry}{L:List (κ×Value)}(h:Gc enc es l D L):L.length<=l.length:=Xp (·.1) h.nod h.sub
end
section rules
variable {P:Program} [A5 P] {fn:Func} {Post:By} {st:List KI×S} {u m:PH}
variable {κ:Type} [DecidableEq κ] {enc:κ->Value}
def G.mapNextL (n:∀ a b,enc a=enc b->a=b)(t g:Nat)(es:Array MapEntry)(j:Nat)(l:List (κ×Value))(D:List MapEntry)(L:List (κ×Value))(h:M2 P (adv P st)=.next (.pointer (some ⟨t,0,none⟩)))(E:T6 (adv P st)=true)
 (hi:m t=some (.mapIter (some g) j (Aw D) j)) (R:u g=some (.map es j)\/m g=some (.map es j)) (U:Stamped es j) (K:es.toList.map (fun e=>(e.key,e.val))=l.map (fun p=>(enc p.1,p.2))) (T:(l.map (·.1)).Nodup) (C:Gc enc es l D L)
 (V:(∀ p∈l,p∈L)->G P fn Post (nx (adv P st) (.tuple #[.bool false])) u m)
 (W:∀ p e,p∈l->p.1∉L.map (·.1)->e∈es.toList->e.key=enc p.1->e.val=p.2->Gc enc es l (D++[e]) (L++[p])->G P fn Post (nx (adv P st) (.tuple #[.bool true,enc p.1,p.2])) u (m.upd t (.mapIter (some g) j (Aw (D++[e])) j))):G P fn Post st u m:=by
 refine G.mapNext t g es j D h E hi R U C.it (fun hp=>V (C.all n K hp)) (fun e J F=>?_);obtain⟨p,N,H,I,O,Q⟩:=C.snoc n K T J F;rw[H,I];exact W p e N O J H I Q
end rules
end
section
abbrev Par:=Int×List UInt8
def Sn:∀ a:List UInt8,Op.bytesLess a a=false
 |[]=>rfl
 |x::a=>by unfold Op.bytesLess;rw[Sn a];simp
def Qj:∀ {a b c:List UInt8},Op.bytesLess a b=true->Op.bytesLess b c=true->Op.bytesLess a c=true
 |_,[],_,h,_=>by simp[Op.bytesLess]at h
 |_,_::_,[],_,k=>by simp[Op.bytesLess]at k
 |[],_::_,_::_,_,_=>rfl
 |x::a,y::b,z::c,h,k=>by
  unfold Op.bytesLess at h k⊢;simp only[A1z,decide_eq_true_eq,Azb,beq_iff_eq]at h k⊢;rcases h with h|⟨rfl,h⟩
  ·rcases k with k|⟨rfl,k⟩
   ·exact .inl (UInt8.lt_trans h k)
   exact .inl h
  rcases k with k|⟨rfl,k⟩
  ·exact .inl k
  exact .inr ⟨rfl,Qj h k⟩
def Abj:∀ {a b:List UInt8},Op.bytesLess a b=false->Op.bytesLess b a=false->a=b
 |[],[],_,_=>rfl
 |[],_::_,h,_=>by simp[Op.bytesLess]at h
 |_::_,[],_,k=>by simp[Op.bytesLess]at k
 |x::a,y::b,h,k=>by
  unfold Op.bytesLess at h k;simp only[Bool.or_eq_false_iff,decide_eq_false_iff_not,A6j,beq_eq_false_iff_ne]at h k;have g:x=y:=by
   rcases A33 x.toNat y.toNat with e|e|e
   ·exact absurd (A8g.2 e) h.1
   ·exact A6w.1 e
   exact absurd (A8g.2 e) k.1
  subst g;have j:=h.2.resolve_left (fun e=>e rfl);have m:=k.2.resolve_left (fun e=>e rfl);rw[Abj j m]
def Ua (a b:List UInt8):Int:=if Op.bytesLess a b then -1 else if a=b then 0 else 1
def Qg (x y:Int):Int:=if x<y then -1 else if y<x then 1 else 0
def Bf (a b:Par):Int:=if Qg a.1 b.1≠0 then Qg a.1 b.1 else Ua a.2 b.2
def Ni (a b:Par×Par):Int:=if Bf a.1 b.1≠0 then Bf a.1 b.1 else Bf a.2 b.2
structure Ord {κ:Type}(c:κ->κ->Int):Prop where
 refl:∀ a,c a a=0
 eq:∀ a b,c a b=0->a=b
 sym:∀ a b,c a b<0↔0<c b a
 trans:∀ a b d,c a b<0->c b d<0->c a d<0
def Ayj:Ord Ua:=by
 refine⟨fun a=>by simp[Ua,Sn],fun a b h=>?_,fun a b=>?_,fun a b d h k=>?_⟩
 ·unfold Ua at h;split at h
  ·cases h
  split at h
  ·assumption
  cases h
 ·unfold Ua;by_cases h:Op.bytesLess a b=true
  ·rw[if_pos h];have g:¬ (Op.bytesLess b a=true):=fun k=>by have:=Qj h k;rw[Sn]at this;cases this
   have m:¬ (b=a):=fun e=>by rw[e,Sn]at h;cases h
   rw[if_neg g,if_neg m];omega
  rw[if_neg h];constructor
  ·intro k;split at k<;>omega
  intro k;by_cases g:Op.bytesLess b a=true
  ·rw[if_pos g]at k;omega
  rw[if_neg g]at k;have:=Abj (Bool.eq_false_iff.2 g) (Bool.eq_false_iff.2 h);rw[if_pos this]at k;omega
 have j:Op.bytesLess a b=true:=by
  unfold Ua at h;split at h
  ·assumption
  split at h<;>omega
 have n:Op.bytesLess b d=true:=by
  unfold Ua at k;split at k
  ·assumption
  split at k<;>omega
 unfold Ua;rw[if_pos (Qj j n)];omega
def Ayb:Ord Qg:=by
 refine⟨fun a=>by simp[Qg],fun a b h=>?_,fun a b=>?_,fun a b d h k=>?_⟩;all_goals unfold Qg at *
 ·split at h<;>(try split at h)<;>omega
 ·split<;>split<;>(try split)<;>omega
 split at h<;>split at k<;>(try split at h)<;>(try split at k)<;>split<;>(try split)<;>omega
def Ord.lex {α β:Type}{c:α->α->Int}{d:β->β->Int}(h:Ord c)(k:Ord d):Ord (fun (a b:α×β)=>if c a.1 b.1≠0 then c a.1 b.1 else d a.2 b.2):=by
 refine⟨fun a=>by simp[h.refl,k.refl],fun a b e=>?_,fun a b=>?_,fun a b x e f=>?_⟩
 ·by_cases h0:c a.1 b.1=0
  ·simp only[h0,ne_eq,not_true,if_false]at e;exact A6g (h.eq _ _ h0) (k.eq _ _ e)
  simp only[h0,ne_eq,not_false_eq_true,if_true]at e
 ·have F:=h.sym a.1 b.1;have I:=h.sym b.1 a.1;by_cases h0:c a.1 b.1=0
  ·have e:=h.eq _ _ h0;have t:c b.1 a.1=0:=by rw[<-e];exact h.refl _
   simp only[h0,t,ne_eq,not_true,if_false];exact k.sym _ _
  have t:c b.1 a.1≠0:=fun H=>h0 (by rw[h.eq _ _ H];exact h.refl _);simp only[h0,t,ne_eq,not_false_eq_true,if_true];exact F
 have g:∀ y z:α×β,(if c y.1 z.1≠0 then c y.1 z.1 else d y.2 z.2)<0↔(c y.1 z.1<0\/(y.1=z.1/\d y.2 z.2<0)):=fun y z=>by
  by_cases h0:c y.1 z.1=0
  ·have e:=h.eq _ _ h0;simp only[h0,ne_eq,not_true,if_false];constructor
   ·intro j;exact .inr ⟨e,j⟩
   rintro (j|⟨_,j⟩)
   ·omega
   exact j
  simp only[h0,ne_eq,not_false_eq_true,if_true];constructor
  ·intro j;exact .inl j
  rintro (j|⟨m,_⟩)
  ·exact j
  exact absurd (by rw[m];exact h.refl _) h0
 have m:=(g a b).1 e;have f':=(g b x).1 f;refine (g a x).2 ?_;rcases m with m|⟨u,E⟩
 ·rcases f' with f'|⟨n,C⟩
  ·exact .inl (h.trans _ _ _ m f')
  rw[<-n];exact .inl m
 rcases f' with f'|⟨n,C⟩
 ·rw[u];exact .inl f'
 exact .inr ⟨u.trans n,k.trans _ _ _ E C⟩
def Dl:Ord Bf:=Ord.lex Ayb Ayj
def Avj:Ord Ni:=Ord.lex Dl Dl
section
variable {κ:Type} {c:κ->κ->Int}
def Ez (c:κ->κ->Int)(l:List κ):Prop:=l.Pairwise fun a b=>c a b<0
def Ord.irr (h:Ord c)(a:κ):¬ c a a<0:=by rw[h.refl];omega
def Ads (h:Ord c):∀ {l j:List κ},Ez c l->Ez c j->(∀ a,a∈l↔a∈j)->l=j
 |[],[],_,_,_=>rfl
 |[],b::j,_,_,e=>by have:=(e b).2 mV;simp at this
 |a::l,[],_,_,e=>by have:=(e a).1 mV;simp at this
 |a::l,b::j,h1,h2,e=>by
  obtain⟨n,u⟩:=A7c.1 h1;obtain⟨t,C⟩:=A7c.1 h2;have m:a=b:=by
   rcases Ay7.1 ((e a).1 mV) with r|r
   ·exact r
   rcases Ay7.1 ((e b).2 mV) with s|s
   ·exact s.symm
   exact absurd (h.trans _ _ _ (n b s) (t a r)) (h.irr a)
  subst m
  congr 1
  refine Ads h u C fun x=>?_;constructor
  ·intro g;rcases Ay7.1 ((e x).1 (by simp[g])) with r|r
   ·subst r;exact absurd (n x g) (h.irr x)
   exact r
  intro g;rcases Ay7.1 ((e x).2 (by simp[g])) with r|r
  ·subst r;exact absurd (t x g) (h.irr x)
  exact r
def Ez.nodup (h:Ord c){l:List κ}(j:Ez c l):l.Nodup:=j.imp fun g e=>by rw[e]at g;exact h.irr _ g
structure Can (c:κ->κ->Int)(f:κ->Rat)(l:List (κ×Rat)):Prop where
 srt:Ez c (l.map (·.1))
 val:∀ p∈l,p.2=f p.1/\p.2≠0
 out:∀ k,k∉l.map (·.1)->f k=0
end
structure CF where
 c:Rat
 s:Par->Rat
 t:Par×Par->Rat
def A2 (p q:Par):Par×Par:=if 0<Bf p q then (q,p) else (p,q)
def U8 (p q:Par):A2 p q=A2 q p:=by
 unfold A2;have g:=Dl.sym p q;have j:=Dl.sym q p;by_cases h:0<Bf p q
 ·rw[if_pos h,if_neg oV]
 rw[if_neg h];by_cases e:0<Bf q p
 ·rw[if_pos e]
 rw[if_neg e];have:=Dl.eq p q oV;rw[this]
def CF.zero:CF:=⟨0,fun _=>0,fun _=>0⟩
def CF.add (a b:CF):CF:=⟨a.c+b.c,fun p=>a.s p+b.s p,fun q=>a.t q+b.t q⟩
def CF.scale (k:Rat)(a:CF):CF:=⟨a.c*k,fun p=>a.s p*k,fun q=>a.t q*k⟩
def Im (a b:CF)(q:Par×Par):Rat:=if 0<Bf q.1 q.2 then 0 else if q.1=q.2 then 2*(a.s q.1*b.s q.1) else a.s q.1*b.s q.2+a.s q.2*b.s q.1
def CF.mul (a b:CF):CF:=⟨a.c*b.c,fun p=>b.s p*a.c+a.s p*b.c,fun q=>b.t q*a.c+a.t q*b.c+Im a b q⟩
def CF.ext' {a b:CF}(e:a.c=b.c)(g:∀ p,a.s p=b.s p)(h:∀ q,a.t q=b.t q):a=b:=by
 cases a;cases b;simp only at e g h;rw[e,funext g,funext h]
def Agc (a b:CF)(q:Par×Par):Im a b q=Im b a q:=by
 unfold Im;split
 ·rfl
 split<;>grind
def CF.mul_comm (a b:CF):a.mul b=b.mul a:=CF.ext' (by simp only[CF.mul];grind) (fun p=>by simp only[CF.mul];grind) (fun q=>by simp only[CF.mul];rw[Agc];grind)
def CF.mul_zero (a:CF):a.mul CF.zero=CF.zero:=by
 refine CF.ext' (by simp only[CF.mul,CF.zero];grind) (fun p=>by simp only[CF.mul,CF.zero];grind) (fun q=>?_);simp only[CF.mul,CF.zero,Im];split
 ·grind
 split<;>grind
end
section
variable {F G:CF}{M N d e:Nat}{a b k q r:Rat}
def Dn (d N:Nat)(q:Rat):Prop:=∃ k:Int,q*((12^d:Nat):Rat)=(k:Rat)/\k.natAbs<=N
def Abb (d:Nat):0<12^d:=A5d oV
def Av6 (d:Nat):((12^d:Nat):Rat)≠0:=by
 intro h;have g:((12^d:Nat):Rat)=((0:Nat):Rat):=h;have:=A6x.1 g;have:=Abb d;omega
def Dn.mono (h:Dn d N q)(hm:N<=M):Dn d M q:=by
 obtain⟨k,h1,h2⟩:=h;exact⟨k,h1,oV⟩
def Dn.add (h:Dn d N q)(g:Dn d M r):Dn d (N+M) (q+r):=by
 obtain⟨k,j,n⟩:=h;obtain⟨l,m,t⟩:=g;exact⟨k+l,by rw[A28,<-j,<-m];grind,oV⟩
def Dn.mul (h:Dn d N q)(g:Dn e M r):Dn (d+e) (N*M) (q*r):=by
 obtain⟨k,j,m⟩:=h;obtain⟨l,n,t⟩:=g;refine⟨k*l,?_,by rw[A15];exact A1u m t⟩;rw[A0v,<-j,<-n,A3a,A10];grind
def Dn.zero (d N:Nat):Dn d N 0:=⟨0,by rw[A7t];rfl,Azh _⟩
def Dn.two (h:Dn d N q):Dn d (2*N) (2*q):=by
 have:=h.add h;rw[show 2*q=q+q by grind,show 2*N=N+N by omega];exact this
def Dn.frac (h:Dn d N q):q.num.natAbs<=N/\q.den<=12^d:=by
 obtain⟨k,m,u⟩:=h;have hp:=Abb d;have C:q=Rat.divInt k ((12^d:Nat):Int):=by
  rw[A2g,Az2,<-m];have:=Av6 d;grind
 obtain⟨g,j,E⟩:=O6 (y:=k) (z:=((12^d:Nat):Int)) oV;have t:0<Nat.gcd k.natAbs (12^d):=A5m _ hp;rw[C];constructor
 ·rw[g,A6v];exact Ayv (A16 _ _) u
 have n:((Rat.divInt k ((12^d:Nat):Int)).den:Int)<=((12^d:Nat):Int):=by
  rw[j,show (((12^d:Nat):Int)).natAbs=12^d from rfl,A2a oV,<-A23];exact A83.2 (A16 _ _)
 exact A83.1 n
def Dn.small (h:Dn d N q)(u:d<=50)(t:N<10^100):N0 q=true:=by
 obtain⟨g,j⟩:=h.frac;have m:12^d<=12^50:=Azr oV u;have n:12^50<10^100:=jV
 simp only[N0,Azb,decide_eq_true_eq];exact⟨A0r g t,A0r j (A0r m n)⟩
def SmW.dn (h:SmW q):Dn 1 18540 q:=by
 obtain⟨k,n⟩:=h.den;refine⟨q.num*(k:Int),?_,?_⟩
 ·have m:q*(q.den:Rat)=(q.num:Rat):=by
   have g:q=(q.num:Rat)/(((q.den:Int)):Rat):=by rw[<-A2g,A5q]
   have hi:=A4u ((q.den:Nat):Rat) (fun e=>absurd (A6x.1 (e.trans (rfl:(0:Rat)=((0:Nat):Rat)))) (Nat.pos_iff_ne_zero.1 q.den_pos));rw[Az2,A4w]at g;generalize ((q.den:Nat):Rat)⁻¹=j at g hi;rw[g];grind
  show q*((12^1:Nat):Rat)=_;rw[show (12^1:Nat)=12 from rfl,n,A10,A0v,Az2,<-m];grind
 rw[A15,Az6];have m:=h.num;have g:k<=12:=by
  have:=h.le;have:0<q.den:=q.den_pos;rcases Azx k with h0|h0
  ·omega
  exact A3f oV ⟨q.den,by rw[Az5];exact n⟩
 exact A1u m g
structure CFD (d N:Nat)(F:CF):Prop where
 c:Dn d N F.c
 s:∀ p,Dn d N (F.s p)
 t:∀ q,Dn d N (F.t q)
def CFD.mono {d N M:Nat}{F:CF}(h:CFD d N F)(hm:N<=M):CFD d M F:=⟨h.c.mono hm,fun p=>(h.s p).mono hm,fun q=>(h.t q).mono hm⟩
def CFD.add {d N M:Nat}{F G:CF}(h:CFD d N F)(g:CFD d M G):CFD d (N+M) (F.add G):=⟨h.c.add g.c,fun p=>(h.s p).add (g.s p),fun q=>(h.t q).add (g.t q)⟩
def CFD.scale (h:CFD d N F)(g:Dn e M k):CFD (d+e) (N*M) (F.scale k):=⟨h.c.mul g,fun p=>(h.s p).mul g,fun q=>(h.t q).mul g⟩
def CFD.mul {d e N M:Nat}{F G:CF}(h:CFD d N F)(g:CFD e M G):CFD (d+e) (4*(N*M)) (F.mul G):=by
 have j:∀ {q r:Rat},Dn d N q->Dn e M r->Dn (d+e) (N*M) (r*q):=fun {q r} hq hr=>by rw[show r*q=q*r by grind];exact hq.mul hr
 refine⟨(h.c.mul g.c).mono oV,fun p=>((j h.c (g.s p)).add ((h.s p).mul g.c)).mono oV,fun q=>?_⟩;have m:=(j h.c (g.t q)).add ((h.t q).mul g.c);have n:Dn (d+e) (N*M+N*M) (Im F G q):=by
  unfold Im;split
  ·exact Dn.zero _ _
  split
  ·have:=((h.s q.1).mul (g.s q.1)).two;exact this.mono oV
  exact ((h.s q.1).mul (g.s q.2)).add ((h.s q.2).mul (g.s q.1))
 exact (m.add n).mono oV
def Aw5 (c:UInt8):Bool:=decide (97<=c.toNat)&&decide (c.toNat<=122)
def Ha (s:List UInt8):Bool:=match s with
 |[]=>false
 |c::l=>Aw5 c&&l.all (fun x=>Aw5 x||(decide (x.toNat=45)||(decide (48<=x.toNat)&&decide (x.toNat<=57))))&&decide (s.length<=12)
structure PV (p:Par):Prop where
 lo:-1<=p.1
 hi:p.1<=1000
 cat:p.2 = []\/Ha p.2=true
structure CFV (F:CF):Prop where
 s:∀ p,F.s p≠0->PV p
 t:∀ q,F.t q≠0->PV q.1/\PV q.2/\¬ 0<Bf q.1 q.2
def Gn (h:a+b≠0):a≠0\/b≠0:=by
 by_cases g:a=0
 ·right;rintro rfl;apply h;rw[g];grind
 exact .inl g
def Cq (h:a*b≠0):a≠0/\b≠0:=⟨fun e=>h (by rw[e];grind),fun e=>h (by rw[e];grind)⟩
def CFV.add (h:CFV F)(g:CFV G):CFV (F.add G) :=
 ⟨fun p hp=>(Gn hp).elim (h.s p) (g.s p),fun q j=>(Gn j).elim (h.t q) (g.t q)⟩
def CFV.scale (h:CFV F)(k:Rat):CFV (F.scale k):=⟨fun p hp=>h.s p (Cq hp).1,fun q g=>h.t q (Cq g).1⟩
def CFV.mul (h:CFV F)(g:CFV G):CFV (F.mul G):=by
 refine⟨fun p hp=>(Gn hp).elim (fun e=>g.s p (Cq e).1) (fun e=>h.s p (Cq e).1),fun q j=>?_⟩;rcases Gn j with e|e
 ·exact (Gn e).elim (fun e=>g.t q (Cq e).1) (fun e=>h.t q (Cq e).1)
 unfold Im at e;split at e
 ·exact absurd rfl e
 rename_i hno;split at e
 ·rename_i heq;have:=Cq (Cq e).2;exact⟨h.s _ this.1,by rw[<-heq];exact h.s _ this.1,hno⟩
 rcases Gn e with e|e
 ·have:=Cq e;exact⟨h.s _ this.1,g.s _ this.2,hno⟩
 have:=Cq e;exact⟨g.s _ this.2,h.s _ this.1,hno⟩
def CFV.count (k:Rat):CFV ⟨k,fun _=>0,fun _=>0⟩:=⟨fun p h=>absurd rfl h,fun q h=>absurd rfl h⟩
def CFD.count (h:Dn d N k):CFD d N ⟨k,fun _=>0,fun _=>0⟩:=⟨h,fun _=>Dn.zero _ _,fun _=>Dn.zero _ _⟩
end
section
variable {F G:CF}{L:List (Par×Par)}{M N d e:Nat}{p q:Par}
structure CFS (F:CF):Prop where
 c:N0 F.c=true
 s:∀ p,N0 (F.s p)=true
 t:∀ q,N0 (F.t q)=true
def CFD.cfs (h:CFD d N F)(j:d<=50)(g:N<10^100):CFS F:=⟨h.c.small j g,fun p=>(h.s p).small j g,fun q=>(h.t q).small j g⟩
def con (F G:CF)(x:Par×Par):Rat:=if x.1=x.2 then F.s x.1*G.s x.2+F.s x.1*G.s x.2 else F.s x.1*G.s x.2
def Eh (F G:CF):List (Par×Par)->Par×Par->Rat
 |[],_=>0
 |x::L,k=>(if A2 x.1 x.2=k then con F G x else 0)+Eh F G L k
def Jh (F G:CF)(x:Par×Par):∀ (L:List (Par×Par)) (k:Par×Par),Eh F G (L++[x]) k=if k=A2 x.1 x.2 then con F G x+Eh F G L k else Eh F G L k
 |[],k=>by
  simp only[A00,Eh];by_cases h:k=A2 x.1 x.2
  ·rw[if_pos h.symm,if_pos h]
  rw[if_neg (fun e=>h e.symm),if_neg h];grind
 |y::L,k=>by
  simp only[A11,Eh];rw[Jh F G x L k];by_cases h:k=A2 x.1 x.2
  ·rw[if_pos h,if_pos h];grind
  rw[if_neg h,if_neg h]
def two (F G:CF)(L:List (Par×Par))(k:Par×Par):Rat :=
 if 0<Bf k.1 k.2 then 0 else if k.1=k.2 then (if k∈L then con F G k else 0) else (if k∈L then con F G k else 0)+(if (k.2,k.1)∈L then con F G (k.2,k.1) else 0)
def Nf (h:0<Bf p q):A2 p q=(q,p):=by unfold A2;rw[if_pos h]
def Gt (h:¬ 0<Bf p q):A2 p q=(p,q):=by unfold A2;rw[if_neg h]
def S5 (p q:Par):¬ 0<Bf (A2 p q).1 (A2 p q).2:=by
 by_cases h:0<Bf p q
 ·rw[Nf h];intro g;have:=(Dl.sym p q).1;have j:=(Dl.sym q p).2 h;simp only at g;omega
 rw[Gt h];exact h
def Lu {p q a b:Par}:A2 p q=(a,b)↔¬ 0<Bf a b/\((p=a/\q=b)\/(p=b/\q=a)):=by
 constructor
 ·intro h;have:=S5 p q;rw[h]at this;refine⟨this,?_⟩;by_cases g:0<Bf p q
  ·rw[Nf g]at h;cases h;exact .inr ⟨rfl,rfl⟩
  rw[Gt g]at h;cases h;exact .inl ⟨rfl,rfl⟩
 rintro⟨h,⟨rfl,rfl⟩|⟨rfl,rfl⟩⟩
 ·exact Gt h
 rw[U8];exact Gt h
def S2 (F G:CF):∀ (L:List (Par×Par)) (k:Par×Par),L.Nodup->Eh F G L k=two F G L k
 |[],k,_=>by
  unfold Eh two;split
  ·rfl
  split
  ·simp
  simp;grind
 |(p,q)::L,(a,b),hn=>by
  rw[A1i]at hn;unfold Eh;rw[S2 F G L (a,b) hn.2];unfold two;simp only;by_cases h0:0<Bf a b
  ·rw[if_pos h0,if_pos h0,if_neg (fun e=>(Lu.1 e).1 h0)];grind
  rw[if_neg h0,if_neg h0];by_cases g:a=b
  ·subst g;rw[if_pos rfl,if_pos rfl];by_cases h:(p,q)=(a,a)
   ·cases h;rw[if_pos (Lu.2 ⟨h0,.inl ⟨rfl,rfl⟩⟩),if_neg hn.1,if_pos mV];grind
   rw[if_neg (fun e=>h (by rcases (Lu.1 e).2 with ⟨rfl,rfl⟩|⟨rfl,rfl⟩<;>rfl))]
   have:((a,a)∈(p,q)::L)↔(a,a)∈L:=by simp[Ay7,Ne.symm h]
   simp only[this];grind
  rw[if_neg g,if_neg g];by_cases h:(p,q)=(a,b)
  ·cases h;rw[if_pos (Lu.2 ⟨h0,.inl ⟨rfl,rfl⟩⟩),if_neg hn.1,if_pos (show (p,q)∈(p,q)::L by simp)];have:((q,p)∈(p,q)::L)↔(q,p)∈L:=by simp[Ay7,Ne.symm g]
   simp only[this];grind
  by_cases j:(p,q)=(b,a)
  ·cases j;rw[if_pos (Lu.2 ⟨h0,.inr ⟨rfl,rfl⟩⟩),if_neg hn.1,if_pos (show (p,q)∈(p,q)::L by simp)];have:((q,p)∈(p,q)::L)↔(q,p)∈L:=by simp[Ay7,g]
   simp only[this];grind
  rw[if_neg (fun e=>by rcases (Lu.1 e).2 with ⟨rfl,rfl⟩|⟨rfl,rfl⟩;exact h rfl;exact j rfl)];have m:((a,b)∈(p,q)::L)↔(a,b)∈L:=by simp[Ay7,Ne.symm h]
  have n:((b,a)∈(p,q)::L)↔(b,a)∈L:=by simp[Ay7,Ne.symm j]
  simp only[m,n];grind
def Alc (F G:CF)(t:L.Nodup)(n:∀ p q,F.s p≠0->G.s q≠0->(p,q)∈L)(k:Par×Par):Eh F G L k=Im F G k:=by
 rw[S2 F G L k t];have key:∀ p q:Par,(if (p,q)∈L then con F G (p,q) else 0)=con F G (p,q):=fun p q=>by
  by_cases h:(p,q)∈L
  ·rw[if_pos h]
  rw[if_neg h];have:F.s p=0\/G.s q=0:=by
   by_cases g:F.s p=0
   ·exact .inl g
   by_cases j:G.s q=0
   ·exact .inr j
   exact absurd (n p q g j) h
  unfold con;simp only;rcases this with g|g<;>rw[g]<;>split<;>grind
 obtain⟨a,b⟩:=k;unfold two Im;simp only[key];split
 ·rfl
 split
 ·rename_i e;subst e;unfold con;simp only[if_true];grind
 rename_i e;unfold con;simp only[if_neg e,if_neg (fun m:b=a=>e m.symm)]
def Apa (h:CFD d N F)(g:CFD e M G)(x:Par×Par):Dn (d+e) (2*(N*M)) (con F G x):=by
 unfold con;split
 ·exact (((h.s x.1).mul (g.s x.2)).add ((h.s x.1).mul (g.s x.2))).mono oV
 exact ((h.s x.1).mul (g.s x.2)).mono oV
def Apo (h:CFD d N F)(j:CFD e M G)(m:L.Nodup)(k:Par×Par):Dn (d+e) (4*(N*M)) (Eh F G L k):=by
 rw[S2 F G L k m];have g:∀ x,Dn (d+e) (2*(N*M)) (if x∈L then con F G x else 0):=fun x=>by
  split
  ·exact Apa h j x
  exact Dn.zero _ _
 unfold two;split
 ·exact Dn.zero _ _
 split
 ·exact (g k).mono oV
 exact ((g k).add (g _)).mono oV
def Ap {κ:Type}[DecidableEq κ](a:κ):List (κ×Rat)->Rat
 |[]=>0
 |(b,q)::l=>if a=b then q else Ap a l
section
variable {κ:Type} [DecidableEq κ]
def Hj {a:κ}{q:Rat}:∀ {l:List (κ×Rat)},(l.map (·.1)).Nodup->(a,q)∈l->Ap a l=q
 |(b,r)::l,hn,h=>by
  simp only[Azu,A1i]at hn;unfold Ap;rcases Ay7.1 h with e|e
  ·cases e;rw[if_pos rfl]
  have:a≠b:=fun g=>hn.1 (by rw[<-g];exact Ayx.2 ⟨_,e,rfl⟩);rw[if_neg this];exact Hj hn.2 e
def F7 {a:κ}:∀ {l:List (κ×Rat)},a∉l.map (·.1)->Ap a l=0
 |[],_=>rfl
 |(b,r)::l,h=>by
  simp only[Azu,Ay7,not_or]at h;unfold Ap;rw[if_neg h.1];exact F7 h.2
end
end
section
variable {k:IntKind}{o:Nat}{t ti ts:TypeId}{xs:Array Value}
def Aq (p:Par):Value:=.agg #[.int .i64 p.1,.string (mkS p.2)]
def prV (q:Par×Par):Value:=.agg #[.int .i64 q.1.1,.string (mkS q.1.2),.int .i64 q.2.1,.string (mkS q.2.2)]
def Jc (f:Field):Bool×TypeId×Nat:=(f.name != "_",f.type,f.offset)
section
variable {P:Program}
def Gj {v:Value}(h:Kw P t=some false)(e:xs[o]?=some v)(w:World):(part t xs o).run P w=.ok v w:=by
 simp[part,Ei h,e]
def Cv {n:Nat}(h:Kw P t=some true)(e:szB P t=some n)(w:World):(part t xs o).run P w=.ok (.agg (xs.extract o (o+n))) w:=by
 simp[part,Ei h,Bj e]
def P0 (h:P.underlying t=some (.int k)):Kw P t=some false:=by unfold Kw;rw[h]
def Ji (h:P.underlying t=some .string):Kw P t=some false:=by unfold Kw;rw[h]
def Aj0 (a b:List UInt8):((mkS a).toList==(mkS b).toList)=decide (a=b):=Lf a b
def Qy {A B:Type}{h:A->B}{e:List A}{x y:B}(j:e.map h = [x,y]):∃ f g,e = [f,g]:=by
 have h0:=congrArg List.length j;simp only[Ayt,A0q,A1t]at h0
 match e,h0 with
 |[f,g],_=>exact⟨f,g,rfl⟩
def Ho (h:(P.fieldsOf t).toList.map Jc = [(true,ti,0),(true,ts,1)])(J:P.underlying t=some (.struct (P.fieldsOf t)))(hp:P.stoodInHeld t=false)(hi:P.underlying ti=some (.int k))(u:P.underlying ts=some .string)(d:Nat)(a b:Par)(w:World) :
 (Op.equalIn (d+2) t (Aq a) (Aq b)).run P w=.ok (decide (a=b)) w:=by
 unfold Aq;rw[run_equalIn_struct w (d+1) t _ _ J hp];generalize (P.fieldsOf t).toList=fs at h;obtain⟨f,g,n⟩:=Qy h;subst n;simp only[Azu,A3n,A0f,Jc,Az0,bne_iff_ne,ne_eq,and_true]at h;obtain⟨⟨K,rfl,H⟩,L,rfl,I⟩:=h;obtain⟨j,C⟩:=a;obtain⟨m,E⟩:=b;simp only[Op.eqFields,ne_eq,K,L,not_false_eq_true,if_true,Sem.run_bind];rw[Gj (P0 hi) (v:=.int .i64 j) (by rw[H];rfl),Result.andThen_ok,Gj (P0 hi) (v:=.int .i64 m) (by rw[H];rfl),Result.andThen_ok,run_equalIn_int w d _ _ _ _ _ hi,Result.andThen_ok];by_cases e:j=m
 ·subst e;simp only[beq_self_eq_true,A4k,A1q,if_false,Sem.run_bind];rw[Gj (Ji u) (v:=.string (mkS C)) (by rw[I];rfl),Result.andThen_ok,Gj (Ji u) (v:=.string (mkS E)) (by rw[I];rfl),Result.andThen_ok,run_equalIn_string w d _ _ _ u,Result.andThen_ok,Aj0];by_cases F:C=E
  ·subst F;simp
  simp[F]
 have:(j==m)=false:=by simpa using e
 simp[this,e]
def Al2 {t tp ti ts:TypeId}{k:IntKind}(N:(P.fieldsOf t).toList.map Jc = [(true,tp,0),(true,tp,2)])(X:P.underlying t=some (.struct (P.fieldsOf t)))(hp:P.stoodInHeld t=false)
 (K:(P.fieldsOf tp).toList.map Jc = [(true,ti,0),(true,ts,1)]) (m:P.underlying tp=some (.struct (P.fieldsOf tp))) (L:P.stoodInHeld tp=false) (j:szB P tp=some 2) (hi:P.underlying ti=some (.int k)) (R:P.underlying ts=some .string) (d:Nat) (a b:Par×Par) (w:World) :
 (Op.equalIn (d+3) t (prV a) (prV b)).run P w=.ok (decide (a=b)) w:=by
 have h:Kw P tp=some true:=by unfold Kw;rw[m]
 unfold prV;rw[run_equalIn_struct w (d+2) t _ _ X hp];generalize (P.fieldsOf t).toList=fs at N;obtain⟨f,g,O⟩:=Qy N;subst O;simp only[Azu,A3n,A0f,Jc,Az0,bne_iff_ne,ne_eq,and_true]at N;obtain⟨⟨Y,V,o1⟩,Z,W,o2⟩:=N;obtain⟨⟨n,u⟩,C,E⟩:=a;obtain⟨⟨F,H⟩,I,J⟩:=b;simp only[Op.eqFields,ne_eq,Y,Z,not_false_eq_true,if_true,Sem.run_bind,V,W,o1,o2];rw[Cv h j,Result.andThen_ok,Cv h j,Result.andThen_ok];have T:=Ho K m L hi R d (n,u) (F,H) w;have U:=Ho K m L hi R d (C,E) (I,J) w;unfold Aq at T U;have x1:(#[Value.int .i64 n,.string (mkS u),.int .i64 C,.string (mkS E)].extract 0 (0+2)) = #[.int .i64 n,.string (mkS u)]:=rfl;have x2:(#[Value.int .i64 F,.string (mkS H),.int .i64 I,.string (mkS J)].extract 0 (0+2)) = #[.int .i64 F,.string (mkS H)]:=rfl;have x3:(#[Value.int .i64 n,.string (mkS u),.int .i64 C,.string (mkS E)].extract 2 (2+2)) = #[.int .i64 C,.string (mkS E)]:=rfl;have x4:(#[Value.int .i64 F,.string (mkS H),.int .i64 I,.string (mkS J)].extract 2 (2+2)) = #[.int .i64 I,.string (mkS J)]:=rfl;simp only[x1,x2,T,Result.andThen_ok];by_cases e:((n,u):Par)=(F,H)
 ·simp only[e,decide_true,A4k,A1q,if_false,Sem.run_bind];rw[Cv h j,Result.andThen_ok,Cv h j,Result.andThen_ok];simp only[x3,x4,U,Result.andThen_ok];by_cases Q:((C,E):Par)=(I,J)
  ·simp[Q]
  simp[Q]
 simp[e]
def Qu (h:(∃ k,P.underlying t=some (.int k))\/P.underlying t=some .string)(e:Bool)(d:Nat)(v:Value)(w:World):(Instr.checkKey e (d+1) t v).run P w=.ok () w:=by
 unfold Instr.checkKey;rcases h with ⟨k,h⟩|h<;>simp[run_underlying h]
def Ie (h:(P.fieldsOf t).toList.map Jc = [(true,ti,0),(true,ts,1)])(C:P.underlying t=some (.struct (P.fieldsOf t)))(hi:P.underlying ti=some (.int k))(m:P.underlying ts=some .string)(e:Bool)(d:Nat)(a:Par)(w:World) :
 (Instr.checkKey e (d+2) t (Aq a)).run P w=.ok () w:=by
 unfold Aq;rw[Instr.checkKey];simp only[Sem.run_bind,run_underlying C,Result.andThen_ok];rw[<-A84];generalize (P.fieldsOf t).toList=fs at h;obtain⟨f,g,j⟩:=Qy h;subst j;simp only[Azu,A3n,A0f,Jc,Az0,bne_iff_ne,ne_eq,and_true]at h;obtain⟨⟨E,n,H⟩,F,u,I⟩:=h;simp only[A71,A8h,ne_eq,E,F,not_false_eq_true,if_true,Sem.run_bind,n,u,H,I];rw[Gj (P0 hi) (v:=.int .i64 a.1) rfl,Result.andThen_ok,Qu (.inl ⟨k,hi⟩)];simp only[Result.andThen_ok,Sem.run_pure,Sem.run_bind];rw[Gj (Ji m) (v:=.string (mkS a.2)) rfl,Result.andThen_ok,Qu (.inr m)];simp
def Ahm {t tp ti ts:TypeId}{k:IntKind}(u:(P.fieldsOf t).toList.map Jc = [(true,tp,0),(true,tp,2)])(K:P.underlying t=some (.struct (P.fieldsOf t)))
 (m:(P.fieldsOf tp).toList.map Jc = [(true,ti,0),(true,ts,1)]) (h:P.underlying tp=some (.struct (P.fieldsOf tp))) (n:szB P tp=some 2) (hi:P.underlying ti=some (.int k)) (E:P.underlying ts=some .string) (e:Bool) (d:Nat) (a:Par×Par) (w:World) :
 (Instr.checkKey e (d+3) t (prV a)).run P w=.ok () w:=by
 have j:Kw P tp=some true:=by unfold Kw;rw[h]
 unfold prV;rw[Instr.checkKey];simp only[Sem.run_bind,run_underlying K,Result.andThen_ok];rw[<-A84];generalize (P.fieldsOf t).toList=fs at u;obtain⟨f,g,C⟩:=Qy u;subst C;simp only[Azu,A3n,A0f,Jc,Az0,bne_iff_ne,ne_eq,and_true]at u;obtain⟨⟨L,I,O⟩,N,J,Q⟩:=u;have F:=Ie m h hi E e d a.1 w;have H:=Ie m h hi E e d a.2 w;unfold Aq at F H;simp only[A71,A8h,ne_eq,L,N,not_false_eq_true,if_true,Sem.run_bind,I,J,O,Q];rw[Cv j n,Result.andThen_ok];have R:(#[Value.int .i64 a.1.1,.string (mkS a.1.2),.int .i64 a.2.1,.string (mkS a.2.2)].extract 0 (0+2)) = #[.int .i64 a.1.1,.string (mkS a.1.2)]:=rfl;have T:(#[Value.int .i64 a.1.1,.string (mkS a.1.2),.int .i64 a.2.1,.string (mkS a.2.2)].extract 2 (2+2)) = #[.int .i64 a.2.1,.string (mkS a.2.2)]:=rfl;rw[R,F];simp only[Result.andThen_ok,Sem.run_pure,Sem.run_bind];rw[Cv j n,Result.andThen_ok,T,H];simp
def Am6 (a b:Par)(h:Aq a=Aq b):a=b:=by
 unfold Aq at h;simp only[Value.agg.injEq,A19,A0f,Value.int.injEq,Value.string.injEq,true_and,and_true]at h;exact A6g h.1 (Aa1.1 h.2)
def Ah4 (a b:Par×Par)(h:prV a=prV b):a=b:=by
 unfold prV at h;simp only[Value.agg.injEq,A19,A0f,Value.int.injEq,Value.string.injEq,true_and,and_true]at h;exact A6g (A6g h.1 (Aa1.1 h.2.1)) (A6g h.2.2.1 (Aa1.1 h.2.2.2))
def Aco (d:Nat)(k:IntKind)(z:Int):Instr.sameBits d (.int k z) (.int k z)=true:=by unfold Instr.sameBits;simp
def Ae8 (d:Nat)(z:ByteArray):Instr.sameBits d (.string z) (.string z)=true:=by
 obtain⟨⟨l⟩⟩:=z;have:((⟨⟨l⟩⟩:ByteArray) == ⟨⟨l⟩⟩)=true:=by rw[beq_toListBytes];simp
 unfold Instr.sameBits;exact this
def An4 (a:Par):Instr.sameBits 10000 (Aq a) (Aq a)=true:=by
 show Instr.sameBits (9999+1) _ _=true;unfold Aq Instr.sameBits;simp[Aco,Ae8]
def Ah8 (a:Par×Par):Instr.sameBits 10000 (prV a) (prV a)=true:=by
 show Instr.sameBits (9999+1) _ _=true;unfold prV Instr.sameBits;simp[Aco,Ae8]
end
theorem Bx:Wa prog 63 Aq :=
 ⟨fun a b w=>Ho (P:=prog) (t:=63) (ti:=3) (ts:=9) (k:=.i64) kV kV kV kV kV 9998 a b w,
  ⟨_,(by kernel_rfl:prog.underlying 63=some (.struct (prog.fieldsOf 63))),.inl fun _ _=>rfl⟩,
  fun e a w=>Ie (P:=prog) (t:=63) (ti:=3) (ts:=9) (k:=.i64) kV kV kV kV e 9998 a w,An4,Am6⟩
theorem Ao4:Wa prog 186 prV :=
 ⟨fun a b w=>Al2 (P:=prog) (t:=186) (tp:=63) (ti:=3) (ts:=9) (k:=.i64) kV kV kV kV kV kV kV kV kV 9997 a b w,
  ⟨_,(by kernel_rfl:prog.underlying 186=some (.struct (prog.fieldsOf 186))),.inl fun _ _=>rfl⟩,
  fun e a w=>Ahm (P:=prog) (t:=186) (tp:=63) (ti:=3) (ts:=9) (k:=.i64) kV kV kV kV kV kV kV e 9997 a w,Ah8,Ah4⟩
end
section
def Asr {x y:List UInt8}(h:Op.bytesLess x y=true):Op.bytesLess y x=false:=by
 cases h':Op.bytesLess y x with
 |false=>rfl
 |true=>have:=Qj h h';rw[Sn]at this;cases this
def Ax0 (x y:List UInt8):(!(Op.bytesLess x y||decide (x=y)))=Op.bytesLess y x:=by
 cases h1:Op.bytesLess x y with
 |true=>rw[Asr h1];rfl
 |false =>
  by_cases e:x=y
  ·subst e;rw[h1];simp
  cases h2:Op.bytesLess y x with
  |true=>simp[e]
  |false=>exact absurd (Abj h1 h2) e
section rules
variable [Cc] {P:Program} [A5 P] {fn:Func} {Post:By} {st:List KI×S} {u m:PH}
def G.ltS (a b:List UInt8)(r:Bool)(h:Aj P (adv P st)=.bin .lss (.string (mkS a)) (.string (mkS b)))(e:Op.bytesLess a b=r)(k:G P fn Post (nx (adv P st) (.bool r)) u m):G P fn Post st u m :=
 G.bin (.bool r) h (fun t X Y w=>Hl t X Y w) (fun t w=>by simp only[binOp,Op.stringOp,Mp];rw[e];rfl) k
def G.gtS (a b:List UInt8)(r:Bool)(h:Aj P (adv P st)=.bin .gtr (.string (mkS a)) (.string (mkS b)))(g:Op.bytesLess b a=r)(k:G P fn Post (nx (adv P st) (.bool r)) u m):G P fn Post st u m :=
 G.bin (.bool r) h (fun t X Y w=>Hl t X Y w) (fun t w=>by
  rw[<-g,<-Ax0];simp only[binOp,Op.stringOp,Mp];rw[show (a==b)=decide (a=b) from by by_cases e:a=b<;>simp[e]]
  rfl) k
end rules
section
variable [Cc] {u:PH}
def Ajh (x:Int):Fn0 prog 295 [.int .i64 x] u fun v _=>v=.bool false:=Fn0.o func295<|G.nF x x<|G.r (.bool false) ⟨rfl,rfl⟩
def Aii (x:List UInt8):Fn0 prog 296 [.string (mkS x)] u fun v _=>v=.bool false:=Fn0.o func296<|G.y x x rfl<|G.r (.bool false) ⟨rfl,rfl⟩
def Axc (x y:Int):Fn0 prog 254 [.int .i64 x,.int .i64 y] u fun v _=>v=.int .i64 (Qg x y):=by
 refine Fn0.o func254<|G.c call295 (Ajh x) ?_;rintro t j g rfl;refine G.c call295 (Ajh y) ?_;rintro C n l2 rfl;unfold Qg;by_cases h:x<y
 ·exact G.lT' x y h<|G.r (.int .i64 (-1)) ⟨rfl,by rw[if_pos h]⟩
 refine G.lF' x y h ?_;by_cases e:x>y
 ·exact G.gT' x y e<|G.r (.int .i64 1) ⟨rfl,by rw[if_neg h,if_pos e]⟩
 exact G.gF' x y e<|G.r (.int .i64 0) ⟨rfl,by rw[if_neg h,if_neg e]⟩
def Axz (x y:List UInt8):Fn0 prog 255 [.string (mkS x),.string (mkS y)] u fun v _=>v=.int .i64 (Ua x y):=by
 refine Fn0.o func255<|G.c call296 (Aii x) ?_;rintro t j g rfl;refine G.c call296 (Aii y) ?_;rintro C n l2 rfl;unfold Ua;cases h:Op.bytesLess x y with
 |true =>
  exact G.ltS x y true kV h<|G.r (.int .i64 (-1)) ⟨rfl,by rw[if_pos rfl]⟩
 |false =>
  refine G.ltS x y false kV h ?_;cases h':Op.bytesLess y x with
  |true =>
   exact G.gtS x y true kV h'<|G.r (.int .i64 1) ⟨rfl,by rw[if_neg mV,if_neg (fun e=>by subst e;rw[Sn]at h';cases h')]⟩
  |false =>
   exact G.gtS x y false kV h'<|G.r (.int .i64 0) ⟨rfl,by rw[if_neg mV,if_pos (Abj h h')]⟩
def Awu (x y:Int){b:Nat}(h:Fz u b 0 1 [.int .i64 x,.int .i64 y]):Fn0 prog 253 [.slice (some ⟨b,0,none⟩) 2 2] u fun v _=>v=.int .i64 (if x≠0 then x else y):=by
 refine Fn0.o func253<|G.l (ι:=Nat) (fun i=>[(3,iV 0),(6,sV (some ⟨b,0,none⟩) 2 2),(7,iV (2:Nat)),(8,iV i)]) (fun _=>[])
  (fun i C t=>i<=2/\t=PH.mt/\(1<=i->x=0)/\(2<=i->y=0)) (fun i=>2-i) 0 ⟨oV,rfl,oV,oV⟩ ?_
 rintro J i F C t g ⟨hi,rfl,n,H⟩;by_cases j:i=2
 ·subst j;exact G.lF (2:Nat) (2:Nat)<|G.r (.int .i64 0) ⟨rfl,by rw[if_neg (by simp[n oV]),H oV]⟩
 refine G.lT i (2:Nat)<|G.a b 0 2 2 i 1 oV ?_;obtain⟨z,e,E,j⟩:∃ z:Int,ElP C b (0+i*1) (.int .i64 z)/\(z≠0->(if x≠0 then x else y)=z)/\(z=0->(1<=i+1->x=0)/\(2<=i+1->y=0)):=by
  rcases (by omega:i=0\/i=1) with rfl|rfl
  ·exact⟨x,(h 0 _ rfl).mono g,fun e=>if_pos e,fun e=>⟨fun _=>e,oV⟩⟩
  exact⟨y,(h 1 _ rfl).mono g,fun e=>if_neg (by simp[n oV]),fun e=>⟨fun _=>n oV,fun _=>e⟩⟩
 refine G.lU none b (0+i*1) (.int .i64 z) e ?_;by_cases h0:z=0
 ·exact G.nF z 0<|G.i i<|G.b (F (i+1) _ _ _ cV g ⟨oV,rfl,(j h0).1,(j h0).2⟩ oV)
 exact G.nT' z 0 h0<|G.r (.int .i64 z) ⟨rfl,by rw[E h0]⟩
def U5 (p q:Par):Fn0 prog 219 [Aq p,Aq q] u fun v _=>v=.int .i64 (Bf p q):=by
 refine Fn0.o func219<|G.c call254 (Axc p.1 q.1) ?_;rintro H t h rfl;refine G.c call255 (Axz p.2 q.2) ?_;rintro I C l2 rfl;refine G.B 3 1 8 (.int .i64 0) [.int .i64 (Qg p.1 q.1),.int .i64 (Ua p.2 q.2)] (Ll [_,_]) ?_;intro g E j e;refine G.c call253 (Awu _ _ e) ?_;rintro J F n rfl;exact G.r _ ⟨rfl,rfl⟩
end
end
section
variable {N s:Nat}{nz:Bool}{o:Obj}{q:Rat}{u u':PH}
abbrev SB (q:Rat):Prop:=N0 q=true
def SB.sz (h:SB q):Sz q 12:=(Tg h).2
def SB.tx (h:SB q):Tx q:=(Tg h).1
def SB.zero:SB 0:=fV
abbrev fz:Value:=.agg #[.bool false,.slice none 0 0,.bool false,.slice none 0 0]
def Ayq :sgn q.num=0↔q=0:=by
 constructor
 ·intro h;have:q.num=0:=by
   rcases A2s q.num 0 with e|e|e
   ·rw[Ej e]at h;cases h
   ·exact e
   rw[C7 e]at h;cases h
  exact A4s.1 this
 rintro rfl;rfl
def Gp.at {κ:Type}[DecidableEq κ]{enc:κ->Value}{R:PH->Value->Rat->Prop}{f:κ->Rat}(h:Gp enc R nz u o f N s):∃ l:List (κ×Value),Fo enc o l/\(∀ p∈l,R u p.2 (f p.1)/\(nz=true->f p.1≠0)/\Sz (f p.1) s)/\(∀ k,k∉l.map (·.1)->f k=0)/\l.length<=N:=h
def Gp.mf {κ:Type}[DecidableEq κ]{enc:κ->Value}{f:κ->Rat}(h:Gp enc Ax nz u o f N s)(n:PH.le u u'):Gp enc Ax nz u' o f N s:=by
 obtain⟨l,g,e,j,m⟩:=h;exact⟨l,g,fun p hp=>⟨(e p hp).1.mono n,(e p hp).2⟩,j,m⟩
def Ati (m' u:PH)(v:Value)(F:CF)(N:Nat):Prop :=
 ∃ b a n c b' a' n' c' g1 g2 o1 o2,v=.agg #[.bool b,.slice a n c,.bool b',.slice a' n' c',.map (some g1),.map (some g2)]/\Ax u (.agg #[.bool b,.slice a n c,.bool b',.slice a' n' c']) F.c/\g1≠g2/\m'=(PH.mt.upd g1 o1).upd g2 o2/\Gp Aq Ax true u o1 F.s N 12/\Gp prV Ax true u o2 F.t N 12
def Rc (u:PH)(v:Value)(F:CF)(N:Nat):Prop :=
 ∃ b a n c b' a' n' c' g1 g2 o1 o2,v=.agg #[.bool b,.slice a n c,.bool b',.slice a' n' c',.map (some g1),.map (some g2)]/\Ax u (.agg #[.bool b,.slice a n c,.bool b',.slice a' n' c']) F.c/\u g1=some o1/\u g2=some o2/\Gp Aq Ax true u o1 F.s N 12/\Gp prV Ax true u o2 F.t N 12
def Rc.mono {u u':PH}{v:Value}{F:CF}{N:Nat}(h:Rc u v F N)(hl:PH.le u u'):Rc u' v F N:=by
 obtain⟨b,a,n,c,b',a',n',c',g1,g2,o1,o2,e,h1,h2,h3,h4,h5⟩:=h;exact⟨b,a,n,c,b',a',n',c',g1,g2,o1,o2,e,h1.mono hl,hl _ _ h2,hl _ _ h3,h4.mf hl,h5.mf hl⟩
def Ati.give {m u u':PH}{v:Value}{F:CF}(h:Ati m u v F N)(g:PH.le u u')(j:PH.le m u'):Rc u' v F N:=by
 obtain⟨b,a,n,c,b',t,K,C,g1,g2,L,O,e,E,H,rfl,I,J⟩:=h;exact⟨b,a,n,c,b',t,K,C,g1,g2,L,O,e,E.mono g,j _ _ (by rw[Ad _ _ H,Ab]),j _ _ (Ab _ _ _),I.mf g,J.mf g⟩
def Axp (p q:Par):Fn0 prog 172 [Aq p,Aq q] u fun v _=>v=prV (A2 p q):=by
 refine Fn0.o func172<|G.c call219 (U5 p q) ?_;rintro j g e rfl;by_cases h:0<Bf p q
 ·refine G.gT' (Bf p q) 0 h<|G.r (prV (q,p)) ⟨rfl,?_⟩;rw[Nf h]
 refine G.gF' (Bf p q) 0 h<|G.r (prV (p,q)) ⟨rfl,?_⟩;rw[Gt h]
def Auk {n:Int}(F:-9223372036854775808<=n)(H:n<=9223372036854775807):Ag prog 112 [.int .i64 n] u PH.mt fun v u' L=>Ati L u' v ⟨(n:Rat),fun _=>0,fun _=>0⟩ 0:=by
 refine Ag.o func112<|G.c call171 (Uz F H) ?_;intro Q P O t;obtain⟨b,a,E,c,b',j,C,m,rfl⟩:=t.opn;refine G.mapMk kV ?_;intro g1 I J;refine G.mapMk kV ?_;intro g2 g K;have h:g1≠g2:=fun e=>by subst e;rw[Ab]at g;cases g
 exact G.r (.agg #[.bool b,.slice a E c,.bool b',.slice j C m,.map (some g1),.map (some g2)]) ⟨b,a,E,c,b',j,C,m,g1,g2,_,_,rfl,t,h,rfl,Gp.empty 12,Gp.empty 12⟩
end
section
section
variable {κ:Type} [DecidableEq κ]
def Ec (f g:κ->Rat)(q:Rat)(L:List κ):κ->Rat:=fun k=>if k∈L then g k*q+f k else f k
def Ja (f g:κ->Rat)(q:Rat){L:List κ}{k:κ}(h:k∉L):I1 (Ec f g q L) k (g k*q+Ec f g q L k)=Ec f g q (L++[k]):=by
 funext j
 unfold I1 Ec;by_cases e:j=k
 ·subst e;rw[if_pos rfl,if_neg h,if_pos mV]
 rw[if_neg e];by_cases m:j∈L
 ·rw[if_pos m,if_pos (by simp[m])]
 rw[if_neg m,if_neg (by simp[m,e])]
def Lv (f g:κ->Rat)(q:Rat){L:List κ}(h:∀ k,k∉L->g k=0):Ec f g q L=fun k=>f k+g k*q:=by
 funext k
 unfold Ec;by_cases e:k∈L
 ·rw[if_pos e];grind
 rw[if_neg e,h k e];grind
def Ou {f g:κ->Rat}{q:Rat}{L:List κ}(e:∀ k,SB (f k))(h:∀ k,SB (f k+g k*q))(k:κ):SB (Ec f g q L k):=by
 unfold Ec;split
 ·rw[A3e];exact h k
 exact e k
end
end
section
def Aiv (t:TypeId):Op->Bool
 |.binOp _ t' ..=>Nat.beq t' t
 |_=>false
section rules
variable [Cc] {P:Program} [A5 P] {fn:Func} {Post:By} {st:List KI×S} {u m:PH}
def Tj {g:BinOp}{t:TypeId}{xs ys:Array Value}(X Y:Operand)(e:P.eqGuardType P.depth t=false)(w:World):(eqGuard g t X Y (.agg xs) (.agg ys)).run P w=.ok () w:=by
 unfold eqGuard;split<;>simp[e]
def G.eqAgg (t:TypeId)(xs ys:Array Value)(r:Bool)(h:Aj P (adv P st)=.binT .eql (P.underlying t) (.agg xs) (.agg ys))(L:Wp (Aiv t) (adv P st)=true)(K:P.eqGuardType P.depth t=false)(J:∀ w,(Op.equal t (.agg xs) (.agg ys)).run P w=.ok r w)
 (k:G P fn Post (nx (adv P st) (.bool r)) u m):G P fn Post st u m:=by
 refine G.askQ (Aiv t) h L mV (fun H o g I w _=>?_) k;obtain⟨O,X,Y,R,e,E,F,Q⟩:=Ot g;obtain⟨C,N,n,pos,after,j⟩:=o;simp only at e;subst e;obtain rfl:O=t:=Azp I;simp[execOp,E,F,Tj X Y K,binOp,J]
def G.neAgg (t:TypeId)(xs ys:Array Value)(r:Bool)(h:Aj P (adv P st)=.binT .neq (P.underlying t) (.agg xs) (.agg ys))(L:Wp (Aiv t) (adv P st)=true)(K:P.eqGuardType P.depth t=false)(J:∀ w,(Op.equal t (.agg xs) (.agg ys)).run P w=.ok r w)
 (k:G P fn Post (nx (adv P st) (.bool (!r))) u m):G P fn Post st u m:=by
 refine G.askQ (Aiv t) h L mV (fun H o g I w _=>?_) k;obtain⟨O,X,Y,R,e,E,F,Q⟩:=Ot g;obtain⟨C,N,n,pos,after,j⟩:=o;simp only at e;subst e;obtain rfl:O=t:=Azp I;simp[execOp,E,F,Tj X Y K,binOp,J]
end rules
end
structure Aue (F H:CF):Prop where
 a:CFS F
 b:CFS H
 c:CFS (H.scale F.c)
 d:CFS (F.scale H.c)
 e:CFS ((H.scale F.c).add (F.scale H.c))
 f:SB (F.c*H.c)
 pr:∀ p q,SB (F.s p*H.s q)
 con:∀ x,SB (con F H x)
 acc:∀ Ps:List (Par×Par),Ps.Nodup->∀ k,SB (((H.scale F.c).add (F.scale H.c)).t k+Eh F H Ps k)
def Ax2 {d e N M:Nat}{F H:CF}(h:CFD d N F)(g:CFD e M H)(j:d+e<=50)(L:8*(N*M)<10^100)(u:0<N)(C:0<M):Aue F H:=by
 have J:N<=N*M:=Nat.le_mul_of_pos_right _ C;have K:M<=N*M:=Nat.le_mul_of_pos_left _ u;have m:CFD (d+e) (N*M) (H.scale F.c):=by have:=g.scale h.c;rw[A6r,Az5]at this;exact this
 have n:CFD (d+e) (N*M) (F.scale H.c):=h.scale g.c;exact⟨h.cfs oV oV,g.cfs oV oV,m.cfs j oV,n.cfs j oV,(m.add n).cfs j oV,(h.c.mul g.c).small j oV,
  fun p q=>((h.s p).mul (g.s q)).small j oV,fun x=>(Apa h g x).small j oV,fun I E k=>(((m.add n).t k).add (Apo h g E k)).small j oV⟩
section
def As (p:Par×Rat):Value:=.agg #[.int .i64 p.1.1,.string (mkS p.1.2),.string (mkS (Ae p.2))]
def D7 (x:(Par×Par)×Rat):Value:=.agg #[.int .i64 x.1.1.1,.string (mkS x.1.1.2),.int .i64 x.1.2.1,.string (mkS x.1.2.2),.string (mkS (Ae x.2))]
def Nu (u:PH)(v:Value)(F:CF)(K:Nat):Prop :=
 ∃ (T:List (Par×Rat)) (Q:List ((Par×Par)×Rat)) (a1:Option Addr) (c1:Nat) (a2:Option Addr) (c2:Nat),v=.agg #[.string (mkS (Ae F.c)),.slice a1 T.length c1,.slice a2 Q.length c2] /\
  Ac u (.slice a1 T.length c1) 3 (T.map As)/\Ac u (.slice a2 Q.length c2) 5 (Q.map D7)/\Can Bf F.s T/\Can Ni F.t Q/\T.length<=K/\Q.length<=K
def Nu.mono {u u':PH}{v:Value}{F:CF}{K:Nat}(h:Nu u v F K)(hl:PH.le u u'):Nu u' v F K:=by
 obtain⟨T,Q,a1,c1,a2,c2,e,h1,h2,h3⟩:=h;exact⟨T,Q,a1,c1,a2,c2,e,h1.mono hl,h2.mono hl,h3⟩
section
variable {κ:Type} [DecidableEq κ]
def Adv {l:List (κ×Rat)}{a:κ}{q:Rat}(h:a∉l.map (·.1)):(fun k=>Ap k (l++[(a,q)]))=I1 (fun k=>Ap k l) a q:=by
 funext k
 unfold I1;induction l with
 |nil=>simp[Ap]
 |cons p l ih =>
  obtain⟨b,r⟩:=p;simp only[Azu,Ay7,not_or]at h;simp only[A11,Ap];by_cases g:k=b
  ·rw[if_pos g,if_pos g,if_neg (fun e=>h.1 (by rw[<-e,g]))]
  rw[if_neg g,if_neg g];exact ih h.2
def Can.fn {c:κ->κ->Int}(g:Ord c){f:κ->Rat}{l:List (κ×Rat)}(h:Can c f l):∀ k,Ap k l=f k:=fun k=>by
 by_cases e:k∈l.map (·.1)
 ·obtain⟨p,hp,rfl⟩:=Ayx.1 e;rw[Hj (h.srt.nodup g) (q:=p.2) hp];exact (h.val p hp).1
 rw[F7 e,h.out k e]
def Adu {l:List (κ×Rat)}{i:Nat}{p:κ×Rat}(t:(l.map (·.1)).Nodup)(hi:l[i]?=some p):p.1∉(l.take i).map (·.1):=by
 intro n;obtain⟨q,u,e⟩:=Ayx.1 n;obtain⟨j,m,rfl⟩:=A01.1 u;have h:j<i:=by simp at m;omega
 obtain⟨g,rfl⟩:=Ayu.1 hi;rw[A2t]at e;have:=A02.1 t j i gV (by simpa using g) h;simp only[A1f]at this;exact this e
end
def Gp.snoc {κ:Type}[DecidableEq κ]{enc:κ->Value}{u:PH}{o o':Obj}{T:List (κ×Rat)}{p:κ×Rat}{x:Value}{l:List (κ×Value)}{N:Nat}(m:Fo enc o l)(g:∀ y∈l,Ax u y.2 (Ap y.1 T)/\(true=true->Ap y.1 T≠0)/\Sz (Ap y.1 T) 12)(h:∀ k,k∉l.map (·.1)->Ap k T=0)(j:l.length<=N)
 (e:Fo enc o' (Kb p.1 x l)) (t:Ax u x p.2) (hp:p.1∉T.map (·.1)) (h0:p.2≠0) (n:SB p.2):Gp enc Ax true u o' (fun k=>Ap k (T++[p])) (N+1) 12:=by
 obtain⟨a,q⟩:=p;rw[Adv hp];exact Gp.put (f:=fun k=>Ap k T) m g h j e t (fun _=>h0) n.sz (Ay2 _)
abbrev zvL:List SV:=[.v (.bool false),.v (.slice none 0 0),.v (.bool false),.v (.slice none 0 0),.v (.map none),.v (.map none)]
def of0 {u:PH}{F:CF}{K:Nat}{v:Value}(hv:Nu u v F K)(sF:CFS F)(hK:K<=1000000) :
 Ag prog 52 [v] u PH.mt fun v' u' m'=>Ati m' u' v' F K:=by
 obtain⟨T,Q,a1,c1,a2,c2,rfl,hT,hQ,cT,cQ,kT,kQ⟩:=hv;have ab:=cT.srt.nodup Dl;have aa:=cQ.srt.nodup Avj;refine Ag.o func52<|G.callO _ _ kV call112 (Auk (n:=0) oV oV) ?_;rintro v1 u1 m1 l1 r1 _;rw[Bw];obtain⟨b,a,n,c,b',a',n',c',g1,g2,o1,o2,rfl,h1,L,rfl,h4,h5⟩:=r1;refine G.c call54 (Dr (SB.tx sF.c)) ?_;intro v2 u2 l2 r2;obtain⟨b2,x2,n2,d2,H,O,N,I,rfl⟩:=r2.opn;refine G.l (ι:=Nat) (fun i=>[(1,.p 0 0),(2,.p 1 0),(3,.p 1001 0),(14,sV a1 T.length c1),(15,iV T.length),(16,iV i)])
  (fun _=>[(0,⟨36,[tV (Ae F.c),sV a1 T.length c1,sV a2 Q.length c2]⟩),(1,⟨123,zvL⟩),(1001,⟨123,[bV b2,sV x2 n2 d2,bV H,sV O N I,.v (.map (some g1)),.v (.map (some g2))]⟩)])
  (fun i u' m'=>i<=T.length/\m' g2=some o2/\∃ h,m' g1=some h/\Gp Aq Ax true u' h (fun k=>Ap k (T.take i)) i 12)
  (fun i=>T.length-i) 0
  ⟨oV,Ab _ _ _,o1,by rw[Ad _ _ L,Ab],(h4.mf l2).congr fun k=>by simp[Ap]⟩ ?_
 rintro J i hJ u3 m3 l3 ⟨hi,a7,h,a6,hR⟩;by_cases C:i<T.length
 ·refine G.lT i T.length ?_;have Y:T[i]?=some T[i]:=Ayr C;obtain⟨ba,oa,rfl,ea⟩:=Ac.at' (hT.mono ((l1.trans l2).trans l3)) (j:=i) (e:=As T[i]) (by simp[Y]);obtain⟨E,h0⟩:=cT.val _ (Ay8 C);have hs:SB T[i].2:=by rw[E];exact sF.s _
  refine G.a ba oa T.length c1 i 3 oV<|G.lU (some 3) ba (oa+i*3) (.agg #[.int .i64 T[i].1.1,.string (mkS T[i].1.2),.string (mkS (Ae T[i].2))]) ea<|G.c call54 (Dr hs.tx) ?_;intro v4 u4 l4 r4;obtain⟨b4,x4,n4,d4,U,a4,a3,V,rfl⟩:=r4.opn;obtain⟨l,ho,q2,q3,q4⟩:=(hR.mf l4).at;refine G.mapPut (et:=118) Bx g1 h l T[i].1 (.agg #[.bool b4,.slice x4 n4 d4,.bool U,.slice a4 a3 V]) kV kV a6 ho ?_;intro o' a0;refine G.i i<|G.b (hJ (i+1) _ _ _ cV (l3.trans l4) ⟨oV,by rw[Ad _ _ (Ne.symm L)];exact a7,o',Ab _ _ _,?_⟩ oV);rw[Aze,Y];exact Gp.snoc ho q2 q3 q4 a0 r4 (Adu ab Y) h0 hs
 obtain rfl:i=T.length:=oV;refine G.lF T.length T.length ?_;have a9:Gp Aq Ax true u3 h F.s T.length 12:=by
  rw[Azj]at hR;exact hR.congr (cT.fn Dl)
 refine G.l (ι:=Nat) (fun i=>[(2,.p 1 0),(3,.p 1001 0),(29,sV a2 Q.length c2),(30,iV Q.length),(31,iV i)])
  (fun _=>[(1,⟨123,zvL⟩),(1001,⟨123,[bV b2,sV x2 n2 d2,bV H,sV O N I,.v (.map (some g1)),.v (.map (some g2))]⟩)])
  (fun i u' m'=>i<=Q.length/\m' g1=some h/\∃ m,m' g2=some m/\Gp prV Ax true u' m (fun k=>Ap k (Q.take i)) i 12)
  (fun i=>Q.length-i) 0
  ⟨oV,a6,o2,a7,(h5.mf (l2.trans l3)).congr fun k=>by simp[Ap]⟩ ?_
 rintro J2 i a8 u5 m5 l5 ⟨ac,P,m,R,X⟩;by_cases C:i<Q.length
 ·refine G.lT i Q.length ?_;have W:Q[i]?=some Q[i]:=Ayr C;obtain⟨ba,oa,rfl,ea⟩:=Ac.at' (hQ.mono (((l1.trans l2).trans l3).trans l5)) (j:=i) (e:=D7 Q[i]) (by simp[W]);obtain⟨E,h0⟩:=cQ.val _ (Ay8 C);have hs:SB Q[i].2:=by rw[E];exact sF.t _
  refine G.a ba oa Q.length c2 i 5 oV<|G.lU (some 5) ba (oa+i*5) (.agg #[.int .i64 Q[i].1.1.1,.string (mkS Q[i].1.1.2),.int .i64 Q[i].1.2.1,.string (mkS Q[i].1.2.2),.string (mkS (Ae Q[i].2))]) ea<|G.c call54 (Dr hs.tx) ?_;intro v4 u4 l4 r4;obtain⟨b4,x4,n4,d4,U,a4,a3,V,rfl⟩:=r4.opn;obtain⟨l,ho,q2,q3,q4⟩:=(X.mf l4).at;refine G.mapPut (et:=118) Ao4 g2 m l Q[i].1 (.agg #[.bool b4,.slice x4 n4 d4,.bool U,.slice a4 a3 V]) kV kV R ho ?_;intro o' a0;refine G.i i<|G.b (a8 (i+1) _ _ _ cV (l5.trans l4) ⟨oV,by rw[Ad _ _ L];exact P,o',Ab _ _ _,?_⟩ oV);rw[Aze,W];exact Gp.snoc ho q2 q3 q4 a0 r4 (Adu aa W) h0 hs
 obtain rfl:i=Q.length:=oV;refine G.lF Q.length Q.length ?_;have a5:Gp prV Ax true u5 m F.t Q.length 12:=by
  rw[Azj]at X;exact X.congr (cQ.fn Avj)
 refine G.drop ((PH.mt.upd g1 h).upd g2 m) kV (fun g o Z=>?_) ?_
 ·by_cases e:g=g2
  ·subst e;rw[Ab]at Z;cases Z;exact R
  rw[Ad _ _ e]at Z;by_cases e:g=g1
  ·subst e;rw[Ab]at Z;cases Z;exact P
  rw[Ad _ _ e]at Z;cases Z
 exact G.r (.agg #[.bool b2,.slice x2 n2 d2,.bool H,.slice O N I,.map (some g1),.map (some g2)]) ⟨b2,x2,n2,d2,H,O,N,I,g1,g2,h,m,rfl,r2.mono (l3.trans l5),L,rfl,(a9.mf l5).up kT (Ay2 _),a5.up kQ (Ay2 _)⟩
end
section
open Go.RowKit Go.MapKept Go.Shelf
section
variable {F:Fence} {n:Nat} {P:Program} [A5 P] {w:World} {ops:Array Oper} {rest:List Oper} {o:Oper} {a:Act} {Q:Exit->Act->World->Prop}
end
end
section
open Go.RowKit Go.MapKept Go.Shelf
end
section
open Go.RowKit Go.MapKept Go.Shelf
end
section
open Go.RowKit Go.MapKept Go.Shelf
abbrev B8 (p:Par):List Value:=[.int .i64 p.1,.string (mkS p.2)]
end
section
open Go.RowKit Go.MapKept Go.Shelf
end
end Go.Proofs.YtijchbjkdllolaaGreatDoor
section
namespace Go.Proofs
open Go.Shelf
def Tryz.sortPar_ren:Go.Shelf.Ren:=⟨fun|6=>247|15=>293|14=>292|28=>318|29=>303|20=>310|21=>311|22=>312|23=>313|24=>314|25=>315|26=>316|27=>317|46=>323|47=>324|48=>325|49=>326|50=>327|57=>329|n=>n,fun|22=>39|24=>63|25=>280|3=>3|39=>281|0=>0|53=>304|55=>254|4=>4|46=>351|45=>350|50=>261|5=>5|9=>9|66=>361|70=>364|76=>369|77=>370|n=>n,fun|n=>n⟩
theorem Tryz.sortPar:Go.Proofs.SlLaysF0.n6 Tryz.prog Tryz.sortPar_ren:={
 mixed:=by kernel_rfl
 f6:=⟨Tryz.f247.name,by decide,Tryz.func247.trans (congrArg some (by kernel_rfl))⟩
 f14:=⟨Tryz.f292.name,by decide,Tryz.func292.trans (congrArg some (by kernel_rfl))⟩
 f15:=Tryz.func293.trans (congrArg some (by kernel_rfl))
 f20:=⟨Tryz.f310.name,by decide,Tryz.func310.trans (congrArg some (by kernel_rfl))⟩
 f21:=⟨Tryz.f311.name,by decide,Tryz.func311.trans (congrArg some (by kernel_rfl))⟩
 f22:=⟨Tryz.f312.name,by decide,Tryz.func312.trans (congrArg some (by kernel_rfl))⟩
 f23:=⟨Tryz.f313.name,by decide,Tryz.func313.trans (congrArg some (by kernel_rfl))⟩
 f24:=⟨Tryz.f314.name,by decide,Tryz.func314.trans (congrArg some (by kernel_rfl))⟩
 f25:=⟨Tryz.f315.name,by decide,Tryz.func315.trans (congrArg some (by kernel_rfl))⟩
 f26:=⟨Tryz.f316.name,by decide,Tryz.func316.trans (congrArg some (by kernel_rfl))⟩
 f27:=⟨Tryz.f317.name,by decide,Tryz.func317.trans (congrArg some (by kernel_rfl))⟩
 f28:=Tryz.func318.trans (congrArg some (by kernel_rfl))
 f29:=Tryz.func303.trans (congrArg some (by kernel_rfl))
 f46:=⟨Tryz.f323.name,by decide,Tryz.func323.trans (congrArg some (by kernel_rfl))⟩
 f47:=Tryz.func324.trans (congrArg some (by kernel_rfl))
 f48:=Tryz.func325.trans (congrArg some (by kernel_rfl))
 f49:=⟨Tryz.f326.name,by decide,Tryz.func326.trans (congrArg some (by kernel_rfl))⟩
 f50:=⟨Tryz.f327.name,by decide,Tryz.func327.trans (congrArg some (by kernel_rfl))⟩
 f57:=⟨Tryz.f329.name,by decide,Tryz.func329.trans (congrArg some (by kernel_rfl))⟩
 t0:=Tryz.underlying0
 a0:=Tryz.isAgg0
 z0:=Tryz.sizeOf0
 v0:=Tryz.zeroValue0
 t3:=Tryz.underlying3
 a3:=Tryz.isAgg3
 z3:=Tryz.sizeOf3
 v3:=Tryz.zeroValue3
 t4:=Tryz.underlying4
 a4:=Tryz.isAgg4
 z4:=Tryz.sizeOf4
 v4:=Tryz.zeroValue4
 t5:=Tryz.underlying5
 a5:=Tryz.isAgg5
 z5:=Tryz.sizeOf5
 v5:=Tryz.zeroValue5
 t9:=Tryz.underlying9
 a9:=Tryz.isAgg9
 z9:=Tryz.sizeOf9
 v9:=Tryz.zeroValue9
 t22:=Tryz.underlying39
 a22:=Tryz.isAgg39
 z22:=Tryz.sizeOf39
 v22:=Tryz.zeroValue39
 t25:=Tryz.underlying280
 a25:=Tryz.isAgg280
 z25:=Tryz.sizeOf280
 v25:=Tryz.zeroValue280
 t39:=Tryz.underlying281
 a39:=Tryz.isAgg281
 z39:=Tryz.sizeOf281
 v39:=Tryz.zeroValue281
 t45:=Tryz.underlying350
 a45:=Tryz.isAgg350
 z45:=Tryz.sizeOf350
 v45:=Tryz.zeroValue350
 t46:=Tryz.underlying351
 a46:=Tryz.isAgg351
 z46:=Tryz.sizeOf351
 v46:=Tryz.zeroValue351
 t50:=Tryz.underlying261
 a50:=Tryz.isAgg261
 z50:=Tryz.sizeOf261
 v50:=Tryz.zeroValue261
 t53:=Tryz.underlying304
 a53:=Tryz.isAgg304
 z53:=Tryz.sizeOf304
 v53:=Tryz.zeroValue304
 t55:=Tryz.underlying254
 a55:=Tryz.isAgg254
 z55:=Tryz.sizeOf254
 v55:=Tryz.zeroValue254
 t66:=Tryz.underlying361
 a66:=Tryz.isAgg361
 z66:=Tryz.sizeOf361
 v66:=Tryz.zeroValue361
 t70:=Tryz.underlying364
 a70:=Tryz.isAgg364
 z70:=Tryz.sizeOf364
 v70:=Tryz.zeroValue364
 t76:=Tryz.underlying369
 a76:=Tryz.isAgg369
 z76:=Tryz.sizeOf369
 v76:=Tryz.zeroValue369
 t77:=Tryz.underlying370
 a77:=Tryz.isAgg370
 z77:=Tryz.sizeOf370
 v77:=Tryz.zeroValue370 }
end Go.Proofs
end
namespace Go.Proofs.YtijchbjkdllolaaGreatDoor
open Go.Proofs.Tryz
open Go.RowKit Go.MapKept
section
open Go.RowKit Go.Sort
def Avc (w:World):PH:=fun g=>w.heap[g]?
def Axq (w:World):Bo (Avc w) PH.mt w:=⟨fun _ _ h=>h,E5.mt w,fun _=>.inr rfl,fun _ _ _ _ _ _ h _=>h⟩
@[reducible] def Cc.yes:Cc:=⟨True⟩
def Ade [Fl:Cc](hF:Fl.on){w w':World}{Q:PH}(h:Br (Avc w) PH.mt w Q PH.mt w'):∃ n E,w'=grow (w.drewN n) E:=by
 have C:=h.dr hF;refine⟨w'.drawn-w.drawn,w'.heap.extract w.heap.size w'.heap.size,?_⟩;obtain⟨hp,tp,R,E,O⟩:=w;obtain⟨e,P,H,N,F⟩:=w';have j:=C.tape;have I:=C.dr;have m:=h.io.1;have t:=h.io.2;have J:=h.sz;have u:=fun g K=>h.old g K rfl;simp only at j I m t J u;subst j m t;unfold grow World.drewN;simp only[World.mk.injEq,and_true,true_and];refine⟨?_,oV⟩;apply A85;intro i;by_cases hi:i<hp.size
 ·rw[A31 hi];exact u i hi
 rw[Array.getElem?_append_right oV,Array.getElem?_extract];by_cases L:i<e.size
 ·rw[if_pos oV];congr 1;omega
 rw[if_neg oV,A1w oV]
def Fn0.exact [Fl:Cc](hF:Fl.on){P:Program}{f:FuncId}{args:List Value}{r:Value}(h:∀ u,Fn0 P f args u (fun v _=>v=r))(w:World):Calls P f args.toArray w fun e w'=>e=.returned r/\∃ n E,w'=grow (w.drewN n) E:=by
 refine Calls.mono (h (Avc w) w (Axq w)) fun e w' C=>?_;obtain⟨v,H,F,g,_,j,m,t⟩:=C;subst m t;exact⟨g,Ade hF j⟩
def Afy (e off size:Nat)(w:World):Go.Proofs.CmpLays prog 219 #[] (fun p:Par=>[.int .i64 p.1,.string (mkS p.2)]) 2 Bf e off size w :=
 fun m h g _ x y=>@Fn0.exact Cc.yes trivial _ _ _ _ (fun u=>@U5 Cc.yes u x y) _
end
section
open Go.RowKit Go.Sort
section
variable {κ:Type} {c:κ->κ->Int}
def Ord.swo (h:Ord c):SWO (ltOf c) where
 irrefl x:=by simp[ltOf,h.irr x]
 trans x y z h1 h2:=by
  simp only[ltOf,decide_eq_true_eq]at *
  exact h.trans x y z h1 h2
 ntrans x y z h1 h2:=by
  simp only[ltOf,decide_eq_false_iff_not]at *
  intro g;rcases A2s (c x y) 0 with e|e|e
  ·exact h1 e
  ·rw[h.eq x y e]at g;exact h2 g
  exact h2 (h.trans y x z ((h.sym y x).2 e) g)
def Ord.tot (h:Ord c)(x y:κ)(g:ltOf c x y=false)(j:ltOf c y x=false):x=y:=by
 simp only[ltOf,decide_eq_false_iff_not]at *
 rcases A2s (c x y) 0 with e|e|e
 ·exact absurd e g
 ·exact h.eq x y e
 exact absurd ((h.sym y x).2 e) j
def Ew (c:κ->κ->Int)(l:List κ):List κ:=l.mergeSort fun x y=>!(ltOf c) y x
def H5 (l:List κ):(Ew c l).Perm l:=List.mergeSort_perm _ _
def Tp (h:Ord c){l:List κ}(m:l.Nodup):Ez c (Ew c l):=by
 have g:(Ew c l).Pairwise fun a b=>(!(ltOf c) b a)=true:=by
  refine List.pairwise_mergeSort (fun a b d g j=>?_) (fun a b=>?_) l
  ·simp only[A1b]at g j⊢;exact h.swo.ntrans d b a j g
  simp only[A1z,A1b];cases e:ltOf c b a with
  |false=>exact .inl rfl
  |true =>
   right;simp only[ltOf,decide_eq_true_eq,decide_eq_false_iff_not]at *
   have:=(h.sym b a).1 e;omega
 have j:(Ew c l).Nodup:=(H5 l).nodup_iff.2 m;refine (g.and j).imp fun {a b} ⟨e1,e2⟩=>?_;simp only[A1b,ltOf,decide_eq_false_iff_not]at e1;rcases A2s (c a b) 0 with e|e|e
 ·exact e
 ·exact absurd (h.eq a b e) e2
 exact absurd ((h.sym b a).2 e) e1
end
section
variable {κ:Type} [Inhabited κ] {enc:κ->List Value} {k:Nat}
def Pr (e:∀ x,(enc x).length=k):∀ (ss:List κ) (t:Nat),t<ss.length*k->(ss.flatMap enc)[t]?=some ((enc ss.toArray[t/k]!)[t%k]!)
 |[],t,h=>by simp at h
 |x::ss,t,h=>by
  have j:0<k:=by
   rcases Azx k with h0|h0
   ·rw[h0]at h;simp at h
   exact h0
  rw[A40];by_cases g:t<k
  ·rw[Azi (by rw[e];exact g),A2l g,A3u g];have:t<(enc x).length:=by rw[e];exact g
   simp[getElem!_pos,this]
  rw[Azy (by rw[e];omega),e,Pr e ss (t-k) (by simp only[A0q,Azt]at h;omega)];have m:t/k=(t-k)/k+1:=by rw[Nat.div_eq_sub_div j oV]
  have n:t%k=(t-k)%k:=Nat.mod_eq_sub_mod oV;rw[m,n];simp
def Aku (E:∀ x,(enc x).length=k){W:World}{u:Nat}{e:TypeId}{g:Array Value}{ss:List κ}(j:W.heap[u]?=some (.cells g e (0,0)))(h:g.toList.take (ss.length*k)=ss.flatMap enc):HoldsK enc k W u 0 ss.toArray:=by
 intro t n;rw[size_flatK]at n;have m:t<ss.length*k:=by simpa using n
 have C:g[t]?=some ((flatK enc k ss.toArray)[t]!):=by
  rw[get_flatK enc k _ t n,<-Pr E ss t m,<-h,A1x,if_pos m,A45]
 constructor
 ·simp[World.cell?,j,C]
 simp[World.frozen?,j]
end
end
section
open Go.RowKit Go.MapKept Go.Shelf Go.Sort
def Mk (x:Par):(B8 x).length=2:=rfl
def Kg (P:Program)(st:List KI×S):List KI×S:=match one P (E6 P 200 st).1 (E6 P 200 st).2 with|some st'=>st'|none=>st
section
variable {P:Program} [A5 P] {fn:Func} {Post:By} {st:List KI×S} {u m:PH}
def G.pastI (h:G P fn Post (Kg P st) u m):G P fn Post st u m:=by
 unfold Kg at h;split at h
 ·rename_i st' he;exact⟨L9 200 st (Of A5.mx he h.out)⟩
 exact h
def Fn0.weak {f:FuncId}{args:List Value}{R j:Value->PH->Prop}(h:Fn0 P f args u R)(I:∀ v g,R v g->j v g):Fn0 P f args u j:=fun w H=>Calls.mono (h w H) fun e w' ⟨v,g,J,n,t,C,E,F⟩=>⟨v,g,J,n,t,C,E,I _ _ F⟩
end
end
section
open Go.RowKit Go.MapKept Go.Shelf Go.Sort
end
def Af.le {m0 m:PH}{v:Value}{t:TypeId}{sz:Nat}{es:List Value}(h:Af m0 m v t sz es):PH.le m0 m:=by
 rcases h.2 with ⟨_,_,rfl⟩|⟨g,cap,rest,e,rfl,_⟩
 ·exact PH.le_refl _
 exact Kx _ e
def H6 (p:Par×Rat):Ba 3 [As p]:=fun e g=>by
 simp at g;subst g;exact⟨rfl,fun y h=>by simp[As,Value.cells]at h;rcases h with rfl|rfl|rfl<;>rfl⟩
def Ai0 (p:(Par×Par)×Rat):Ba 5 [D7 p]:=fun e g=>by
 simp at g;subst g;exact⟨rfl,fun y h=>by simp[D7,Value.cells]at h;rcases h with rfl|rfl|rfl|rfl|rfl<;>rfl⟩
end Go.Proofs.YtijchbjkdllolaaGreatDoor
