/- Parts of one proof, joined by a program. -/
import Derived.Test.YtnafchoihfnkeaaGreatDoorS07
import Derived.RangeFuncSeq
import Derived.RangeFuncGives
import Derived.Maps.AppendAt
import Derived.Shelf.Abstract
import Derived.Shelf.AbstractIn
import Derived.Sort.MapsRangeIn
import Derived.WalkKit
import Derived.OwnWalkIn
import Derived.TacticsInMore
import Derived.RegionIn
import Derived.LoopNIn
import Derived.LoopIn
import Derived.Shelf.SlIter.Collect
import Derived.Shelf.SlSortCmp.WholeK
import Derived.Ground.SlsfProg
import Derived.Test.YtnafchoihfnkeaaGreatDoorProg
import Derived.Shelf.SlSortCmp.NoneTotal
set_option linter.defProp false
set_option linter.unusedVariables false
set_option linter.unusedSimpArgs false
set_option linter.unusedSectionVars false
set_option maxHeartbeats 16000000
namespace Go.Proofs.YtnafchoihfnkeaaGreatDoor
open Go.Proofs.Tryz
open Go.RowKit Go.MapKept
def A1f:=@Rat.natCast_inj
def Az9:=@Rat.intCast_add
def Awt:=@Rat.natCast_mul
def Au6:=@Rat.intCast_natCast
def A2i:=@Int.ofNat_le
def A0r:=@Rat.mul_inv_cancel
def Awz:=@Rat.add_comm
def Azn:=@List.getElem_take
def Avr:=@List.pairwise_iff_getElem
def Awp:=@List.getElem_map
def A2j:=@Array.ext_getElem?
def A08:=@List.getElem_inj
def Axz:=@List.findIdx?_eq_some_iff_getElem
def Avy:=@List.getElem_of_mem
section
section rules
variable [Ca] {P:Program} [A7 P] {fn:Func} {Post:Bz} {st:List KI×S} {u m:PH}
def G.appendM (e:TypeId)(sz R:Nat)(z:Value)(m0:PH)(es xs:List Value)(v:Value)(b off n c:Nat)(h:Al P (adv P st)=.app (some (e,sz,R,z)) true [v,.slice (some ⟨b,off,none⟩) n c])(hz:z.cells.toList.all Bh=true)(O:z.cells.size=sz)(F:0<sz)
 (Z:Ae m0 m v e sz es) (hx:Ex m b off sz xs) (T:Ax sz xs) (hn:xs.length=n) (L:0<n) (hb:(es.length+n)*R<=140737488355328) (H:es.length+n<=9223372036854775807)
 (k:∀ g d,Ae m0 d g e sz (es++xs)->G P fn Post (nx (adv P st) g) u d):G P fn Post st u m:=by
 refine G.big (K:=fun g U d=>U=u/\Ae m0 d g e sz (es++xs)) h mV (fun C Q N=>(D5 (P:=P) (o:=⟨none,Q,0, "",#[],none⟩) N).2.1) (.inr fun C Q N=>(D5 (P:=P) (o:=⟨none,Q,0, "",#[],none⟩) N).1) (fun C o j w E=>?_) (fun g U d _ J=>?_)
 ·obtain⟨_,_,t,hi,I⟩:=D5 (P:=P) j;obtain⟨g,w',d,V,W,X,Y⟩:=Ou (P:=P) m0 es xs v b off n c o.type hi hz O F Z T hn L hb H E (hx.cells F T E.pm);refine Bs (w':=w') (v:=g) ?_ ⟨u,d,W,X,rfl,Y⟩;rw[I w,V];rfl
 obtain⟨rfl,J⟩:=J;exact k g d J
end rules
def Src.h0 (s:Src)(k k':Nat)(g:Nat):s.M k g=none\/s.M k' g≠none:=by
 by_cases e:g=s.g
 ·subst e;right;unfold Src.M;rw[Ab];simp
 left;unfold Src.M;rw[Ac _ _ e];rfl
def Aow {u:PH}{v:Value}{ts:List Int}(h:Ad u v 1 (Ei ts))(C:ts.length<=600)(n:∀ t∈ts,-9223372036854775808<=t)(z:∀ t∈ts,t<=9223372036854775807) :
 Aj prog 5 [v] u PH.mt fun H F E=>∃ s:Src,H=s.ptr/\E=s.M 0/\Lc F s ts:=by
 have d:∃ a c,v=.slice a ts.length c/\ts.length<=c:=by
  obtain⟨a,c,e,j,_⟩:=h;rw[B4]at e j;exact⟨a,c,e,j⟩
 obtain⟨a,c,rfl,d⟩:=d;refine Aj.o func5<|G.minI [3,3] (ts.length:Int) 600 (ts.length:Int) kV oV<|G.sliceTo 1 a ts.length c ts.length kV d<|G.pub 1006 75 [.slice a ts.length c,.int .i64 0] kV kV ?_;intro g J I;exact G.r (.pointer (some ⟨g,0,none⟩)) ⟨⟨g,a,ts.length,c⟩,rfl,rfl,h,rfl,C,n,z⟩
def Src.bag0 (s:Src)(k:Nat){l:List Arr}(h:Bag PH.mt l):Bag (s.M k) (s.arr k::l):=by
 have:=Src.at (s:=s) (k:=k) (m0:=PH.mt) rfl;rw[C3]at this;exact⟨PH.mt,this,h⟩
end
def Sv (z:Int):Ap (z:Rat)=Lib.itoa z:=by
 have d:((z:Int):Rat).den=1:=mV
 have e:((z:Int):Rat).num=z:=mV
 rw[Ap,if_pos d,e]
section
variable {A:List (List Rat)}{p:List Rat}{q:Rat}{u:PH}{v:Value}
def Jf (h:p.all B3=true):(∀ q∈p,Tx q)/\SzL p 12:=by
 rw[Atx]at h;exact⟨fun q d=>(C0 (h q d)).1,fun q d=>(C0 (h q d)).2⟩
structure Tw (q:Rat):Prop where
 den:q.den ∣ 12
 num:q.num.natAbs<=1000
def Tw.small (h:Tw q):B3 q=true:=by
 have d:=h.num;have g:q.den<=12:=Axt oV h.den;simp only[B3,Atj,decide_eq_true_eq];have e:(1000:Nat)<10^100:=fV
 exact⟨Aum d e,Aum (by omega:q.den<=1000) e⟩
def Tw.tx (h:Tw q):Tx q:=(C0 h.small).1
def Tw.sz (h:Tw q):Sz q 12:=(C0 h.small).2
def Aez (h:∀ r∈A,∀ q∈r,Tw q):So A 12 100:=by
 refine⟨fun r e q d=>(h r e q d).den,oV,As9 (A0 (k:=1) oV) oV,fun D g h0=>⟨?_,fun r e q d z=>?_⟩⟩
 ·have:D<=12:=Axt oV g;exact As9 (Eb (k:=2) oV oV) oV
 have j:D<=12:=Axt oV g;have m:=(h r e q d).num;have n:D/q.den<=12:=As9 (Awa _ _) j;rw[Au7,Atv];have t:q.num.natAbs*(D/q.den)<=1000*12:=Aut m n;exact As9 (Eb (k:=5) oV oV) oV
def Ajc (h:A.length<=4)(d:∀ r∈A,r.length=A.length)(g:∀ r∈A,∀ q∈r,Tw q)(j:Aan A):M2 A 12 :=
 ⟨⟨oV,d,fun r d q e=>(g r d q e).tx⟩,j,h,oV,fun r d q e=>(g r d q e).sz,12,100,oV,Aez g⟩
def R5 {x:Rat}(h:Tw x)(n:Nat):Na x n 12:=by
 refine⟨h.tx,h.sz,12,100,oV,Aez fun r e q d=>?_⟩;simp only[Aw5]at e;have:=Av2 e;subst this;simp at d;subst d;exact h
def Amg:Ap 2 = [50]:=by
 have:Ap ((2:Int):Rat)=Lib.itoa 2:=Sv 2;rw[show ((2:Int):Rat)=2 from by decide]at this;rw[this,Cy oV];exact Lib.decDigits_one oV
def Ut:Ap 3 = [51]:=by
 have:Ap ((3:Int):Rat)=Lib.itoa 3:=Sv 3;rw[show ((3:Int):Rat)=3 from by decide]at this;rw[this,Cy oV];exact Lib.decDigits_one oV
def Anb:Ap (-4) = [45,52]:=by
 have:Ap ((-4:Int):Rat)=Lib.itoa (-4):=Sv (-4);rw[show ((-4:Int):Rat) = -4 from by decide]at this;rw[this,Cz,show decide ((-4:Int)<0)=true from rfl,show (-4:Int).natAbs=4 from rfl,Lib.decDigits_one oV];rfl
def Asn {g g1 g2:Nat}{m n:List (List UInt8)}(h:Ex u g 0 1 [.slice (some ⟨g1,0,none⟩) 2 2,.slice (some ⟨g2,0,none⟩) 2 2])(C:Ex u g1 0 1 (Bo m))(E:Ex u g2 0 1 (Bo n))(t:m.length=2)(z:n.length=2) :
 Bw u (.slice (some ⟨g,0,none⟩) 2 2) [m,n]:=by
 refine⟨_,⟨_,2,rfl,Atb _,fun j e d=>⟨g,0,rfl,h j e d⟩⟩,rfl,fun j r d=>?_⟩
 match j,d with
 |0,d =>
  simp at d;subst d;exact⟨some ⟨g1,0,none⟩,2,by rw[t];rfl,⟨_,2,by rw[Bm],by rw[Bm,t];exact Atb _,fun j e d=>⟨g1,0,rfl,C j e d⟩⟩⟩
 |1,d =>
  simp at d;subst d;exact⟨some ⟨g2,0,none⟩,2,by rw[z];rfl,⟨_,2,by rw[Bm],by rw[Bm,z];exact Atb _,fun j e d=>⟨g2,0,rfl,E j e d⟩⟩⟩
def A1:List (List Rat):=[[2,1],[1,2]]
def A2:List (List Rat):=[[1,0],[0,1]]
def twB (q:Rat):Bool:=decide (q.den ∣ 12)&&decide (q.num.natAbs<=1000)
def Je (h:twB q=true):Tw q:=by
 simp only[twB,Atj,decide_eq_true_eq]at h;exact⟨h.1,h.2⟩
def Asf (a b c:Rat):Aan [[a,b],[b,c]]:=by
 intro i k hi d e g
 match i,k,hi,d with
 |0,0,_,_=>rfl
 |0,1,_,_=>rfl
 |1,0,_,_=>rfl
 |1,1,_,_=>rfl
def X6:M2 A1 12:=by
 refine Ajc fV fV (fun r e q d=>?_) (Asf 2 1 2);have h:A1.all (fun r=>r.all twB)=true:=jV
 rw[Atx]at h;have:=h r e;rw[Atx]at this;exact Je (this q d)
def Aqb:M2 A2 12:=by
 refine Ajc fV fV (fun r e q d=>?_) (Asf 1 0 1);have h:A2.all (fun r=>r.all twB)=true:=jV
 rw[Atx]at h;have:=h r e;rw[Atx]at this;exact Je (this q d)
def Afz:Ao A1 = [3,-4,1]:=jV
def Aq5:∀ q∈Ao A1,Tx q:=(Jf (p:=Ao A1) jV).1
def Asw:∀ q∈Ao A2,Tx q:=(Jf (p:=Ao A2) jV).1
def I8 (h:p.all B3=true):SzL p 1000000:=(Jf h).2.mono oV
def Ar4:Aiu 5 (Ao A1):=by
 have e:Og (Ao A1) = [-4,2]:=jV
 have g:Aak (Ao A1) [-4,2] = [-1]:=jV
 have h:Aak [-4,2] [-1] = []:=jV
 have d:Iv 5 (Ao A1) (Og (Ao A1)) = [-1]:=jV
 refine⟨?_,jV,jV,I8 jV,by rw[d];simp,by rw[d];simp,by rw[d];exact I8 jV,by rw[d];decide +kernel⟩;rw[e];refine⟨jV,jV,jV,fV,I8 jV,I8 jV,?_⟩;rw[g];refine⟨jV,mV,fV,fV,I8 jV,I8 jV,?_⟩;rw[h];exact trivial
def Asa:Aiu 5 (Ao A2):=by
 have e:Og (Ao A2) = [-2,2]:=jV
 have g:Aak (Ao A2) [-2,2] = []:=jV
 have d:Iv 5 (Ao A2) (Og (Ao A2)) = [-2,2]:=jV
 refine⟨?_,jV,jV,I8 jV,by rw[d];simp,by rw[d];simp,by rw[d];exact I8 jV,by rw[d];decide +kernel⟩;rw[e];refine⟨jV,jV,jV,fV,I8 jV,I8 jV,?_⟩;rw[g];exact trivial
def Aot:List (Rat×Rat×Int):=[(0,5/4,1),(5/2,15/4,1)]
def Ar2:List (Rat×Rat×Int):=[(-2,2,2)]
def Aqd (e:D1 u)(d:Bw u v (Bq A1)):Fn0 prog 20 [v,.int .i64 (3:Nat)] u fun h g=>∃ r,h=.tuple #[r,.int .i64 0]/\Lf g r Aot :=
 Wc (fS:=5) (F:=10) (fu:=100) e d X6 Aq5 fV oV Ar4 jV jV jV ((Jf (p:=Ey 5 (Ao A1)) jV).2.mono oV) jV jV oV jV
def Ars (e:D1 u)(d:Bw u v (Bq A2)):Fn0 prog 20 [v,.int .i64 (0:Nat)] u fun h g=>∃ r,h=.tuple #[r,.int .i64 0]/\Lf g r Ar2 :=
 Wc (fS:=5) (F:=10) (fu:=100) e d Aqb Asw fV oV Asa jV jV jV ((Jf (p:=Ey 5 (Ao A2)) jV).2.mono oV) jV jV oV jV
def Aol {v r:Value}(g:D1 u)(d:Bw u v (Bq A1))(e:Lf u r Aot):Fn0 prog 22 [v,r] u fun m _=>m=.bool true:=by
 refine Ahr g d X6 Aq5 fV (fun x j=>?_) e fV jV;have h:Aot.all (fun x=>twB x.1&&twB x.2.1)=true:=jV
 rw[Atx]at h;have:=h x j;rw[Atj]at this;exact⟨R5 (Je this.1) _,R5 (Je this.2) _⟩
def Lf.mono {u g:PH}{v:Value}{d:List (Rat×Rat×Int)}(h:Lf u v d)(e:PH.le u g):Lf g v d:=by
 obtain⟨a,c,j,c',m,n,t⟩:=h;exact⟨a,c,j,c',m,n.mono e,t.mono e⟩
def Tz (H:D1 u):Fn0 prog 4 [] u fun v _=>v=.bool true:=by
 refine Fn0.o func4<|G.buildU 34 1 16 (.string (mkS [])) (Bo [[50],[49]]) kV (Dp _) rfl oV (by simp[Bo]) (by simp[Bo]) ?_;intro g1 u1 l1 e1;refine G.buildU 34 1 16 (.string (mkS [])) (Bo [[49],[50]]) kV (Dp _) rfl oV (by simp[Bo]) (by simp[Bo]) ?_;intro g2 u2 l2 e2;refine G.B 60 1 24 (.slice none 0 0) [.slice (some ⟨g1,0,none⟩) 2 2,.slice (some ⟨g2,0,none⟩) 2 2] (Oj (by intro e F;simp at F;rcases F with rfl|rfl<;>exact⟨_,_,_,rfl⟩)) ?_
 intro g3 u3 l3 e3;have O:Bw u3 (.slice (some ⟨g3,0,none⟩) 2 2) (Bq A1):=by
  have h:=Asn e3 (e1.mono (l2.trans l3)) (e2.mono l3) rfl rfl;have:Bq A1 = [[[50],[49]],[[49],[50]]]:=by simp[Bq,A1,Amg,U7]
  rw[this];exact h
 have g:PH.le u u3:=(l1.trans l2).trans l3;refine G.c call19 (L0 (H.mono g) O X6 Aq5) ?_;rintro v4 u4 K ⟨r4,rfl,k4⟩;have n:=k4;obtain⟨a4,c4,rfl⟩:=Ad.opn k4;have e4:(Bo (List.map Ap (Ao A1))).length=3:=by rw[Bm,Ata,Afz];rfl
 rw[e4]at n⊢;have h3:Tw 3:=Je jV;have hb:=Aoi (x:=3) (H.mono (g.trans K)) (O.mono K) X6 (R5 h3 _) fV;rw[Ut]at hb;refine G.c call12 hb ?_;rintro v5 u5 P rfl;have m:PH.le u u5:=(g.trans K).trans P;refine G.c call20 (Aqd (H.mono m) (O.mono (K.trans P))) ?_;rintro v6 u6 Q ⟨r6,rfl,k6⟩;have Z:=k6;obtain⟨a6,c6,a7,a9,rfl,_,_⟩:=k6;refine G.buildU 34 1 16 (.string (mkS [])) (Bo [[49],[48]]) kV (Dp _) rfl oV (by simp[Bo]) (by simp[Bo]) ?_;intro g7 u7 l7 e7;refine G.buildU 34 1 16 (.string (mkS [])) (Bo [[48],[49]]) kV (Dp _) rfl oV (by simp[Bo]) (by simp[Bo]) ?_;intro g8 u8 R e8;refine G.B 60 1 24 (.slice none 0 0) [.slice (some ⟨g7,0,none⟩) 2 2,.slice (some ⟨g8,0,none⟩) 2 2] (Oj (by intro e F;simp at F;rcases F with rfl|rfl<;>exact⟨_,_,_,rfl⟩)) ?_
 intro g9 u9 L e9;have W:Bw u9 (.slice (some ⟨g9,0,none⟩) 2 2) (Bq A2):=by
  have h:=Asn e9 (e7.mono (R.trans L)) (e8.mono L) rfl rfl;have:Bq A2 = [[[49],[48]],[[48],[49]]]:=by simp[Bq,A2,P4,U7]
  rw[this];exact h
 have V:PH.le u u9:=((m.trans Q).trans l7).trans (R.trans L);refine G.c call20 (Ars (H.mono V) W) ?_;rintro ad ab I ⟨aa,rfl,Y⟩;obtain⟨a5,a8,a3,C,rfl,_,kM⟩:=Y;refine G.eT' 0 0 rfl<|G.buildU 34 1 16 (.string (mkS [])) (Bo [[51],[45,52],[49]]) kV (Dp _) rfl oV (by simp[Bo]) (by simp[Bo]) ?_;intro E a1 t T;have hS:Eh a1 (.slice (some ⟨E,0,none⟩) 3 3) [[51],[45,52],[49]]:=⟨_,3,rfl,Atb _,fun j e hj=>⟨E,0,rfl,T j e hj⟩⟩;have X:([3,-4,1]:List Rat).map Ap = [[51],[45,52],[49]]:=by simp[Ut,Anb,U7]
 rw[Afz,X]at n;refine G.c call21 (Amy (Ad.mono n ((((((P.trans Q).trans l7).trans R).trans L).trans I).trans t)) hS mV mV) ?_;rintro ae a2 J rfl;refine G.eT' 0 0 rfl<|G.eT' (C7 (Ao A1) 3) 1 jV<|G.eT' (Co (Ao A1) 3:Int) 1 jV<|G.eT' 0 0 rfl<|G.eT' (Aot.length:Nat) 2 rfl ?_;have d:PH.le u6 a2:=((((l7.trans R).trans L).trans I).trans t).trans J;refine G.c call22 (Aol (H.mono ((m.trans Q).trans d)) (O.mono (((K.trans P).trans Q).trans d)) (Lf.mono Z d)) ?_;rintro af ac a0 rfl;refine G.eT' 0 0 rfl<|G.eT' (Ar2.length:Nat) 1 rfl ?_;obtain⟨z,N,rfl,U⟩:=Ad.at' (Ad.mono kM ((t.trans J).trans a0)) (j:=0) (e:=.int .i64 2) rfl;exact G.a z N 1 C 0 1 oV<|G.lU none z (N+0*1) (.int .i64 2) U<|G.eT' 2 2 rfl<|G.r (.bool true) ⟨rfl,rfl⟩
end
section
variable {F G:CF}{M N d e:Nat}{a b k q r:Rat}
def Dn (d N:Nat)(q:Rat):Prop:=∃ k:Int,q*((12^d:Nat):Rat)=(k:Rat)/\k.natAbs<=N
def Yk (d:Nat):0<12^d:=Aym oV
def Aq2 (d:Nat):((12^d:Nat):Rat)≠0:=by
 intro h;have g:((12^d:Nat):Rat)=((0:Nat):Rat):=h;have:=A1f.1 g;have:=Yk d;omega
def Dn.mono (h:Dn d N q)(m:N<=M):Dn d M q:=by
 obtain⟨k,g,j⟩:=h;exact⟨k,g,oV⟩
theorem Dn.add (h:Dn d N q)(g:Dn d M r):Dn d (N+M) (q+r):=by
 obtain⟨k,j,n⟩:=h;obtain⟨l,m,t⟩:=g;exact⟨k+l,by rw[Az9,<-j,<-m];grind,oV⟩
theorem Dn.mul (h:Dn d N q)(g:Dn e M r):Dn (d+e) (N*M) (q*r):=by
 obtain⟨k,j,m⟩:=h;obtain⟨l,n,t⟩:=g;refine⟨k*l,?_,by rw[Au7];exact Aut m t⟩;rw[Av9,<-j,<-n,Aww,Awt];grind
def Dn.zero (d N:Nat):Dn d N 0:=⟨0,by rw[Rat.zero_mul];rfl,Atu _⟩
theorem Dn.two (h:Dn d N q):Dn d (2*N) (2*q):=by
 have:=h.add h;rw[show 2*q=q+q by grind,show 2*N=N+N by omega];exact this
theorem Dn.frac (h:Dn d N q):q.num.natAbs<=N/\q.den<=12^d:=by
 obtain⟨k,m,u⟩:=h;have hp:=Yk d;have v:q=Rat.divInt k ((12^d:Nat):Int):=by
  rw[Awf,Au6,<-m];have:=Aq2 d;grind
 obtain⟨g,j,C⟩:=Ks (y:=k) (z:=((12^d:Nat):Int)) oV;have t:0<Nat.gcd k.natAbs (12^d):=Ax7 _ hp;rw[v];constructor
 ·rw[g,Az7];exact As9 (Awa _ _) u
 have n:((Rat.divInt k ((12^d:Nat):Int)).den:Int)<=((12^d:Nat):Int):=by
  rw[j,show (((12^d:Nat):Int)).natAbs=12^d from rfl,Awj oV,<-Axi];exact A2i.2 (Awa _ _)
 exact A2i.1 n
def Dn.small (h:Dn d N q)(u:d<=50)(t:N<10^100):B3 q=true:=by
 obtain⟨g,j⟩:=h.frac;have m:12^d<=12^50:=Atq oV u;have n:12^50<10^100:=jV
 simp only[B3,Atj,decide_eq_true_eq];exact⟨Aum g t,Aum j (Aum m n)⟩
theorem SmW.dn (h:SmW q):Dn 1 18540 q:=by
 obtain⟨k,n⟩:=h.den;refine⟨q.num*(k:Int),?_,?_⟩
 ·have m:q*(q.den:Rat)=(q.num:Rat):=by
   have g:q=(q.num:Rat)/(((q.den:Int)):Rat):=by rw[<-Awf,Aza]
   have hi:=A0r ((q.den:Nat):Rat) (fun e=>absurd (A1f.1 (e.trans (rfl:(0:Rat)=((0:Nat):Rat)))) (Nat.pos_iff_ne_zero.1 q.den_pos));rw[Au6,Azs]at g;generalize ((q.den:Nat):Rat)⁻¹=j at g hi;rw[g];grind
  show q*((12^1:Nat):Rat)=_;rw[show (12^1:Nat)=12 from rfl,n,Awt,Av9,Au6,<-m];grind
 rw[Au7,Atv];have m:=h.num;have g:k<=12:=by
  have:=h.le;have:0<q.den:=q.den_pos;rcases At5 k with h0|h0
  ·omega
  exact Axt oV ⟨q.den,by rw[At7];exact n⟩
 exact Aut m g
structure CFD (d N:Nat)(F:CF):Prop where
 c:Dn d N F.c
 s:∀ p,Dn d N (F.s p)
 t:∀ q,Dn d N (F.t q)
def CFD.mono {d N M:Nat}{F:CF}(h:CFD d N F)(g:N<=M):CFD d M F:=⟨h.c.mono g,fun p=>(h.s p).mono g,fun q=>(h.t q).mono g⟩
def CFD.add {d N M:Nat}{F G:CF}(h:CFD d N F)(g:CFD d M G):CFD d (N+M) (F.add G):=⟨h.c.add g.c,fun p=>(h.s p).add (g.s p),fun q=>(h.t q).add (g.t q)⟩
def CFD.scale (h:CFD d N F)(g:Dn e M k):CFD (d+e) (N*M) (F.scale k):=⟨h.c.mul g,fun p=>(h.s p).mul g,fun q=>(h.t q).mul g⟩
theorem CFD.mul {d e N M:Nat}{F G:CF}(h:CFD d N F)(g:CFD e M G):CFD (d+e) (4*(N*M)) (F.mul G):=by
 have j:∀ {q r:Rat},Dn d N q->Dn e M r->Dn (d+e) (N*M) (r*q):=fun {q r} hq hr=>by rw[show r*q=q*r by grind];exact hq.mul hr
 refine⟨(h.c.mul g.c).mono oV,fun p=>((j h.c (g.s p)).add ((h.s p).mul g.c)).mono oV,fun q=>?_⟩;have m:=(j h.c (g.t q)).add ((h.t q).mul g.c);have n:Dn (d+e) (N*M+N*M) (Hi F G q):=by
  unfold Hi;split
  ·exact Dn.zero _ _
  split
  ·have:=((h.s q.1).mul (g.s q.1)).two;exact this.mono oV
  exact ((h.s q.1).mul (g.s q.2)).add ((h.s q.2).mul (g.s q.1))
 exact (m.add n).mono oV
def Arw (c:UInt8):Bool:=decide (97<=c.toNat)&&decide (c.toNat<=122)
def Hl (s:List UInt8):Bool:=match s with
 |[]=>false
 |c::l=>Arw c&&l.all (fun x=>Arw x||(decide (x.toNat=45)||(decide (48<=x.toNat)&&decide (x.toNat<=57))))&&decide (s.length<=12)
structure PV (p:Par):Prop where
 lo:-1<=p.1
 hi:p.1<=1000
 cat:p.2 = []\/Hl p.2=true
structure CFV (F:CF):Prop where
 s:∀ p,F.s p≠0->PV p
 t:∀ q,F.t q≠0->PV q.1/\PV q.2/\¬ 0<Bd q.1 q.2
theorem Fg (h:a+b≠0):a≠0\/b≠0:=by
 by_cases g:a=0
 ·right;rintro rfl;apply h;rw[g];grind
 exact .inl g
theorem Cc (h:a*b≠0):a≠0/\b≠0:=⟨fun e=>h (by rw[e];grind),fun e=>h (by rw[e];grind)⟩
def CFV.add (h:CFV F)(g:CFV G):CFV (F.add G) :=
 ⟨fun p hp=>(Fg hp).elim (h.s p) (g.s p),fun q j=>(Fg j).elim (h.t q) (g.t q)⟩
def CFV.scale (h:CFV F)(k:Rat):CFV (F.scale k):=⟨fun p hp=>h.s p (Cc hp).1,fun q g=>h.t q (Cc g).1⟩
def CFV.mul (h:CFV F)(g:CFV G):CFV (F.mul G):=by
 refine⟨fun p hp=>(Fg hp).elim (fun e=>g.s p (Cc e).1) (fun e=>h.s p (Cc e).1),fun q j=>?_⟩;rcases Fg j with e|e
 ·exact (Fg e).elim (fun e=>g.t q (Cc e).1) (fun e=>h.t q (Cc e).1)
 unfold Hi at e;split at e
 ·exact absurd rfl e
 rename_i hno;split at e
 ·rename_i heq;have:=Cc (Cc e).2;exact⟨h.s _ this.1,by rw[<-heq];exact h.s _ this.1,hno⟩
 rcases Fg e with e|e
 ·have:=Cc e;exact⟨h.s _ this.1,g.s _ this.2,hno⟩
 have:=Cc e;exact⟨g.s _ this.2,h.s _ this.1,hno⟩
def CFV.count (k:Rat):CFV ⟨k,fun _=>0,fun _=>0⟩:=⟨fun p h=>absurd rfl h,fun q h=>absurd rfl h⟩
def CFD.count (h:Dn d N k):CFD d N ⟨k,fun _=>0,fun _=>0⟩:=⟨h,fun _=>Dn.zero _ _,fun _=>Dn.zero _ _⟩
end
section
variable {F G:CF}{L:List (Par×Par)}{M N d e:Nat}{p q:Par}
structure CFS (F:CF):Prop where
 c:B3 F.c=true
 s:∀ p,B3 (F.s p)=true
 t:∀ q,B3 (F.t q)=true
def CFD.cfs (h:CFD d N F)(j:d<=50)(g:N<10^100):CFS F:=⟨h.c.small j g,fun p=>(h.s p).small j g,fun q=>(h.t q).small j g⟩
def con (F G:CF)(x:Par×Par):Rat:=if x.1=x.2 then F.s x.1*G.s x.2+F.s x.1*G.s x.2 else F.s x.1*G.s x.2
def D0 (F G:CF):List (Par×Par)->Par×Par->Rat
 |[],_=>0
 |x::L,k=>(if A5 x.1 x.2=k then con F G x else 0)+D0 F G L k
theorem Ij (F G:CF)(x:Par×Par):∀ (L:List (Par×Par)) (k:Par×Par),D0 F G (L++[x]) k=if k=A5 x.1 x.2 then con F G x+D0 F G L k else D0 F G L k
 |[],k=>by
  simp only[Ava,D0];by_cases h:k=A5 x.1 x.2
  ·rw[if_pos h.symm,if_pos h]
  rw[if_neg (fun e=>h e.symm),if_neg h];grind
 |y::L,k=>by
  simp only[Ayt,D0];rw[Ij F G x L k];by_cases h:k=A5 x.1 x.2
  ·rw[if_pos h,if_pos h];grind
  rw[if_neg h,if_neg h]
def two (F G:CF)(L:List (Par×Par))(k:Par×Par):Rat :=
 if 0<Bd k.1 k.2 then 0 else if k.1=k.2 then (if k∈L then con F G k else 0) else (if k∈L then con F G k else 0)+(if (k.2,k.1)∈L then con F G (k.2,k.1) else 0)
def L1 (h:0<Bd p q):A5 p q=(q,p):=by unfold A5;rw[if_pos h]
def Fv (h:¬ 0<Bd p q):A5 p q=(p,q):=by unfold A5;rw[if_neg h]
def Qj (p q:Par):¬ 0<Bd (A5 p q).1 (A5 p q).2:=by
 by_cases h:0<Bd p q
 ·rw[L1 h];intro g;have:=(Fr.sym p q).1;have j:=(Fr.sym q p).2 h;simp only at g;omega
 rw[Fv h];exact h
def Jh {p q a b:Par}:A5 p q=(a,b)↔¬ 0<Bd a b/\((p=a/\q=b)\/(p=b/\q=a)):=by
 constructor
 ·intro h;have:=Qj p q;rw[h]at this;refine⟨this,?_⟩;by_cases g:0<Bd p q
  ·rw[L1 g]at h;cases h;exact .inr ⟨rfl,rfl⟩
  rw[Fv g]at h;cases h;exact .inl ⟨rfl,rfl⟩
 rintro⟨h,⟨rfl,rfl⟩|⟨rfl,rfl⟩⟩
 ·exact Fv h
 rw[Vh];exact Fv h
theorem Qw (F G:CF):∀ (L:List (Par×Par)) (k:Par×Par),L.Nodup->D0 F G L k=two F G L k
 |[],k,_=>by
  unfold D0 two;split
  ·rfl
  split
  ·simp
  simp;grind
 |(p,q)::L,(a,b),hn=>by
  rw[Awr]at hn;unfold D0;rw[Qw F G L (a,b) hn.2];unfold two;simp only;by_cases h0:0<Bd a b
  ·rw[if_pos h0,if_pos h0,if_neg (fun e=>(Jh.1 e).1 h0)];grind
  rw[if_neg h0,if_neg h0];by_cases g:a=b
  ·subst g;rw[if_pos rfl,if_pos rfl];by_cases h:(p,q)=(a,a)
   ·cases h;rw[if_pos (Jh.2 ⟨h0,.inl ⟨rfl,rfl⟩⟩),if_neg hn.1,if_pos mV];grind
   rw[if_neg (fun e=>h (by rcases (Jh.1 e).2 with ⟨rfl,rfl⟩|⟨rfl,rfl⟩<;>rfl))]
   have:((a,a)∈(p,q)::L)↔(a,a)∈L:=by simp[At6,Ne.symm h]
   simp only[this];grind
  rw[if_neg g,if_neg g];by_cases h:(p,q)=(a,b)
  ·cases h;rw[if_pos (Jh.2 ⟨h0,.inl ⟨rfl,rfl⟩⟩),if_neg hn.1,if_pos (show (p,q)∈(p,q)::L by simp)];have:((q,p)∈(p,q)::L)↔(q,p)∈L:=by simp[At6,Ne.symm g]
   simp only[this];grind
  by_cases j:(p,q)=(b,a)
  ·cases j;rw[if_pos (Jh.2 ⟨h0,.inr ⟨rfl,rfl⟩⟩),if_neg hn.1,if_pos (show (p,q)∈(p,q)::L by simp)];have:((q,p)∈(p,q)::L)↔(q,p)∈L:=by simp[At6,g]
   simp only[this];grind
  rw[if_neg (fun e=>by rcases (Jh.1 e).2 with ⟨rfl,rfl⟩|⟨rfl,rfl⟩;exact h rfl;exact j rfl)];have m:((a,b)∈(p,q)::L)↔(a,b)∈L:=by simp[At6,Ne.symm h]
  have n:((b,a)∈(p,q)::L)↔(b,a)∈L:=by simp[At6,Ne.symm j]
  simp only[m,n];grind
theorem Ahl (F G:CF)(t:L.Nodup)(n:∀ p q,F.s p≠0->G.s q≠0->(p,q)∈L)(k:Par×Par):D0 F G L k=Hi F G k:=by
 rw[Qw F G L k t];have key:∀ p q:Par,(if (p,q)∈L then con F G (p,q) else 0)=con F G (p,q):=fun p q=>by
  by_cases h:(p,q)∈L
  ·rw[if_pos h]
  rw[if_neg h];have:F.s p=0\/G.s q=0:=by
   by_cases g:F.s p=0
   ·exact .inl g
   by_cases j:G.s q=0
   ·exact .inr j
   exact absurd (n p q g j) h
  unfold con;simp only;rcases this with g|g<;>rw[g]<;>split<;>grind
 obtain⟨a,b⟩:=k;unfold two Hi;simp only[key];split
 ·rfl
 split
 ·rename_i e;subst e;unfold con;simp only[if_true];grind
 rename_i e;unfold con;simp only[if_neg e,if_neg (fun m:b=a=>e m.symm)]
def Ala (h:CFD d N F)(g:CFD e M G)(x:Par×Par):Dn (d+e) (2*(N*M)) (con F G x):=by
 unfold con;split
 ·exact (((h.s x.1).mul (g.s x.2)).add ((h.s x.1).mul (g.s x.2))).mono oV
 exact ((h.s x.1).mul (g.s x.2)).mono oV
def Alk (h:CFD d N F)(j:CFD e M G)(m:L.Nodup)(k:Par×Par):Dn (d+e) (4*(N*M)) (D0 F G L k):=by
 rw[Qw F G L k m];have g:∀ x,Dn (d+e) (2*(N*M)) (if x∈L then con F G x else 0):=fun x=>by
  split
  ·exact Ala h j x
  exact Dn.zero _ _
 unfold two;split
 ·exact Dn.zero _ _
 split
 ·exact (g k).mono oV
 exact ((g k).add (g _)).mono oV
def Do {κ:Type}[DecidableEq κ](a:κ):List (κ×Rat)->Rat
 |[]=>0
 |(b,q)::l=>if a=b then q else Do a l
section
variable {κ:Type} [DecidableEq κ]
def S6 {a:κ}{q:Rat}:∀ {l:List (κ×Rat)},(l.map (·.1)).Nodup->(a,q)∈l->Do a l=q
 |(b,r)::l,hn,h=>by
  simp only[Auk,Awr]at hn;unfold Do;rcases At6.1 h with e|e
  ·cases e;rw[if_pos rfl]
  have:a≠b:=fun g=>hn.1 (by rw[<-g];exact Ate.2 ⟨_,e,rfl⟩);rw[if_neg this];exact S6 hn.2 e
def U3 {a:κ}:∀ {l:List (κ×Rat)},a∉l.map (·.1)->Do a l=0
 |[],_=>rfl
 |(b,r)::l,h=>by
  simp only[Auk,At6,not_or]at h;unfold Do;rw[if_neg h.1];exact U3 h.2
end
end
section
variable [Ca] [Df] [Pu]
def Apl:List KI->Bool
 |.code (.region _ _ _)::_=>true
 |_=>false
def Ju (P:Program):Nat->List KI×S->List KI×S
 |0,st=>st
 |n+1,st=>cond (Apl st.1) st (match one P st.1 st.2 with|some st'=>Ju P n st'|none=>st)
section rules
variable {P:Program} [A7 P] {fn:Func} {Post:Bz} {st:List KI×S} {u m:PH}
def N8:∀ (n:Nat) (st:List KI×S),Sym P fn Post (Ju P n st).1 (Ju P n st).2 u m->Sym P fn Post st.1 st.2 u m
 |0,st,h=>h
 |n+1,st,h=>by
  unfold Ju at h;cases hn:Apl st.1 with
  |true=>simp[hn]at h;exact h
  |false =>
   simp only[hn,cond_false]at h;split at h
   ·rename_i st' he;obtain⟨d,e⟩:=st';exact Mx A7.mx he (N8 n _ h)
   exact h
def G.canon (T:List (Nat×SV))(B:List (Nat×Blk))(h:Gf (Ju P 200 st).1=true)(g:Th T B=true)(h0:Cov (Ju P 200 st).2.n (Ju P 200 st).2 T B)(k:G P fn Post ((Ju P 200 st).1,S.of (Ju P 200 st).2.n T B) u m):G P fn Post st u m:=by
 refine⟨N8 200 st ?_⟩;have e:=k.out;rw[Sym.ofNo h]at e⊢;intro c ρ a w d j;exact e c ρ a w d (j.cov h0 g)
end rules
end
section
def Am2 {x y:List UInt8}(h:Op.bytesLess x y=true):Op.bytesLess y x=false:=by
 cases h':Op.bytesLess y x with
 |false=>rfl
 |true=>have:=O9 h h';rw[Qt]at this;cases this
def Ar8 (x y:List UInt8):(!(Op.bytesLess x y||decide (x=y)))=Op.bytesLess y x:=by
 cases h1:Op.bytesLess x y with
 |true=>rw[Am2 h1];rfl
 |false =>
  by_cases e:x=y
  ·subst e;rw[h1];simp
  cases h2:Op.bytesLess y x with
  |true=>simp[e]
  |false=>exact absurd (X8 h1 h2) e
section rules
variable [Ca] {P:Program} [A7 P] {fn:Func} {Post:Bz} {st:List KI×S} {u m:PH}
def G.ltS (a b:List UInt8)(r:Bool)(h:Al P (adv P st)=.bin .lss (.string (mkS a)) (.string (mkS b)))(d:Op.bytesLess a b=r)(k:G P fn Post (nx (adv P st) (.bool r)) u m):G P fn Post st u m :=
 G.bin (.bool r) h (fun t X Y w=>Gn t X Y w) (fun t w=>by simp only[binOp,Op.stringOp,Kz];rw[d];rfl) k
def G.gtS (a b:List UInt8)(r:Bool)(h:Al P (adv P st)=.bin .gtr (.string (mkS a)) (.string (mkS b)))(d:Op.bytesLess b a=r)(k:G P fn Post (nx (adv P st) (.bool r)) u m):G P fn Post st u m :=
 G.bin (.bool r) h (fun t X Y w=>Gn t X Y w) (fun t w=>by
  rw[<-d,<-Ar8];simp only[binOp,Op.stringOp,Kz];rw[show (a==b)=decide (a=b) from by by_cases e:a=b<;>simp[e]]
  rfl) k
end rules
section
variable [Ca] {u:PH}
def Ae8 (x:Int):Fn0 prog 207 [.int .i64 x] u fun v _=>v=.bool false:=Fn0.o func207<|G.nF x x<|G.r (.bool false) ⟨rfl,rfl⟩
def Afc (x:List UInt8):Fn0 prog 208 [.string (mkS x)] u fun v _=>v=.bool false:=Fn0.o func208<|G.y x x rfl<|G.r (.bool false) ⟨rfl,rfl⟩
def Ar7 (x y:Int):Fn0 prog 159 [.int .i64 x,.int .i64 y] u fun v _=>v=.int .i64 (Od x y):=by
 refine Fn0.o func159<|G.c call207 (Ae8 x) ?_;rintro n g e rfl;refine G.c call207 (Ae8 y) ?_;rintro t j l2 rfl;unfold Od;by_cases h:x<y
 ·exact G.lT' x y h<|G.r (.int .i64 (-1)) ⟨rfl,by rw[if_pos h]⟩
 refine G.lF' x y h ?_;by_cases d:x>y
 ·exact G.gT' x y d<|G.r (.int .i64 1) ⟨rfl,by rw[if_neg h,if_pos d]⟩
 exact G.gF' x y d<|G.r (.int .i64 0) ⟨rfl,by rw[if_neg h,if_neg d]⟩
def Ary (x y:List UInt8):Fn0 prog 160 [.string (mkS x),.string (mkS y)] u fun v _=>v=.int .i64 (Ro x y):=by
 refine Fn0.o func160<|G.c call208 (Afc x) ?_;rintro n g d rfl;refine G.c call208 (Afc y) ?_;rintro t j l2 rfl;unfold Ro;cases h:Op.bytesLess x y with
 |true =>
  exact G.ltS x y true kV h<|G.r (.int .i64 (-1)) ⟨rfl,by rw[if_pos rfl]⟩
 |false =>
  refine G.ltS x y false kV h ?_;cases h':Op.bytesLess y x with
  |true =>
   exact G.gtS x y true kV h'<|G.r (.int .i64 1) ⟨rfl,by rw[if_neg mV,if_neg (fun e=>by subst e;rw[Qt]at h';cases h')]⟩
  |false =>
   exact G.gtS x y false kV h'<|G.r (.int .i64 0) ⟨rfl,by rw[if_neg mV,if_pos (X8 h h')]⟩
def Aqo (x y:Int){b:Nat}(h:Ex u b 0 1 [.int .i64 x,.int .i64 y]):Fn0 prog 158 [.slice (some ⟨b,0,none⟩) 2 2] u fun v _=>v=.int .i64 (if x≠0 then x else y):=by
 refine Fn0.o func158<|G.l (ι:=Nat) (fun i=>[(3,iV 0),(6,sV (some ⟨b,0,none⟩) 2 2),(7,iV (2:Nat)),(8,iV i)]) (fun _=>[])
  (fun i t n=>i<=2/\n=PH.mt/\(1<=i->x=0)/\(2<=i->y=0)) (fun i=>2-i) 0 ⟨oV,rfl,oV,oV⟩ ?_
 rintro J i E t n e ⟨hi,rfl,j,F⟩;by_cases g:i=2
 ·subst g;exact G.lF (2:Nat) (2:Nat)<|G.r (.int .i64 0) ⟨rfl,by rw[if_neg (by simp[j oV]),F oV]⟩
 refine G.lT i (2:Nat)<|G.a b 0 2 2 i 1 oV ?_;obtain⟨z,d,C,g⟩:∃ z:Int,ElP t b (0+i*1) (.int .i64 z)/\(z≠0->(if x≠0 then x else y)=z)/\(z=0->(1<=i+1->x=0)/\(2<=i+1->y=0)):=by
  rcases (by omega:i=0\/i=1) with rfl|rfl
  ·exact⟨x,(h 0 _ rfl).mono e,fun d=>if_pos d,fun d=>⟨fun _=>d,oV⟩⟩
  exact⟨y,(h 1 _ rfl).mono e,fun d=>if_neg (by simp[j oV]),fun d=>⟨fun _=>j oV,fun _=>d⟩⟩
 refine G.lU none b (0+i*1) (.int .i64 z) d ?_;by_cases h0:z=0
 ·exact G.nF z 0<|G.i i<|G.b (E (i+1) _ _ _ cV e ⟨oV,rfl,(g h0).1,(g h0).2⟩ oV)
 exact G.nT' z 0 h0<|G.r (.int .i64 z) ⟨rfl,by rw[C h0]⟩
def Tu (p q:Par):Fn0 prog 95 [A3 p,A3 q] u fun v _=>v=.int .i64 (Bd p q):=by
 refine Fn0.o func95<|G.c call159 (Ar7 p.1 q.1) ?_;rintro E n e rfl;refine G.c call160 (Ary p.2 q.2) ?_;rintro F t l2 rfl;refine G.B 3 1 8 (.int .i64 0) [.int .i64 (Od p.1 q.1),.int .i64 (Ro p.2 q.2)] (L4 [_,_]) ?_;intro g z h d;refine G.c call158 (Aqo _ _ d) ?_;rintro H C j rfl;exact G.r _ ⟨rfl,rfl⟩
end
end
section
variable {N s:Nat}{nz:Bool}{o:Obj}{q:Rat}{u u':PH}
abbrev SB (q:Rat):Prop:=B3 q=true
def SB.sz (h:SB q):Sz q 12:=(C0 h).2
def SB.tx (h:SB q):Tx q:=(C0 h).1
def SB.zero:SB 0:=fV
abbrev fz:Value:=.agg #[.bool false,.slice none 0 0,.bool false,.slice none 0 0]
def As4 :sgn q.num=0↔q=0:=by
 constructor
 ·intro h;have:q.num=0:=by
   rcases Awd q.num 0 with d|d|d
   ·rw[Dc d]at h;cases h
   ·exact d
   rw[Cg d]at h;cases h
  exact Axp.1 this
 rintro rfl;rfl
def Fq.at {κ:Type}[DecidableEq κ]{enc:κ->Value}{R:PH->Value->Rat->Prop}{f:κ->Rat}(h:Fq enc R nz u o f N s):∃ l:List (κ×Value),Eo enc o l/\(∀ p∈l,R u p.2 (f p.1)/\(nz=true->f p.1≠0)/\Sz (f p.1) s)/\(∀ k,k∉l.map (·.1)->f k=0)/\l.length<=N:=h
def Fq.mf {κ:Type}[DecidableEq κ]{enc:κ->Value}{f:κ->Rat}(h:Fq enc An nz u o f N s)(m:PH.le u u'):Fq enc An nz u' o f N s:=by
 obtain⟨l,e,d,g,j⟩:=h;exact⟨l,e,fun p hp=>⟨(d p hp).1.mono m,(d p hp).2⟩,g,j⟩
def Anx (m' u:PH)(v:Value)(F:CF)(N:Nat):Prop :=
 ∃ b a n c b' a' n' c' g1 g2 o1 o2,v=.agg #[.bool b,.slice a n c,.bool b',.slice a' n' c',.map (some g1),.map (some g2)]/\An u (.agg #[.bool b,.slice a n c,.bool b',.slice a' n' c']) F.c/\g1≠g2/\m'=(PH.mt.upd g1 o1).upd g2 o2/\Fq A3 An true u o1 F.s N 12/\Fq prV An true u o2 F.t N 12
def Aib (u:PH)(v:Value)(F:CF)(N:Nat):Prop :=
 ∃ b a n c b' a' n' c' g1 g2 o1 o2,v=.agg #[.bool b,.slice a n c,.bool b',.slice a' n' c',.map (some g1),.map (some g2)]/\An u (.agg #[.bool b,.slice a n c,.bool b',.slice a' n' c']) F.c/\u g1=some o1/\u g2=some o2/\Fq A3 An true u o1 F.s N 12/\Fq prV An true u o2 F.t N 12
def Aib.mono {u u':PH}{v:Value}{F:CF}{N:Nat}(h:Aib u v F N)(d:PH.le u u'):Aib u' v F N:=by
 obtain⟨b,a,n,c,b',g,E,c',g1,g2,H,I,e,j,m,t,z,C⟩:=h;exact⟨b,a,n,c,b',g,E,c',g1,g2,H,I,e,j.mono d,d _ _ m,d _ _ t,z.mf d,C.mf d⟩
def Anx.give {j u u':PH}{v:Value}{F:CF}(h:Anx j u v F N)(d:PH.le u u')(g:PH.le j u'):Aib u' v F N:=by
 obtain⟨b,a,n,c,b',m,H,c',g1,g2,I,J,e,t,z,rfl,C,E⟩:=h;exact⟨b,a,n,c,b',m,H,c',g1,g2,I,J,e,t.mono d,g _ _ (by rw[Ac _ _ z,Ab]),g _ _ (Ab _ _ _),C.mf d,E.mf d⟩
def Ar3 (p q:Par):Fn0 prog 98 [A3 p,A3 q] u fun v _=>v=prV (A5 p q):=by
 refine Fn0.o func98<|G.c call95 (Tu p q) ?_;rintro g e d rfl;by_cases h:0<Bd p q
 ·refine G.gT' (Bd p q) 0 h<|G.r (prV (q,p)) ⟨rfl,?_⟩;rw[L1 h]
 refine G.gF' (Bd p q) 0 h<|G.r (prV (p,q)) ⟨rfl,?_⟩;rw[Fv h]
def Aq6 {n:Int}(z:-9223372036854775808<=n)(C:n<=9223372036854775807):Aj prog 97 [.int .i64 n] u PH.mt fun v u' I=>Anx I u' v ⟨(n:Rat),fun _=>0,fun _=>0⟩ 0:=by
 refine Aj.o func97<|G.c call56 (Dk z C) ?_;intro L K J j;obtain⟨b,a,t,c,b',h,m,c',rfl⟩:=j.opn;refine G.mapMk kV ?_;intro g1 E F;refine G.mapMk kV ?_;intro g2 d H;have g:g1≠g2:=fun e=>by subst e;rw[Ab]at d;cases d
 exact G.r (.agg #[.bool b,.slice a t c,.bool b',.slice h m c',.map (some g1),.map (some g2)]) ⟨b,a,t,c,b',h,m,c',g1,g2,_,_,rfl,j,g,rfl,Fq.empty 12,Fq.empty 12⟩
end
section
section
variable {κ:Type} [DecidableEq κ]
def Dw (f g:κ->Rat)(q:Rat)(L:List κ):κ->Rat:=fun k=>if k∈L then g k*q+f k else f k
def Hy (f g:κ->Rat)(q:Rat){L:List κ}{k:κ}(h:k∉L):Hr (Dw f g q L) k (g k*q+Dw f g q L k)=Dw f g q (L++[k]):=by
 funext j
 unfold Hr Dw;by_cases e:j=k
 ·subst e;rw[if_pos rfl,if_neg h,if_pos mV]
 rw[if_neg e];by_cases d:j∈L
 ·rw[if_pos d,if_pos (by simp[d])]
 rw[if_neg d,if_neg (by simp[d,e])]
theorem J8 (f g:κ->Rat)(q:Rat){L:List κ}(h:∀ k,k∉L->g k=0):Dw f g q L=fun k=>f k+g k*q:=by
 funext k
 unfold Dw;by_cases d:k∈L
 ·rw[if_pos d];grind
 rw[if_neg d,h k d];grind
def Mp {f g:κ->Rat}{q:Rat}{L:List κ}(d:∀ k,SB (f k))(e:∀ k,SB (f k+g k*q))(k:κ):SB (Dw f g q L k):=by
 unfold Dw;split
 ·rw[Awz];exact e k
 exact d k
end
end
section
def Apo (t:TypeId):Op->Bool
 |.binOp _ t' ..=>Nat.beq t' t
 |_=>false
section rules
variable [Ca] {P:Program} [A7 P] {fn:Func} {Post:Bz} {st:List KI×S} {u m:PH}
def Abv {e:BinOp}{t:TypeId}{xs ys:Array Value}(X Y:Operand)(d:P.eqGuardType P.depth t=false)(w:World):(eqGuard e t X Y (.agg xs) (.agg ys)).run P w=.ok () w:=by
 unfold eqGuard;split<;>simp[d]
def G.eqAgg (t:TypeId)(xs ys:Array Value)(r:Bool)(h:Al P (adv P st)=.binT .eql (P.underlying t) (.agg xs) (.agg ys))(J:V6 (Apo t) (adv P st)=true)(I:P.eqGuardType P.depth t=false)(H:∀ w,(Op.equal t (.agg xs) (.agg ys)).run P w=.ok r w)
 (k:G P fn Post (nx (adv P st) (.bool r)) u m):G P fn Post st u m:=by
 refine G.askQ (Apo t) h J mV (fun E o d F w _=>?_) k;obtain⟨L,X,Y,O,e,z,C,N⟩:=Mr d;obtain⟨v,K,n,pos,g,j⟩:=o;simp only at e;subst e;obtain rfl:L=t:=Aug F;simp[execOp,z,C,Abv X Y I,binOp,H]
end rules
end
structure Apr (F H:CF):Prop where
 a:CFS F
 b:CFS H
 c:CFS (H.scale F.c)
 d:CFS (F.scale H.c)
 e:CFS ((H.scale F.c).add (F.scale H.c))
 f:SB (F.c*H.c)
 pr:∀ p q,SB (F.s p*H.s q)
 con:∀ x,SB (con F H x)
 acc:∀ Ps:List (Par×Par),Ps.Nodup->∀ k,SB (((H.scale F.c).add (F.scale H.c)).t k+D0 F H Ps k)
def Ar6 {d e N M:Nat}{F H:CF}(h:CFD d N F)(g:CFD e M H)(j:d+e<=50)(J:8*(N*M)<10^100)(u:0<N)(v:0<M):Apr F H:=by
 have E:N<=N*M:=Nat.le_mul_of_pos_right _ v;have I:M<=N*M:=Nat.le_mul_of_pos_left _ u;have m:CFD (d+e) (N*M) (H.scale F.c):=by have:=g.scale h.c;rw[Az5,At7]at this;exact this
 have n:CFD (d+e) (N*M) (F.scale H.c):=h.scale g.c;exact⟨h.cfs oV oV,g.cfs oV oV,m.cfs j oV,n.cfs j oV,(m.add n).cfs j oV,(h.c.mul g.c).small j oV,
  fun p q=>((h.s p).mul (g.s q)).small j oV,fun x=>(Ala h g x).small j oV,fun C z k=>(((m.add n).t k).add (Alk h g z k)).small j oV⟩
section
def Bj (p:Par×Rat):Value:=.agg #[.int .i64 p.1.1,.string (mkS p.1.2),.string (mkS (Ap p.2))]
def Dy (x:(Par×Par)×Rat):Value:=.agg #[.int .i64 x.1.1.1,.string (mkS x.1.1.2),.int .i64 x.1.2.1,.string (mkS x.1.2.2),.string (mkS (Ap x.2))]
def Lp (u:PH)(v:Value)(F:CF)(K:Nat):Prop :=
 ∃ (T:List (Par×Rat)) (Q:List ((Par×Par)×Rat)) (a1:Option Addr) (c1:Nat) (a2:Option Addr) (c2:Nat),v=.agg #[.string (mkS (Ap F.c)),.slice a1 T.length c1,.slice a2 Q.length c2] /\
  Ad u (.slice a1 T.length c1) 3 (T.map Bj)/\Ad u (.slice a2 Q.length c2) 5 (Q.map Dy)/\Can Bd F.s T/\Can Lw F.t Q/\T.length<=K/\Q.length<=K
def Lp.mono {u g:PH}{v:Value}{F:CF}{K:Nat}(h:Lp u v F K)(d:PH.le u g):Lp g v F K:=by
 obtain⟨T,Q,j,n,m,t,e,z,C,E⟩:=h;exact⟨T,Q,j,n,m,t,e,z.mono d,C.mono d,E⟩
section
variable {κ:Type} [DecidableEq κ]
def Abh {l:List (κ×Rat)}{a:κ}{q:Rat}(h:a∉l.map (·.1)):(fun k=>Do k (l++[(a,q)]))=Hr (fun k=>Do k l) a q:=by
 funext k
 unfold Hr;induction l with
 |nil=>simp[Do]
 |cons p l ih =>
  obtain⟨b,r⟩:=p;simp only[Auk,At6,not_or]at h;simp only[Ayt,Do];by_cases d:k=b
  ·rw[if_pos d,if_pos d,if_neg (fun e=>h.1 (by rw[<-e,d]))]
  rw[if_neg d,if_neg d];exact ih h.2
def Can.fn {c:κ->κ->Int}(e:Ord c){f:κ->Rat}{l:List (κ×Rat)}(h:Can c f l):∀ k,Do k l=f k:=fun k=>by
 by_cases d:k∈l.map (·.1)
 ·obtain⟨p,hp,rfl⟩:=Ate.1 d;rw[S6 (h.srt.nodup e) (q:=p.2) hp];exact (h.val p hp).1
 rw[U3 d,h.out k d]
def Zr {l:List (κ×Rat)}{i:Nat}{p:κ×Rat}(n:(l.map (·.1)).Nodup)(hi:l[i]?=some p):p.1∉(l.take i).map (·.1):=by
 intro m;obtain⟨q,t,e⟩:=Ate.1 m;obtain⟨j,h,rfl⟩:=Ayx.1 t;have g:j<i:=by simp at h;omega
 obtain⟨d,rfl⟩:=Atc.1 hi;rw[Azn]at e;have:=Avr.1 n j i gV (by simpa using d) g;simp only[Awp]at this;exact this e
end
def Fq.snoc {κ:Type}[DecidableEq κ]{enc:κ->Value}{u:PH}{o o':Obj}{T:List (κ×Rat)}{p:κ×Rat}{x:Value}{l:List (κ×Value)}{N:Nat}(j:Eo enc o l)(e:∀ y∈l,An u y.2 (Do y.1 T)/\(true=true->Do y.1 T≠0)/\Sz (Do y.1 T) 12)(g:∀ k,k∉l.map (·.1)->Do k T=0)(h:l.length<=N)
 (d:Eo enc o' (Iq p.1 x l)) (n:An u x p.2) (hp:p.1∉T.map (·.1)) (h0:p.2≠0) (m:SB p.2):Fq enc An true u o' (fun k=>Do k (T++[p])) (N+1) 12:=by
 obtain⟨a,q⟩:=p;rw[Abh hp];exact Fq.put (f:=fun k=>Do k T) j e g h d n (fun _=>h0) m.sz (Atb _)
abbrev zvL:List SV:=[.v (.bool false),.v (.slice none 0 0),.v (.bool false),.v (.slice none 0 0),.v (.map none),.v (.map none)]
def of0 {u:PH}{F:CF}{K:Nat}{v:Value}(hv:Lp u v F K)(sF:CFS F)(hK:K<=1000000) :
 Aj prog 37 [v] u PH.mt fun v' u' Z=>Anx Z u' v' F K:=by
 obtain⟨T,Q,a1,c1,a2,c2,rfl,hT,hQ,cT,cQ,kT,kQ⟩:=hv;have aa:=cT.srt.nodup Fr;have a9:=cQ.srt.nodup Ap3;refine Aj.o func37<|G.callO _ _ kV call97 (Aq6 (n:=0) oV oV) ?_;rintro v1 u1 m1 l1 r1 _;rw[C3];obtain⟨b,a,n,c,b',a',n',c',g1,g2,o1,o2,rfl,h1,H,rfl,h4,h5⟩:=r1;refine G.c call54 (Eq (SB.tx sF.c)) ?_;intro v2 u2 l2 r2;obtain⟨b2,x2,n2,d2,C,L,I,E,rfl⟩:=r2.opn;refine G.l (ι:=Nat) (fun i=>[(1,.p 0 0),(2,.p 1 0),(3,.p 1001 0),(14,sV a1 T.length c1),(15,iV T.length),(16,iV i)])
  (fun _=>[(0,⟨38,[tV (Ap F.c),sV a1 T.length c1,sV a2 Q.length c2]⟩),(1,⟨107,zvL⟩),(1001,⟨107,[bV b2,sV x2 n2 d2,bV C,sV L I E,.v (.map (some g1)),.v (.map (some g2))]⟩)])
  (fun i u' Z=>i<=T.length/\Z g2=some o2/\∃ d,Z g1=some d/\Fq A3 An true u' d (fun k=>Do k (T.take i)) i 12)
  (fun i=>T.length-i) 0
  ⟨oV,Ab _ _ _,o1,by rw[Ac _ _ H,Ab],(h4.mf l2).congr fun k=>by simp[Do]⟩ ?_
 rintro J i hJ u3 m3 l3 ⟨hi,a6,d,a5,hR⟩;by_cases m:i<T.length
 ·refine G.lT i T.length ?_;have W:T[i]?=some T[i]:=As5 m;obtain⟨ba,oa,rfl,ea⟩:=Ad.at' (hT.mono ((l1.trans l2).trans l3)) (j:=i) (e:=Bj T[i]) (by simp[W]);obtain⟨z,h0⟩:=cT.val _ (Ath m);have hs:SB T[i].2:=by rw[z];exact sF.s _
  refine G.a ba oa T.length c1 i 3 oV<|G.lU (some 3) ba (oa+i*3) (.agg #[.int .i64 T[i].1.1,.string (mkS T[i].1.2),.string (mkS (Ap T[i].2))]) ea<|G.c call54 (Eq hs.tx) ?_;intro v4 u4 l4 r4;obtain⟨b4,x4,n4,d4,P,a3,a0,R,rfl⟩:=r4.opn;obtain⟨l,ho,q2,q3,q4⟩:=(hR.mf l4).at;refine G.mapPut (et:=103) Dq g1 d l T[i].1 (.agg #[.bool b4,.slice x4 n4 d4,.bool P,.slice a3 a0 R]) kV kV a5 ho ?_;intro o' Y;refine G.i i<|G.b (hJ (i+1) _ _ _ cV (l3.trans l4) ⟨oV,by rw[Ac _ _ (Ne.symm H)];exact a6,o',Ab _ _ _,?_⟩ oV);rw[At0,W];exact Fq.snoc ho q2 q3 q4 Y r4 (Zr aa W) h0 hs
 obtain rfl:i=T.length:=oV;refine G.lF T.length T.length ?_;have a8:Fq A3 An true u3 d F.s T.length 12:=by
  rw[At9]at hR;exact hR.congr (cT.fn Fr)
 refine G.l (ι:=Nat) (fun i=>[(2,.p 1 0),(3,.p 1001 0),(29,sV a2 Q.length c2),(30,iV Q.length),(31,iV i)])
  (fun _=>[(1,⟨107,zvL⟩),(1001,⟨107,[bV b2,sV x2 n2 d2,bV C,sV L I E,.v (.map (some g1)),.v (.map (some g2))]⟩)])
  (fun i u' Z=>i<=Q.length/\Z g1=some d/\∃ h,Z g2=some h/\Fq prV An true u' h (fun k=>Do k (Q.take i)) i 12)
  (fun i=>Q.length-i) 0
  ⟨oV,a5,o2,a6,(h5.mf (l2.trans l3)).congr fun k=>by simp[Do]⟩ ?_
 rintro J2 i a7 u5 m5 l5 ⟨ab,N,h,O,V⟩;by_cases m:i<Q.length
 ·refine G.lT i Q.length ?_;have U:Q[i]?=some Q[i]:=As5 m;obtain⟨ba,oa,rfl,ea⟩:=Ad.at' (hQ.mono (((l1.trans l2).trans l3).trans l5)) (j:=i) (e:=Dy Q[i]) (by simp[U]);obtain⟨z,h0⟩:=cQ.val _ (Ath m);have hs:SB Q[i].2:=by rw[z];exact sF.t _
  refine G.a ba oa Q.length c2 i 5 oV<|G.lU (some 5) ba (oa+i*5) (.agg #[.int .i64 Q[i].1.1.1,.string (mkS Q[i].1.1.2),.int .i64 Q[i].1.2.1,.string (mkS Q[i].1.2.2),.string (mkS (Ap Q[i].2))]) ea<|G.c call54 (Eq hs.tx) ?_;intro v4 u4 l4 r4;obtain⟨b4,x4,n4,d4,P,a3,a0,R,rfl⟩:=r4.opn;obtain⟨l,ho,q2,q3,q4⟩:=(V.mf l4).at;refine G.mapPut (et:=103) Alw g2 h l Q[i].1 (.agg #[.bool b4,.slice x4 n4 d4,.bool P,.slice a3 a0 R]) kV kV O ho ?_;intro o' Y;refine G.i i<|G.b (a7 (i+1) _ _ _ cV (l5.trans l4) ⟨oV,by rw[Ac _ _ H];exact N,o',Ab _ _ _,?_⟩ oV);rw[At0,U];exact Fq.snoc ho q2 q3 q4 Y r4 (Zr a9 U) h0 hs
 obtain rfl:i=Q.length:=oV;refine G.lF Q.length Q.length ?_;have a4:Fq prV An true u5 h F.t Q.length 12:=by
  rw[At9]at V;exact V.congr (cQ.fn Ap3)
 refine G.drop ((PH.mt.upd g1 d).upd g2 h) kV (fun g o X=>?_) ?_
 ·by_cases e:g=g2
  ·subst e;rw[Ab]at X;cases X;exact O
  rw[Ac _ _ e]at X;by_cases e:g=g1
  ·subst e;rw[Ab]at X;cases X;exact N
  rw[Ac _ _ e]at X;cases X
 exact G.r (.agg #[.bool b2,.slice x2 n2 d2,.bool C,.slice L I E,.map (some g1),.map (some g2)]) ⟨b2,x2,n2,d2,C,L,I,E,g1,g2,d,h,rfl,r2.mono (l3.trans l5),H,rfl,(a8.mf l5).up kT (Atb _),a4.up kQ (Atb _)⟩
end
section
open Go.RowKit Go.MapKept Go.Shelf
end
section
open Go.RowKit Go.MapKept Go.Shelf
end
section
open Go.RowKit Go.MapKept Go.Shelf
end
section
open Go.RowKit Go.MapKept Go.Shelf
abbrev Bv (p:Par):List Value:=[.int .i64 p.1,.string (mkS p.2)]
end
section
open Go.RowKit Go.MapKept Go.Shelf
end
end Go.Proofs.YtnafchoihfnkeaaGreatDoor
section
namespace Go.Proofs
open Go.Shelf
def Tryz.sortPar_ren:Go.Shelf.Ren:=⟨fun|6=>94|15=>157|14=>156|28=>205|29=>206|20=>197|21=>198|22=>199|23=>200|24=>201|25=>202|26=>203|27=>204|46=>226|47=>227|48=>228|49=>229|50=>230|57=>253|n=>n,fun|22=>46|24=>110|25=>175|3=>3|39=>197|0=>0|53=>247|55=>236|4=>4|46=>264|45=>263|50=>150|5=>5|9=>9|66=>286|70=>289|76=>309|77=>122|n=>n,fun|n=>n⟩
theorem Tryz.sortPar:Go.Proofs.SlLaysF0.n6 Tryz.prog Tryz.sortPar_ren:={
 mixed:=by kernel_rfl
 f6:=⟨Tryz.f94.name,by decide,Tryz.func94.trans (congrArg some (by kernel_rfl))⟩
 f14:=⟨Tryz.f156.name,by decide,Tryz.func156.trans (congrArg some (by kernel_rfl))⟩
 f15:=Tryz.func157.trans (congrArg some (by kernel_rfl))
 f20:=⟨Tryz.f197.name,by decide,Tryz.func197.trans (congrArg some (by kernel_rfl))⟩
 f21:=⟨Tryz.f198.name,by decide,Tryz.func198.trans (congrArg some (by kernel_rfl))⟩
 f22:=⟨Tryz.f199.name,by decide,Tryz.func199.trans (congrArg some (by kernel_rfl))⟩
 f23:=⟨Tryz.f200.name,by decide,Tryz.func200.trans (congrArg some (by kernel_rfl))⟩
 f24:=⟨Tryz.f201.name,by decide,Tryz.func201.trans (congrArg some (by kernel_rfl))⟩
 f25:=⟨Tryz.f202.name,by decide,Tryz.func202.trans (congrArg some (by kernel_rfl))⟩
 f26:=⟨Tryz.f203.name,by decide,Tryz.func203.trans (congrArg some (by kernel_rfl))⟩
 f27:=⟨Tryz.f204.name,by decide,Tryz.func204.trans (congrArg some (by kernel_rfl))⟩
 f28:=Tryz.func205.trans (congrArg some (by kernel_rfl))
 f29:=Tryz.func206.trans (congrArg some (by kernel_rfl))
 f46:=⟨Tryz.f226.name,by decide,Tryz.func226.trans (congrArg some (by kernel_rfl))⟩
 f47:=Tryz.func227.trans (congrArg some (by kernel_rfl))
 f48:=Tryz.func228.trans (congrArg some (by kernel_rfl))
 f49:=⟨Tryz.f229.name,by decide,Tryz.func229.trans (congrArg some (by kernel_rfl))⟩
 f50:=⟨Tryz.f230.name,by decide,Tryz.func230.trans (congrArg some (by kernel_rfl))⟩
 f57:=⟨Tryz.f253.name,by decide,Tryz.func253.trans (congrArg some (by kernel_rfl))⟩
 t0:=Tryz.underlying0
 a0:=Tryz.isAgg0
 z0:=Tryz.sizeOf0
 v0:=Tryz.zeroValue0
 t3:=Tryz.underlying3
 a3:=Tryz.isAgg3
 z3:=Tryz.sizeOf3
 v3:=Tryz.zeroValue3
 t4:=Tryz.underlying4
 a4:=Tryz.isAgg4
 z4:=Tryz.sizeOf4
 v4:=Tryz.zeroValue4
 t5:=Tryz.underlying5
 a5:=Tryz.isAgg5
 z5:=Tryz.sizeOf5
 v5:=Tryz.zeroValue5
 t9:=Tryz.underlying9
 a9:=Tryz.isAgg9
 z9:=Tryz.sizeOf9
 v9:=Tryz.zeroValue9
 t22:=Tryz.underlying46
 a22:=Tryz.isAgg46
 z22:=Tryz.sizeOf46
 v22:=Tryz.zeroValue46
 t25:=Tryz.underlying175
 a25:=Tryz.isAgg175
 z25:=Tryz.sizeOf175
 v25:=Tryz.zeroValue175
 t39:=Tryz.underlying197
 a39:=Tryz.isAgg197
 z39:=Tryz.sizeOf197
 v39:=Tryz.zeroValue197
 t45:=Tryz.underlying263
 a45:=Tryz.isAgg263
 z45:=Tryz.sizeOf263
 v45:=Tryz.zeroValue263
 t46:=Tryz.underlying264
 a46:=Tryz.isAgg264
 z46:=Tryz.sizeOf264
 v46:=Tryz.zeroValue264
 t50:=Tryz.underlying150
 a50:=Tryz.isAgg150
 z50:=Tryz.sizeOf150
 v50:=Tryz.zeroValue150
 t53:=Tryz.underlying247
 a53:=Tryz.isAgg247
 z53:=Tryz.sizeOf247
 v53:=Tryz.zeroValue247
 t55:=Tryz.underlying236
 a55:=Tryz.isAgg236
 z55:=Tryz.sizeOf236
 v55:=Tryz.zeroValue236
 t66:=Tryz.underlying286
 a66:=Tryz.isAgg286
 z66:=Tryz.sizeOf286
 v66:=Tryz.zeroValue286
 t70:=Tryz.underlying289
 a70:=Tryz.isAgg289
 z70:=Tryz.sizeOf289
 v70:=Tryz.zeroValue289
 t76:=Tryz.underlying309
 a76:=Tryz.isAgg309
 z76:=Tryz.sizeOf309
 v76:=Tryz.zeroValue309
 t77:=Tryz.underlying122
 a77:=Tryz.isAgg122
 z77:=Tryz.sizeOf122
 v77:=Tryz.zeroValue122 }
end Go.Proofs
end
namespace Go.Proofs.YtnafchoihfnkeaaGreatDoor
open Go.Proofs.Tryz
open Go.RowKit Go.MapKept
section
open Go.RowKit Go.Sort
def Ap9 (w:World):PH:=fun g=>w.heap[g]?
def Aso (w:World):B1 (Ap9 w) PH.mt w:=⟨fun _ _ h=>h,Em.mt w,fun _=>.inr rfl,fun _ _ _ _ _ _ h _=>h⟩
@[reducible] def Ca.yes:Ca:=⟨True⟩
def Ab0 [Fl:Ca](hF:Fl.on){w w':World}{N:PH}(h:B8 (Ap9 w) PH.mt w N PH.mt w'):∃ n v,w'=grow (w.drewN n) v:=by
 have u:=h.dr hF;refine⟨w'.drawn-w.drawn,w'.heap.extract w.heap.size w'.heap.size,?_⟩;obtain⟨hp,tp,O,v,K⟩:=w;obtain⟨d,L,C,J,z⟩:=w';have e:=u.tape;have E:=u.dr;have j:=h.io.1;have m:=h.io.2;have F:=h.sz;have t:=fun g H=>h.old g H rfl;simp only at e E j m F t;subst e j m;unfold grow World.drewN;simp only[World.mk.injEq,and_true,true_and];refine⟨?_,oV⟩;apply A2j;intro i;by_cases hi:i<hp.size
 ·rw[Axr hi];exact t i hi
 rw[Array.getElem?_append_right oV,Array.getElem?_extract];by_cases I:i<d.size
 ·rw[if_pos oV];congr 1;omega
 rw[if_neg oV,Awu oV]
def Fn0.exact [Fl:Ca](hF:Fl.on){P:Program}{f:FuncId}{args:List Value}{r:Value}(h:∀ u,Fn0 P f args u (fun v _=>v=r))(w:World):Calls P f args.toArray w fun e w'=>e=.returned r/\∃ n z,w'=grow (w.drewN n) z:=by
 refine Calls.mono (h (Ap9 w) w (Aso w)) fun e w' t=>?_;obtain⟨v,E,C,d,_,g,j,m⟩:=t;subst j m;exact⟨d,Ab0 hF g⟩
def Aeh (d off size:Nat)(w:World):Go.Proofs.CmpLays prog 95 #[] (fun p:Par=>[.int .i64 p.1,.string (mkS p.2)]) 2 Bd d off size w :=
 fun m g e _ x y=>@Fn0.exact Ca.yes trivial _ _ _ _ (fun u=>@Tu Ca.yes u x y) _
end
section
open Go.RowKit Go.Sort
section
variable {κ:Type} {c:κ->κ->Int}
def Ord.swo (h:Ord c):SWO (ltOf c) where
 irrefl x:=by simp[ltOf,h.irr x]
 trans x y z h1 h2:=by
  simp only[ltOf,decide_eq_true_eq]at *
  exact h.trans x y z h1 h2
 ntrans x y z h1 h2:=by
  simp only[ltOf,decide_eq_false_iff_not]at *
  intro d;rcases Awd (c x y) 0 with e|e|e
  ·exact h1 e
  ·rw[h.eq x y e]at d;exact h2 d
  exact h2 (h.trans y x z ((h.sym y x).2 e) d)
def Ord.tot (h:Ord c)(x y:κ)(d:ltOf c x y=false)(g:ltOf c y x=false):x=y:=by
 simp only[ltOf,decide_eq_false_iff_not]at *
 rcases Awd (c x y) 0 with e|e|e
 ·exact absurd e d
 ·exact h.eq x y e
 exact absurd ((h.sym y x).2 e) g
def Ee (c:κ->κ->Int)(l:List κ):List κ:=l.mergeSort fun x y=>!(ltOf c) y x
def Hd (l:List κ):(Ee c l).Perm l:=List.mergeSort_perm _ _
def Q0 (h:Ord c){l:List κ}(m:l.Nodup):Hk c (Ee c l):=by
 have g:(Ee c l).Pairwise fun a b=>(!(ltOf c) b a)=true:=by
  refine List.pairwise_mergeSort (fun a b d g j=>?_) (fun a b=>?_) l
  ·simp only[Avs]at g j⊢;exact h.swo.ntrans d b a j g
  simp only[Av7,Avs];cases e:ltOf c b a with
  |false=>exact .inl rfl
  |true =>
   right;simp only[ltOf,decide_eq_true_eq,decide_eq_false_iff_not]at *
   have:=(h.sym b a).1 e;omega
 have j:(Ee c l).Nodup:=(Hd l).nodup_iff.2 m;refine (g.and j).imp fun {a b} ⟨e1,e2⟩=>?_;simp only[Avs,ltOf,decide_eq_false_iff_not]at e1;rcases Awd (c a b) 0 with e|e|e
 ·exact e
 ·exact absurd (h.eq a b e) e2
 exact absurd ((h.sym b a).2 e) e1
end
section
variable {κ:Type} [Inhabited κ] {enc:κ->List Value} {k:Nat}
def Nt (d:∀ x,(enc x).length=k):∀ (e:List κ) (t:Nat),t<e.length*k->(e.flatMap enc)[t]?=some ((enc e.toArray[t/k]!)[t%k]!)
 |[],t,h=>by simp at h
 |x::e,t,h=>by
  have j:0<k:=by
   rcases At5 k with h0|h0
   ·rw[h0]at h;simp at h
   exact h0
  rw[Azl];by_cases g:t<k
  ·rw[Atl (by rw[d];exact g),Aw1 g,Axg g];have:t<(enc x).length:=by rw[d];exact g
   simp[getElem!_pos,this]
  rw[At1 (by rw[d];omega),d,Nt d e (t-k) (by simp only[Auh,At2]at h;omega)];have m:t/k=(t-k)/k+1:=by rw[Nat.div_eq_sub_div j oV]
  have n:t%k=(t-k)%k:=Nat.mod_eq_sub_mod oV;rw[m,n];simp
def Aha (z:∀ x,(enc x).length=k){W:World}{u:Nat}{e:TypeId}{d:Array Value}{g:List κ}(j:W.heap[u]?=some (.cells d e (0,0)))(h:d.toList.take (g.length*k)=g.flatMap enc):HoldsK enc k W u 0 g.toArray:=by
 intro t n;rw[size_flatK]at n;have m:t<g.length*k:=by simpa using n
 have v:d[t]?=some ((flatK enc k g.toArray)[t]!):=by
  rw[get_flatK enc k _ t n,<-Nt z g t m,<-h,Avu,if_pos m,Ayq]
 constructor
 ·simp[World.cell?,j,v]
 simp[World.frozen?,j]
end
end
section
open Go.RowKit Go.MapKept Go.Shelf Go.Sort
def K2 (x:Par):(Bv x).length=2:=rfl
def Lg (P:Program)(st:List KI×S):List KI×S:=match one P (Ju P 200 st).1 (Ju P 200 st).2 with|some st'=>st'|none=>st
section
variable {P:Program} [A7 P] {fn:Func} {Post:Bz} {st:List KI×S} {u m:PH}
def G.pastI (h:G P fn Post (Lg P st) u m):G P fn Post st u m:=by
 unfold Lg at h;split at h
 ·rename_i st' he;exact⟨N8 200 st (Mx A7.mx he h.out)⟩
 exact h
def Fn0.weak {f:FuncId}{args:List Value}{R g:Value->PH->Prop}(h:Fn0 P f args u R)(F:∀ v d,R v d->g v d):Fn0 P f args u g:=fun w E=>Calls.mono (h w E) fun e w' ⟨v,d,H,j,n,t,z,C⟩=>⟨v,d,H,j,n,t,z,F _ _ C⟩
end
end
section
open Go.RowKit Go.MapKept Go.Shelf Go.Sort
end
def Ae.le {m0 m:PH}{v:Value}{t:TypeId}{sz:Nat}{es:List Value}(h:Ae m0 m v t sz es):PH.le m0 m:=by
 rcases h.2 with ⟨_,_,rfl⟩|⟨g,cap,rest,d,rfl,_⟩
 ·exact PH.le_refl _
 exact K5 _ d
def Abx (p:Par×Rat):Ax 3 [Bj p]:=fun e d=>by
 simp at d;subst d;exact⟨rfl,fun y g=>by simp[Bj,Value.cells]at g;rcases g with rfl|rfl|rfl<;>rfl⟩
def Afw (p:(Par×Par)×Rat):Ax 5 [Dy p]:=fun e d=>by
 simp at d;subst d;exact⟨rfl,fun y g=>by simp[Dy,Value.cells]at g;rcases g with rfl|rfl|rfl|rfl|rfl<;>rfl⟩
section
variable {i:Nat}{q:Rat}{s:List UInt8}{u:PH}{x:Par×Rat}
def To (h:q≠0):Ap q≠[48]:=by
 intro e;unfold Ap at e;split at e
 ·have:=Hc (e.trans Ea.symm);exact h (Axp.1 this)
 have:(47:UInt8)∈Lib.itoa q.num++47::Lib.itoa (q.den:Int):=mV;rw[e]at this;simp at this
def Aal (p q:Par)(r:Bool)(h:decide (Bd p q<0)=r):Fn0 prog 150 [A3 p,A3 q] u fun v _=>v=.bool r:=by
 refine Fn0.o func150<|G.c call95 (Tu p q) ?_;rintro g e d rfl;cases r with
 |true =>
  exact G.lT' (Bd p q) 0 (of_decide_eq_true h)<|G.r (.bool true) ⟨rfl,rfl⟩
 |false =>
  exact G.lF' (Bd p q) 0 (of_decide_eq_false h)<|G.r (.bool false) ⟨rfl,rfl⟩
def Aji (h:Tx q)(h0:q≠0):Fn0 prog 147 [.string (mkS (Ap q))] u fun v _=>v=.bool true:=by
 refine Fn0.o func147<|G.c call47 (Fp h) ?_;rintro g e d rfl;exact G.x (Ap q) [48] (To h0)<|G.r (.bool true) ⟨rfl,rfl⟩
theorem Xp (h:Hl s=true):1<=s.length/\s.length<=12:=by
 unfold Hl at h;split at h
 ·cases h
 grind
theorem Sj (h:Hl s=true){c:UInt8}(hi:s[i]?=some c):(97<=c.toNat/\c.toNat<=122)\/(i≠0/\(c.toNat=45\/(48<=c.toNat/\c.toNat<=57))):=by
 unfold Hl at h;split at h
 ·cases h
 simp only[Arw]at h
 match i,hi with
 |0,hi=>grind
 |i+1,hi=>grind
theorem Apq (h:Hl s=true):Fn0 prog 195 [.string (mkS s)] u fun v _=>v=.bool true:=by
 obtain⟨E,F⟩:=Xp h;refine Fn0.o func195<|G.convSB (some .string) 5 s kV kV kV ?_;intro R P L t;obtain⟨a,c,rfl⟩:=Ad.opn t;rw[As]at t⊢;refine G.l (ι:=Nat) (fun i=>[(0,tV s),(7,sV a s.length c),(8,iV s.length),(9,iV i)]) (fun _=>[])
  (fun i O K=>i<=s.length/\K=PH.mt) (fun i=>s.length-i) 0 ⟨oV,rfl⟩ ?_
 rintro J i m Q N l2 ⟨hi,rfl⟩;by_cases d:i<s.length
 ·refine G.lT i s.length ?_;have g:s[i]?=some s[i]:=As5 d;obtain⟨b,off,rfl,e⟩:=Ad.at' (t.mono l2) (j:=i) (e:=.int .u8 (s[i].toNat:Int)) (by simp[Bb,g]);have I:=Sj h g;generalize s[i].toNat=n at e I;refine G.a b off s.length c i 1 d<|G.lU none b (off+i*1) (.int .u8 (n:Int)) e ?_;by_cases H:97<=n/\n<=122
  ·exact G.cmpG .geq .u8 (n:Int) 97 true kV rfl (by simp[Cj];omega)<|G.cmpG .leq .u8 (n:Int) 122 true kV rfl (by simp[Cj];omega)<|G.i i<|G.b (m (i+1) _ _ _ cV l2 ⟨oV,rfl⟩ oV)
  by_cases C:97<=n
  ·grind
  refine G.cmpG .geq .u8 (n:Int) 97 false kV rfl (by simp[Cj];omega)<|G.eF i 0 ?_;by_cases z:n=45
  ·exact G.cmpG .neq .u8 (n:Int) 45 false kV rfl (by simp[Cj];omega)<|G.i i<|G.b (m (i+1) _ _ _ cV l2 ⟨oV,rfl⟩ oV)
  exact G.cmpG .neq .u8 (n:Int) 45 true kV rfl (by simp[Cj];omega)<|G.cmpG .lss .u8 (n:Int) 48 false kV rfl (by simp[Cj];omega)<|G.cmpG .gtr .u8 (n:Int) 57 false kV rfl (by simp[Cj];omega)<|G.i i<|G.b (m (i+1) _ _ _ cV l2 ⟨oV,rfl⟩ oV)
 obtain rfl:i=s.length:=oV;exact G.lF s.length s.length<|G.hT s.length 1<|G.kT s.length 12<|G.r (.bool true) ⟨rfl,rfl⟩
def Ad8 {p:Par}(h:PV p):Fn0 prog 146 [A3 p] u fun v _=>v=.bool true:=by
 refine Fn0.o func146<|G.hT' p.1 (-1) (by have:=h.lo;omega) ?_;by_cases d:p.2 = []
 ·exact G.q p.2 [] d<|G.r (.bool true) ⟨rfl,rfl⟩
 refine G.w p.2 [] d<|G.c call195 (Apq (h.cat.resolve_left d)) ?_;rintro j g e rfl;exact G.r (.bool true) ⟨rfl,rfl⟩
def Asr (h:PV x.1)(d:Tx x.2)(h0:x.2≠0):Fn0 prog 145 [Bj x] u fun v _=>v=.bool false:=by
 refine Fn0.o func145<|G.c call146 (Ad8 h) ?_;rintro m g e rfl;refine G.c call147 (Aji d h0) ?_;rintro n j l2 rfl;exact G.r (.bool false) ⟨rfl,rfl⟩
def As1 {x:(Par×Par)×Rat}(h:PV x.1.1)(d:PV x.1.2)(g:¬ 0<Bd x.1.1 x.1.2)(j:Tx x.2)(h0:x.2≠0):Fn0 prog 149 [Dy x] u fun v _=>v=.bool false:=by
 refine Fn0.o func149<|G.c call146 (Ad8 h) ?_;rintro H z m rfl;refine G.c call146 (Ad8 d) ?_;rintro I C l2 rfl;refine G.c call150 (Aal x.1.2 x.1.1 false (decide_eq_false fun e=>g ((Fr.sym _ _).1 e))) ?_;rintro J E n rfl;refine G.c call147 (Aji j h0) ?_;rintro K F t rfl;exact G.r (.bool false) ⟨rfl,rfl⟩
def Aqu {x y:Par×Rat}(h:Bd x.1 y.1<0):Fn0 prog 152 [Bj x,Bj y] u fun v _=>v=.bool true:=by
 refine Fn0.o func152<|G.c call150 (Aal x.1 y.1 true (decide_eq_true h)) ?_;rintro g e d rfl;exact G.r (.bool true) ⟨rfl,rfl⟩
def Aqk {x y:(Par×Par)×Rat}(h:Lw x.1 y.1<0):Fn0 prog 154 [Dy x,Dy y] u fun v _=>v=.bool true:=by
 refine Fn0.o func154 ?_;by_cases d:Bd x.1.1 y.1.1<0
 ·refine G.c call150 (Aal x.1.1 y.1.1 true (decide_eq_true d)) ?_;rintro t n m rfl;exact G.r (.bool true) ⟨rfl,rfl⟩
 have g:Bd x.1.1 y.1.1=0/\Bd x.1.2 y.1.2<0:=by
  unfold Lw at h;split at h
  ·exact absurd h d
  rename_i e;exact⟨by simpa using e,h⟩
 have j:=Fr.eq _ _ g.1;refine G.c call150 (Aal x.1.1 y.1.1 false (decide_eq_false d)) ?_;rintro t n m rfl;refine G.eqAgg 110 #[.int .i64 x.1.1.1,.string (mkS x.1.1.2)] #[.int .i64 y.1.1.1,.string (mkS y.1.1.2)] true kV kV kV (fun w=>by rw[<-decide_eq_true j];exact Dq.eq x.1.1 y.1.1 w)<|G.c call150 (Aal x.1.2 y.1.2 true (decide_eq_true g.2)) ?_;rintro C z l2 rfl;exact G.r (.bool true) ⟨rfl,rfl⟩
def Apb {u:PH}{v:Value}{T:List (Par×Rat)}{fid:Nat}(h:Ad u v 3 (T.map Bj))(N:T.length<=1000000)
 (d:∀ args w,(callFunc fid args).run prog w=.ok (.enter fid args) w) (H:∀ p∈T,∀ t,PH.le u t->Fn0 prog fid [Bj p] t fun v _=>v=.bool false) :
 Fn0 prog 155 [v,.func (.func fid) #[] #[]] u fun L _=>L=.int .i64 (-1):=by
 obtain⟨a,c,rfl⟩:=h.opn;rw[Ata]at h⊢;refine Fn0.o func155<|G.l (ι:=Nat) (fun i=>[(0,sV a T.length c),(1,.v (.func (.func fid) #[] #[])),(7,iV T.length),(8,iV i)]) (fun _=>[])
  (fun i t I=>i<=T.length/\I=PH.mt) (fun i=>T.length-i) 0 ⟨oV,rfl⟩ ?_
 rintro J i F K O n ⟨hi,rfl⟩;by_cases g:i<T.length
 ·refine G.lT i T.length ?_;have m:T[i]?=some T[i]:=As5 g;obtain⟨z,C,rfl,E⟩:=Ad.at' (h.mono n) (j:=i) (e:=Bj T[i]) (by simp[m]);refine G.a z C T.length c i 3 oV<|G.lU (some 3) z (C+i*3) (Bj T[i]) E<|G.call0 fid [Bj T[i]] kV d (H T[i] (Ath g) K n) ?_;rintro Q P l2 rfl;exact G.i i<|G.b (F (i+1) _ _ _ cV (n.trans l2) ⟨oV,rfl⟩ oV)
 obtain rfl:i=T.length:=oV;exact G.lF T.length T.length<|G.r (.int .i64 (-1)) ⟨rfl,rfl⟩
def Acn {u:PH}{v:Value}{T:List (Par×Rat)}{fid:Nat}(h:Ad u v 3 (T.map Bj))(j:T.length<=1000000)
 (d:∀ args w,(callFunc fid args).run prog w=.ok (.enter fid args) w) (g:∀ p∈T,∀ e,PH.le u e->Fn0 prog fid [Bj p] e fun v _=>v=.bool false) :
 Fn0 prog 90 [v,.func (.func fid) #[] #[]] u fun m _=>m=.bool false:=by
 refine Fn0.o func90<|G.c call155 (Apb h j d g) ?_;rintro z t n rfl;exact G.hF (-1) 0<|G.r (.bool false) ⟨rfl,rfl⟩
def Abb {u:PH}{v:Value}{T:List (Par×Rat)}{fid:Nat}(h:Ad u v 3 (T.map Bj))(Q:T.length<=1000000)
 (d:∀ args w,(callFunc fid args).run prog w=.ok (.enter fid args) w) (L:∀ (i:Nat) x y,T[i]?=some x->T[i+1]?=some y->∀ E,Fn0 prog fid [Bj x,Bj y] E fun v _=>v=.bool true) :
 Fn0 prog 151 [v,.func (.func fid) #[] #[]] u fun P _=>P=.bool true:=by
 obtain⟨a,c,rfl⟩:=h.opn;rw[Ata]at h⊢;refine Fn0.o func151<|G.l (ι:=Nat) (fun i=>[(0,sV a T.length c),(1,.v (.func (.func fid) #[] #[])),(5,iV (i+1:Nat))]) (fun _=>[])
  (fun i E N=>i<=T.length/\N=PH.mt) (fun i=>T.length-i) 0 ⟨oV,rfl⟩ ?_
 rintro J i K O R C ⟨hi,rfl⟩;by_cases z:i+1<T.length
 ·refine G.lT (i+1:Nat) T.length ?_;have g:T[i]?=some T[i]:=As5 oV;have m:T[i+1]?=some T[i+1]:=As5 z;obtain⟨n,t,rfl,H⟩:=Ad.at' (h.mono C) (j:=i) (e:=Bj T[i]) (by simp[g]);obtain⟨_,_,F,I⟩:=Ad.at' (h.mono C) (j:=i+1) (e:=Bj T[i+1]) (by simp[m]);cases F;refine G.s (i+1:Nat) 1 i<|G.a n t T.length c i 3 oV<|G.lU (some 3) n (t+i*3) (Bj T[i]) H<|G.a n t T.length c (i+1) 3 oV<|G.lU (some 3) n (t+(i+1)*3) (Bj T[i+1]) I<|G.call0 fid [Bj T[i],Bj T[i+1]] kV d (L i _ _ g m O) ?_;rintro V U l2 rfl;exact G.p (i+1:Nat) 1 (i+1+1:Nat)<|G.b (K (i+1) _ _ _ cV (C.trans l2) ⟨oV,rfl⟩ oV)
 exact G.lF (i+1:Nat) T.length<|G.r (.bool true) ⟨rfl,rfl⟩
def Ao5 {u:PH}{v:Value}{T:List ((Par×Par)×Rat)}{fid:Nat}(h:Ad u v 5 (T.map Dy))(N:T.length<=1000000)
 (d:∀ args w,(callFunc fid args).run prog w=.ok (.enter fid args) w) (H:∀ p∈T,∀ t,PH.le u t->Fn0 prog fid [Dy p] t fun v _=>v=.bool false) :
 Fn0 prog 196 [v,.func (.func fid) #[] #[]] u fun L _=>L=.int .i64 (-1):=by
 obtain⟨a,c,rfl⟩:=h.opn;rw[Ata]at h⊢;refine Fn0.o func196<|G.l (ι:=Nat) (fun i=>[(0,sV a T.length c),(1,.v (.func (.func fid) #[] #[])),(7,iV T.length),(8,iV i)]) (fun _=>[])
  (fun i t I=>i<=T.length/\I=PH.mt) (fun i=>T.length-i) 0 ⟨oV,rfl⟩ ?_
 rintro J i F K O n ⟨hi,rfl⟩;by_cases g:i<T.length
 ·refine G.lT i T.length ?_;have m:T[i]?=some T[i]:=As5 g;obtain⟨z,C,rfl,E⟩:=Ad.at' (h.mono n) (j:=i) (e:=Dy T[i]) (by simp[m]);refine G.a z C T.length c i 5 oV<|G.lU (some 5) z (C+i*5) (Dy T[i]) E<|G.call0 fid [Dy T[i]] kV d (H T[i] (Ath g) K n) ?_;rintro Q P l2 rfl;exact G.i i<|G.b (F (i+1) _ _ _ cV (n.trans l2) ⟨oV,rfl⟩ oV)
 obtain rfl:i=T.length:=oV;exact G.lF T.length T.length<|G.r (.int .i64 (-1)) ⟨rfl,rfl⟩
def Aev {u:PH}{v:Value}{T:List ((Par×Par)×Rat)}{fid:Nat}(h:Ad u v 5 (T.map Dy))(j:T.length<=1000000)
 (d:∀ args w,(callFunc fid args).run prog w=.ok (.enter fid args) w) (g:∀ p∈T,∀ e,PH.le u e->Fn0 prog fid [Dy p] e fun v _=>v=.bool false) :
 Fn0 prog 148 [v,.func (.func fid) #[] #[]] u fun m _=>m=.bool false:=by
 refine Fn0.o func148<|G.c call196 (Ao5 h j d g) ?_;rintro z t n rfl;exact G.hF (-1) 0<|G.r (.bool false) ⟨rfl,rfl⟩
def Aa2 {u:PH}{v:Value}{T:List ((Par×Par)×Rat)}{fid:Nat}(h:Ad u v 5 (T.map Dy))(Q:T.length<=1000000)
 (d:∀ args w,(callFunc fid args).run prog w=.ok (.enter fid args) w) (L:∀ (i:Nat) x y,T[i]?=some x->T[i+1]?=some y->∀ E,Fn0 prog fid [Dy x,Dy y] E fun v _=>v=.bool true) :
 Fn0 prog 153 [v,.func (.func fid) #[] #[]] u fun P _=>P=.bool true:=by
 obtain⟨a,c,rfl⟩:=h.opn;rw[Ata]at h⊢;refine Fn0.o func153<|G.l (ι:=Nat) (fun i=>[(0,sV a T.length c),(1,.v (.func (.func fid) #[] #[])),(5,iV (i+1:Nat))]) (fun _=>[])
  (fun i E N=>i<=T.length/\N=PH.mt) (fun i=>T.length-i) 0 ⟨oV,rfl⟩ ?_
 rintro J i K O R C ⟨hi,rfl⟩;by_cases z:i+1<T.length
 ·refine G.lT (i+1:Nat) T.length ?_;have g:T[i]?=some T[i]:=As5 oV;have m:T[i+1]?=some T[i+1]:=As5 z;obtain⟨n,t,rfl,H⟩:=Ad.at' (h.mono C) (j:=i) (e:=Dy T[i]) (by simp[g]);obtain⟨_,_,F,I⟩:=Ad.at' (h.mono C) (j:=i+1) (e:=Dy T[i+1]) (by simp[m]);cases F;refine G.s (i+1:Nat) 1 i<|G.a n t T.length c i 5 oV<|G.lU (some 5) n (t+i*5) (Dy T[i]) H<|G.a n t T.length c (i+1) 5 oV<|G.lU (some 5) n (t+(i+1)*5) (Dy T[i+1]) I<|G.call0 fid [Dy T[i],Dy T[i+1]] kV d (L i _ _ g m O) ?_;rintro V U l2 rfl;exact G.p (i+1:Nat) 1 (i+1+1:Nat)<|G.b (K (i+1) _ _ _ cV (C.trans l2) ⟨oV,rfl⟩ oV)
 exact G.lF (i+1:Nat) T.length<|G.r (.bool true) ⟨rfl,rfl⟩
def Wq {κ:Type}{c:κ->κ->Int}{T:List (κ×Rat)}(h:Hk c (T.map (·.1))){x y:κ×Rat}(g:T[i]?=some x)(j:T[i+1]?=some y):c x.1 y.1<0:=by
 obtain⟨d,rfl⟩:=Atc.1 g;obtain⟨e,rfl⟩:=Atc.1 j;have:=Avr.1 h i (i+1) (by simpa using d) (by simpa using e) oV;simpa using this
def Art {v:Value}{F:CF}{K:Nat}(O:Lp u v F K)(m:CFS F)(I:CFV F)(Y:K<=1000000):Fn0 prog 89 [v] u fun R _=>R=.bool true:=by
 obtain⟨T,Q,U,W,V,X,rfl,hT,E,C,z,kT,Z⟩:=O;refine Fn0.o func89<|G.c call47 (Fp (SB.tx m.c)) ?_;rintro v1 u1 g rfl;refine G.c call90 (Acn (fid:=145) (hT.mono g) oV call145 (fun p hp n _=>by
  obtain⟨d,e⟩:=C.val p hp;exact Asr (I.s _ (by rw[<-d];exact e)) (SB.tx (by rw[d];exact m.s _)) e)) ?_
 rintro v2 u2 l2 rfl;refine G.c call148 (Aev (fid:=149) (E.mono (g.trans l2)) oV call149 (fun p hp n _=>by
  obtain⟨d,e⟩:=z.val p hp;obtain⟨J,L,N⟩:=I.t p.1 (by rw[<-d];exact e);exact As1 J L N (SB.tx (by rw[d];exact m.t _)) e)) ?_
 rintro v3 u3 H rfl;refine G.c call151 (Abb (fid:=152) (hT.mono ((g.trans l2).trans H)) oV call152 (fun i x y h j n=>Aqu (Wq C.srt h j))) ?_;rintro v4 u4 P rfl;refine G.c call153 (Aa2 (fid:=154) (E.mono (((g.trans l2).trans H).trans P)) oV call154 (fun i x y h j n=>Aqk (Wq z.srt h j))) ?_;rintro v5 u5 l5 rfl;exact G.r (.bool true) ⟨rfl,rfl⟩
end
def Ar1 (u:PH)(v:Value)(F:CF)(K:Nat):Prop:=∃ r,v=.tuple #[r,.int .i64 0]/\Lp u r F K
def Lp.opn {u:PH}{v:Value}{F:CF}{K:Nat}(h:Lp u v F K):∃ d m g e n j,v=.agg #[.string (mkS (Ap F.c)),.slice d m g,.slice e n j]:=by
 obtain⟨T,Q,d,g,e,j,rfl,_⟩:=h;exact⟨_,_,_,_,_,_,rfl⟩
def CF.num (k:Rat):CF:=⟨k,fun _=>0,fun _=>0⟩
section
variable {b c n:Nat}{x:List UInt8}
section rules
variable [Ca] {P:Program} [A7 P] {fn:Func} {Post:Bz} {st:List KI×S} {u m:PH}
def FnK (P:Program)(f:FuncId)(args:List Value)(u m:PH)(R:Value->PH->Prop):Prop:=Aj P f args u m fun v u' m'=>m'=m/\R v u'
def FnK.of {R:Value->PH->Prop}{f:FuncId}{args:List Value}(e:P.funcs[f]?=some fn)(d:fn.body.isSome=true)(g:Nat.ble args.length fn.ntmps=true)(h:G P fn ⟨fun v t j=>j=m/\R v t,m⟩ (st0 fn args) u m):FnK P f args u m R:=Aj.of e d g h
def G.callK (f:Nat)(args:List Value){R:Value->PH->Prop}(h:Al P (adv P st)=.call f args)(Q:∀ args w,(callFunc f args).run P w=.ok (.enter f args) w)(c:FnK P f args u m R)
 (k:∀ v d,PH.le u d->R v d->G P fn Post (nx (adv P st) v) d m):G P fn Post st u m:=by
 refine G.big (K:=fun v d t=>t=m/\R v d) h mV En (.inl fun v d t N=>by rw[N.1];exact fun g o U=>U) (fun I o j w z=>?_) (fun v d t J L=>?_)
 ·refine J9 j Q w _ (Calls.mono (c w z) fun e w' T=>?_);obtain⟨v,d,t,C,E,F,H⟩:=T;exact⟨v,C,d,t,E,F,H⟩
 obtain⟨rfl,O⟩:=L;exact k v d J O
end rules
section
def Am7 {u m:PH}(L:List (List UInt8))(H:n<=L.length)(F:n<=1000000)(h:∀ j s,L[j]?=some s->ElP m b (0+j*1) (.string (mkS s)))(z:∀ j s,j<n->L[j]?=some s->s≠x) :
 FnK prog 252 [.slice (some ⟨b,0,none⟩) n c,.string (mkS x)] u m fun v _=>v=.int .i64 (-1):=by
 refine FnK.of func252 kV kV<|G.l (ι:=Nat) (fun i=>[(0,sV (some ⟨b,0,none⟩) n c),(1,tV x),(7,iV n),(8,iV i)]) (fun _=>[])
  (fun i K E=>i<=n/\E=m) (fun i=>n-i) 0 ⟨oV,rfl⟩ ?_
 rintro J i t N I C ⟨hi,rfl⟩;by_cases g:i<n
 ·refine G.lT i n ?_;have d:L[i]?=some L[i]:=As5 oV;exact G.a b 0 n c i 1 g<|G.lM none b (0+i*1) (.string (mkS L[i])) (h i _ d)<|G.w x L[i] (fun e=>z i _ g d e.symm)<|G.i i<|G.b (t (i+1) _ _ _ cV C ⟨oV,rfl⟩ oV)
 obtain rfl:i=n:=oV;exact G.lF i i<|G.r (.int .i64 (-1)) ⟨rfl,rfl⟩
def Acs {u m:PH}(L:List (List UInt8))(g:n<=L.length)(e:n<=1000000)(d:∀ j s,L[j]?=some s->ElP m b (0+j*1) (.string (mkS s)))(h:∀ j s,j<n->L[j]?=some s->s≠x) :
 FnK prog 223 [.slice (some ⟨b,0,none⟩) n c,.string (mkS x)] u m fun v _=>v=.bool false:=by
 refine FnK.of func223 kV kV<|G.callK _ _ kV call252 (Am7 (c:=c) L g e d h) ?_;rintro C z t rfl;exact G.hF (-1) 0<|G.r (.bool false) ⟨rfl,rfl⟩
structure Oy (L:List (List UInt8)):Prop where
 word:∀ s∈L,Hl s=true
 nodup:L.Nodup
def Aka {u m:PH}{b k c:Nat}{L:List (List UInt8)}(h:Oy L)(J:L.length<=1000)(H:L.length<=c)(g:L[k]?=some x)(t:∀ j s,L[j]?=some s->ElP m b (0+j*1) (.string (mkS s))) :
 FnK prog 191 [.slice (some ⟨b,0,none⟩) L.length c,.int .i64 k] u m fun v _=>v=.int .i64 0:=by
 obtain⟨d,E⟩:=Atc.1 g;refine FnK.of func191 kV kV<|G.a b 0 L.length c k 1 d<|G.lM none b (0+k*1) (.string (mkS x)) (t k x g)<|G.c call195 (Apq (h.word x (Ato g))) ?_;rintro Q N K rfl;refine G.sliceTo 1 (some ⟨b,0,none⟩) L.length c k kV oV<|G.a b 0 L.length c k 1 d<|G.lM none b (0+k*1) (.string (mkS x)) (t k x g)<|G.callK _ _ kV call223 (Acs (n:=k) (c:=c) (x:=x) L oV oV t fun j s I F e=>?_) ?_
 ·obtain⟨z,C⟩:=Atc.1 F;have:=(A08 (h₀:=z) (h₁:=d) h.nodup).1 (by rw[C,E,e]);omega
 rintro R O l2 rfl;exact G.r (.int .i64 0) ⟨rfl,rfl⟩
def Ej (a:List UInt8×Nat):Value:=.agg #[.string (mkS a.1),.int .i64 a.2]
def nmV (s:List UInt8):Value:=.string (mkS s)
def Kq (L:List (List UInt8)):Ax 1 (L.map nmV):=by
 intro e d;obtain⟨s,_,rfl⟩:=Ate.1 d;exact⟨rfl,Atx.1 rfl⟩
end
end
structure Alv (T:List (List UInt8×Nat)):Prop where
 names:Oy (T.map (·.1))
 kind:∀ a∈T,1<=a.2/\a.2<=3
def Oy.take {L:List (List UInt8)}(h:Oy L)(k:Nat):Oy (L.take k):=⟨fun s d=>h.word s (Avd d),h.nodup.sublist (List.take_sublist _ _)⟩
def getElem?_snoc_last {α:Type}(l:List α)(x:α):(l++[x])[l.length]?=some x:=mV
def Zs {u:PH}{v w x y:Value}{T:List (List UInt8×Nat)}(h:Ad u v 2 (T.map Ej))(ok:Alv T)(hl:T.length<=1000)(X:∃ a n c,w=.slice a n c)(Y:∃ a n c,x=.slice a n c)(Z:∃ z:Int,y=.int .i64 z) :
 Fn0 prog 142 [.agg #[v,w,x,y]] u fun r _=>r=.int .i64 0:=by
 obtain⟨a,c,rfl⟩:=h.opn;obtain⟨wa,wn,wc,rfl⟩:=X;obtain⟨xa,xn,xc,rfl⟩:=Y;obtain⟨z,rfl⟩:=Z;rw[Ata]at h⊢;refine Fn0.o func142<|G.l (ι:=Nat×(Option Addr×Nat×Nat)) (fun i=>[(3,sV i.2.1 i.2.2.1 i.2.2.2),(8,sV a T.length c),(9,iV T.length),(10,iV i.1)]) (fun _=>[])
  (fun i u' m'=>i.1<=T.length/\Ae PH.mt m' (.slice i.2.1 i.2.2.1 i.2.2.2) 9 1 (((T.map (·.1)).take i.1).map nmV)) (fun i=>T.length-i.1) (0,(none,0,0)) ⟨mV,Ae.nil _ _ _⟩ ?_
 rintro J ⟨i,na,nn,nc⟩ Q u1 m1 R ⟨hi,H⟩;simp only at hi H Q;by_cases E:i<T.length
 ·refine G.lT i T.length ?_;have F:T[i]?=some T[i]:=As5 E;have I:=ok.kind T[i] (Ath E);have m:((T.map (·.1)).take (i+1))=(T.map (·.1)).take i++[T[i].1]:=by
   rw[At0,Aty,F];rfl
  have d:=ok.names.take (i+1);rw[m]at d;have C:((T.map (·.1)).take i).length=i:=gV;generalize hL:(T.map (·.1)).take i=L at H m d C;obtain⟨N,U,rfl,P⟩:=Ad.at' (h.mono R) (j:=i) (e:=Ej T[i]) (by simp[F]);generalize T[i]=q at P I m d;refine G.a N U T.length c i 2 E<|G.lU (some 2) N (U+i*2) (.agg #[.string (mkS q.1),.int .i64 q.2]) P<|G.B 9 1 16 (.string (mkS [])) [.string (mkS q.1)] (Kq [q.1]) ?_;intro g2 u2 l2 V;refine G.k 9 1 16 (.string (mkS [])) PH.mt (L.map nmV) [.string (mkS q.1)] (.slice na nn nc) g2 0 1 1 H V (Kq [q.1]) ?_;intro v3 m3 g;rw[show L.map nmV++[.string (mkS q.1)]=(L++[q.1]).map nmV by rw[Atk];rfl]at g;obtain⟨K,O,rfl⟩:=g.ptr mV;have t:=g.cap;rw[Ata]at g t⊢;refine G.callK _ _ kV call191 (Aka (b:=K) (k:=i) (c:=O) (x:=q.1) (L:=L++[q.1]) d gV t (by rw[<-C];exact getElem?_snoc_last L q.1) fun j s W=>g.el (by rw[Aty,W];rfl)) ?_;rintro v4 u4 l4 rfl;exact G.nF 0 0<|G.lF q.2 1<|G.gF q.2 3<|G.i i<|G.b (Q (i+1,(some ⟨K,0,none⟩,(L++[q.1]).length,O)) _ _ _ cV ((R.trans l2).trans l4) ⟨dV,by dsimp only;rw[m];exact g⟩ dV)
 obtain rfl:i=T.length:=oV;exact G.lF T.length T.length<|G.pastI<|G.drop PH.mt kV (PH.mt_le _)<|G.r (.int .i64 0) ⟨rfl,rfl⟩
section
variable {α:Type}
abbrev Aq:Type:=Nat×Nat×Nat
def Ce (f:Aq):Value:=.agg #[.int .i64 f.1,.int .i64 f.2.1,.int .i64 f.2.2]
def Akb {α:Type}(p:α->Bool)(T:List α):Int:=match T.findIdx? p with|some k=>(k:Int)|none=>-1
def An5 {p:α->Bool}{T:List α}{i:Nat}(hi:i<T.length)(h:p T[i]=true)(h0:∀ j (d:j<i),p (T[j]'oV)=false):Akb p T=(i:Int):=by
 have:T.findIdx? p=some i:=Axz.2 ⟨hi,h,fun j d=>by simp[h0 j d]⟩;unfold Akb;rw[this]
def Ago {p:α->Bool}{T:List α}(h0:∀ x∈T,p x=false):Akb p T = -1:=by
 have:T.findIdx? p=none:=List.findIdx?_eq_none_iff.2 h0;unfold Akb;rw[this]
def Anr {u m:PH}{v cap:Value}{T:List Aq}{fid:Nat}(p:Aq->Bool)(h:Ad u v 3 (T.map Ce))(Q:T.length<=1000000)
 (g:∀ args w,(callFunc fid args).run prog w=.ok (.enter fid args) w) (K:∀ f∈T,∀ C,PH.le u C->FnK prog fid [Ce f,cap] C m fun v _=>v=.bool (p f)) :
 FnK prog 225 [v,.func (.func fid) #[] #[cap]] u m fun P _=>P=.int .i64 (Akb p T):=by
 obtain⟨a,c,rfl⟩:=h.opn;rw[Ata]at h⊢;refine FnK.of func225 kV kV<|G.l (ι:=Nat) (fun i=>[(0,sV a T.length c),(1,.v (.func (.func fid) #[] #[cap])),(7,iV T.length),(8,iV i)]) (fun _=>[])
  (fun i C N=>i<=T.length/\(∀ j (d:j<T.length),j<i->p (T[j]'d)=false)/\N=m) (fun i=>T.length-i) 0 ⟨oV,fun j d h=>oV,rfl⟩ ?_
 rintro J i I O R z ⟨hi,h0,rfl⟩;by_cases n:i<T.length
 ·refine G.lT i T.length ?_;have t:T[i]?=some T[i]:=As5 n;obtain⟨E,F,rfl,H⟩:=Ad.at' (h.mono z) (j:=i) (e:=Ce T[i]) (by simp[t]);refine G.a E F T.length c i 3 oV<|G.lU (some 3) E (F+i*3) (Ce T[i]) H<|G.callK fid [Ce T[i],cap] kV g (K T[i] (Ath n) O z) ?_;rintro V U l2 rfl;cases hp:p T[i] with
  |true =>
   rw[An5 n hp fun j d=>h0 j oV d];exact G.r (.int .i64 i) ⟨rfl,rfl⟩
  |false =>
   refine G.i i ?_;exact G.b (I (i+1) _ _ _ cV (z.trans l2) ⟨oV,fun j d h=>by
    rcases (by omega:j<i\/j=i) with e|rfl
    ·exact h0 j d e
    exact hp,rfl⟩ oV)
 obtain rfl:i=T.length:=oV;refine G.lF T.length T.length ?_;rw[Ago fun x L=>by obtain⟨j,d,rfl⟩:=Avy L;exact h0 j d d];exact G.r (.int .i64 (-1)) ⟨rfl,rfl⟩
def K1 {u m:PH}{v cap:Value}{T:List Aq}{fid:Nat}(h:Ad u v 3 (T.map Ce))(j:T.length<=1000000)
 (d:∀ args w,(callFunc fid args).run prog w=.ok (.enter fid args) w) (g:∀ f∈T,∀ e,PH.le u e->FnK prog fid [Ce f,cap] e m fun v _=>v=.bool false) :
 FnK prog 193 [v,.func (.func fid) #[] #[cap]] u m fun n _=>n=.bool false:=by
 obtain⟨a,c,rfl⟩:=h.opn;refine FnK.of func193 kV kV<|G.callK _ _ kV call225 (Anr (cap:=cap) (fun _=>false) h j d g) ?_;rintro C z t rfl;rw[Ago fun x _=>rfl];exact G.hF (-1) 0<|G.r (.bool false) ⟨rfl,rfl⟩
def Tf {u m:PH}{f g:Aq}{b:Nat}(e:ElP m b 0 (Ce g))(h:f.1≠g.1):FnK prog 194 [Ce f,.pointer (some ⟨b,0,none⟩)] u m fun v _=>v=.bool false:=by
 refine FnK.of func194 kV kV<|G.f 82 b 0 0 0<|G.lM none b (0+0) (.int .i64 g.1) (fun i x d=>?_) ?_
 ·have:i=0/\x=.int .i64 g.1:=by
   match i,d with
   |0,d=>exact⟨rfl,by simpa[Value.cells] using d.symm⟩
   |i+1,d=>simp[Value.cells]at d
  obtain⟨rfl,rfl⟩:=this;exact e 0 _ rfl
 exact G.eF f.1 g.1<|G.r (.bool false) ⟨rfl,rfl⟩
structure Ef (T:List (List UInt8×Nat))(F:List Aq)(lab:Int):Prop where
 ok:∀ f∈F,∃ n k,T[f.1]?=some (n,k)/\((f.2.1=1/\k=2/\f.2.2<=1)\/(f.2.1=2/\k=3/\f.2.2=0))/\(f.1:Int)≠lab
 nodup:(F.map (·.1)).Nodup
end
section
variable {b:Nat}{m u:PH}
def Ad.cap {a:Option Addr}{n c sz:Nat}{es:List Value}(h:Ad u (.slice a n c) sz es):es.length<=c:=by
 obtain⟨_,_,e,d,_⟩:=h;cases e;exact d
def Jy {b off:Nat}{q:List UInt8×Nat}(h:ElP u b off (Ej q)):ElP u b (off+1) (.int .i64 q.2):=fun i x d=>by
 match i,d with
 |0,d =>
  have:x=.int .i64 q.2:=by simpa[Value.cells] using d.symm
  subst this;exact h 1 _ rfl
 |i+1,d=>simp[Value.cells]at d
def Mu {t:TypeId}{xs:List Value}{e:Value}(g:e.cells=xs.toArray):ElP (m.upd b (.cells xs.toArray t (0,0))) b 0 e:=fun i x d=>by
 refine⟨_,_,_,Ab _ _ _,?_⟩;rw[g]at d;simpa using d
def Aeo {g:Aq}(e:ElP m b 0 (Ce g)):ElP m b (0+0) (.int .i64 g.1):=fun i x d=>by
 match i,d with
 |0,d =>
  have:x=.int .i64 g.1:=by simpa[Value.cells] using d.symm
  subst this;exact e 0 _ rfl
 |i+1,d=>simp[Value.cells]at d
def Ag7 {v w x:Value}{T:List (List UInt8×Nat)}{F:List Aq}{lab:Int}(h:Ad u v 2 (T.map Ej))(hF:Ad u x 3 (F.map Ce))(ok:Ef T F lab)(hl:T.length<=1000)(a1:F.length<=1000)(hw:∃ a n c,w=.slice a n c) :
 Fn0 prog 144 [.agg #[v,w,x,.int .i64 lab]] u fun r _=>r=.int .i64 0:=by
 obtain⟨a,c,rfl⟩:=h.opn;obtain⟨a',c',rfl⟩:=hF.opn;obtain⟨wa,wn,wc,rfl⟩:=hw;have N:=hF.cap;rw[Ata]at h hF N⊢;rw[Ata];refine Fn0.o func144<|G.l (ι:=Nat) (fun i=>[(1,.p 0 0),(9,sV a' F.length c'),(10,iV F.length),(11,iV i)]) (fun _=>[(0,⟨30,[sV a T.length c,sV wa wn wc,sV a' F.length c',iV lab]⟩)])
  (fun i Z m'=>i<=F.length/\m'=PH.mt) (fun i=>F.length-i) 0 ⟨oV,rfl⟩ ?_
 rintro J i U u1 m1 K ⟨hi,rfl⟩;by_cases I:i<F.length
 ·refine G.lT i F.length ?_;have V:F[i]?=some F[i]:=As5 I;obtain⟨n,k,W,C,t⟩:=ok.ok F[i] (Ath I);have d:∀ f∈F.take i,f.1≠(F[i]).1:=by
   intro f hf;obtain⟨j,hj,rfl⟩:=Avy hf;rw[Atm]at hj;rw[Azn];intro e;have:=(A08 (xs:=F.map (·.1)) (h₀:=by rw[Ata];omega) (h₁:=by rw[Ata];omega) (i:=j) (j:=i) ok.nodup).1 (by rw[Awp,Awp];exact e);omega
  obtain⟨L,Q,rfl,ea⟩:=Ad.at' (hF.mono K) (j:=i) (e:=Ce F[i]) (by simp[V]);have E:=(hF.mono K).take' i (by rw[Ata];omega);rw[<-Ayy]at E;have a2:(F.take i).length=i:=by rw[Atm];omega
  generalize F[i]=f at ea W C t d;obtain⟨X,a0⟩:=Atc.1 W;obtain⟨R,Y,rfl,eb⟩:=Ad.at' (h.mono K) (j:=f.1) (e:=Ej (n,k)) (by simp[W]);refine G.a L Q F.length c' i 3 I<|G.lU (some 3) L (Q+i*3) (.agg #[.int .i64 f.1,.int .i64 f.2.1,.int .i64 f.2.2]) ea<|G.lF f.1 0<|G.hF f.1 T.length<|G.a R Y T.length c f.1 2 X<|G.f 77 R (Y+f.1*2) 1 1<|G.lU none R (Y+f.1*2+1) (.int .i64 k) (Jy eb) ?_;rcases C with ⟨k1,k2,k3⟩|⟨k1,k2,k3⟩
  ·refine G.eT f.2.1 1<|G.eT k 2 ?_;by_cases k0:f.2.2=0
   ·refine G.eT f.2.2 0<|G.eF f.2.1 2<|G.pastI<|G.pub 3003 82 [.int .i64 f.1,.int .i64 f.2.1,.int .i64 f.2.2] kV kV ?_;intro H P O;refine G.f 82 H 0 0 0<|G.lM none H (0+0) (.int .i64 f.1) (Aeo (g:=f) (Mu rfl))<|G.eF' f.1 lab t<|G.sliceTo 3 (some ⟨L,Q,none⟩) F.length c' i kV oV<|G.callK _ _ kV call193 (K1 E (by rw[Atm];omega) call194 fun f' z Z _=>Tf (g:=f) (Mu rfl) (d f' z)) ?_;rintro v2 u2 l2 rfl;exact G.drop PH.mt kV (PH.mt_le _)<|G.i i<|G.b (U (i+1) _ _ _ cV (K.trans l2) ⟨oV,rfl⟩ oV)
   refine G.eF f.2.2 0<|G.eT f.2.2 1<|G.eF f.2.1 2<|G.pastI<|G.pub 3003 82 [.int .i64 f.1,.int .i64 f.2.1,.int .i64 f.2.2] kV kV ?_;intro H P O;refine G.f 82 H 0 0 0<|G.lM none H (0+0) (.int .i64 f.1) (Aeo (g:=f) (Mu rfl))<|G.eF' f.1 lab t<|G.sliceTo 3 (some ⟨L,Q,none⟩) F.length c' i kV oV<|G.callK _ _ kV call193 (K1 E (by rw[Atm];omega) call194 fun f' z Z _=>Tf (g:=f) (Mu rfl) (d f' z)) ?_;rintro v2 u2 l2 rfl;exact G.drop PH.mt kV (PH.mt_le _)<|G.i i<|G.b (U (i+1) _ _ _ cV (K.trans l2) ⟨oV,rfl⟩ oV)
  refine G.eF f.2.1 1<|G.eT f.2.1 2<|G.eT k 3<|G.eT f.2.2 0<|G.pastI<|G.pub 3003 82 [.int .i64 f.1,.int .i64 f.2.1,.int .i64 f.2.2] kV kV ?_;intro H P O;refine G.f 82 H 0 0 0<|G.lM none H (0+0) (.int .i64 f.1) (Aeo (g:=f) (Mu rfl))<|G.eF' f.1 lab t<|G.sliceTo 3 (some ⟨L,Q,none⟩) F.length c' i kV oV<|G.callK _ _ kV call193 (K1 E (by rw[Atm];omega) call194 fun f' z Z _=>Tf (g:=f) (Mu rfl) (d f' z)) ?_;rintro v2 u2 l2 rfl;exact G.drop PH.mt kV (PH.mt_le _)<|G.i i<|G.b (U (i+1) _ _ _ cV (K.trans l2) ⟨oV,rfl⟩ oV)
 obtain rfl:i=F.length:=oV;exact G.lF F.length F.length<|G.r (.int .i64 0) ⟨rfl,rfl⟩
end
section
variable {L:List Bool}{b c n:Nat}{m m0 u:PH}
def And (F:n=L.length)(E:n<=1000000)(g:∀ (j:Nat) s,L[j]?=some s->ElP m b (0+j*1) (.bool s))(t:∀ s∈L,s=true) :
 FnK prog 224 [.slice (some ⟨b,0,none⟩) n c,.bool false] u m fun v _=>v=.int .i64 (-1):=by
 refine FnK.of func224 kV kV<|G.l (ι:=Nat) (fun i=>[(0,sV (some ⟨b,0,none⟩) n c),(1,bV false),(7,iV n),(8,iV i)]) (fun _=>[])
  (fun i I C=>i<=n/\C=m) (fun i=>n-i) 0 ⟨oV,rfl⟩ ?_
 rintro J i h K H z ⟨hi,rfl⟩;by_cases e:i<n
 ·refine G.lT i n ?_;have d:L[i]?=some true:=by
   rw[As5 oV];exact congrArg some (t _ (Ath oV))
  exact G.a b 0 n c i 1 e<|G.lM none b (0+i*1) (.bool true) (g i _ d)<|G.eqB false true kV<|G.i i<|G.b (h (i+1) _ _ _ cV z ⟨oV,rfl⟩ oV)
 obtain rfl:i=n:=oV;exact G.lF i i<|G.r (.int .i64 (-1)) ⟨rfl,rfl⟩
def Ady (g:n=L.length)(e:n<=1000000)(d:∀ (j:Nat) s,L[j]?=some s->ElP m b (0+j*1) (.bool s))(h:∀ s∈L,s=true) :
 FnK prog 192 [.slice (some ⟨b,0,none⟩) n c,.bool false] u m fun v _=>v=.bool false:=by
 refine FnK.of func192 kV kV<|G.callK _ _ kV call224 (And (c:=c) (L:=L) g e d h) ?_;rintro C z t rfl;exact G.hF (-1) 0<|G.r (.bool false) ⟨rfl,rfl⟩
abbrev Ch:Type:=List UInt8×List Nat×(Option Addr×Nat)
def Gs (r:Ch):Value:=.agg #[.string (mkS r.1),.slice r.2.2.1 r.2.1.length r.2.2.2]
structure Nj (u:PH)(n:Nat)(R:List Ch):Prop where
 names:Oy (R.map (·.1))
 ne:∀ r∈R,r.2.1≠[]
 lt:∀ r∈R,∀ a∈r.2.1,a<n
 len:∀ r∈R,r.2.1.length<=1000
 asc:∀ r∈R,∀ (k:Nat) x y,r.2.1[k]?=some x->r.2.1[k+1]?=some y->x<y
 all:∀ a<n,∃ r∈R,a∈r.2.1
 at':∀ r∈R,Ad u (.slice r.2.2.1 r.2.1.length r.2.2.2) 1 (Ah r.2.1)
def Amn (g n:Nat)(L:List Bool):Arr:=⟨.slice (some ⟨g,0,none⟩) n n,4,1,L.map .bool⟩
def Aed (a:Option Addr)(c:Nat)(L:List (List UInt8)):Arr:=⟨.slice a L.length c,9,1,L.map nmV⟩
def Afj {g n:Nat}:(Amn g n L).At m0 m=Ae m0 m (.slice (some ⟨g,0,none⟩) n n) 4 1 (L.map .bool):=rfl
def Agp {a:Option Addr}{L:List (List UInt8)}:(Aed a c L).At m0 m=Ae m0 m (.slice a L.length c) 9 1 (L.map nmV):=rfl
def Ov (L:List Bool)(a:Nat):(L.map Value.bool).set a (.bool true)=(L.set a true).map Value.bool:=by rw[Axb]
def Ac7 {w x y:Value}{a0:Option Addr}{n c0:Nat}{R:List Ch}(hR:Ad u w 2 (R.map Gs))(ok:Nj u n R)(hn:n<=1000)(aw:0<n)(hl:R.length<=1000)(hx:∃ a n c,x=.slice a n c)(hy:∃ z:Int,y=.int .i64 z) :
 Fn0 prog 143 [.agg #[.slice a0 n c0,w,x,y]] u fun r _=>r=.int .i64 0:=by
 obtain⟨a,c,rfl⟩:=hR.opn;obtain⟨xa,xn,xc,rfl⟩:=hx;obtain⟨z,rfl⟩:=hy;rw[Ata]at hR⊢;refine Fn0.o func143<|G.make 4 1 1 (.bool false) n kV rfl rfl oV oV oV ?_;rintro v1 m1 ae ⟨ad,rfl⟩;obtain⟨g,rfl,_⟩:=ae.some';refine G.l (ι:=Nat×List Bool×List (List UInt8)×(Option Addr×Nat)) (fun i=>[(3,sV i.2.2.2.1 i.2.2.1.length i.2.2.2.2),(4,sV (some ⟨g,0,none⟩) n n),(16,sV a R.length c),(17,iV R.length),(18,iV i.1)]) (fun _=>[])
  (fun i u' m'=>i.1<=R.length/\i.2.1.length=n/\i.2.2.1=(R.map (·.1)).take i.1/\(∀ r∈R.take i.1,∀ q∈r.2.1,i.2.1[q]?=some true)/\Bag m' [Amn g n i.2.1,Aed i.2.2.2.1 i.2.2.2.2 i.2.2.1]) (fun i=>R.length-i.1) (0,List.replicate n false,[],(none,0))
  ⟨mV,mV,mV,mV,⟨PH.mt,by rw[Afj,Aw5];exact ae,PH.mt,Ae.nil _ _ _,trivial⟩⟩ ?_
 rintro J ⟨i,L,N,⟨na,nc⟩⟩ hJ u2 m2 l2 ⟨hi,hL,hN,K,O⟩;simp only at hi hL hN K O hJ;by_cases a8:i<R.length
 ·refine G.lT i R.length ?_;have a7:R[i]?=some R[i]:=As5 a8;have t:R[i]∈R:=Ath a8;have Y:(R.map (·.1)).take (i+1)=N++[R[i].1]:=by
   rw[At0,Aty,a7,hN];rfl
  have a4:R.take (i+1)=R.take i++[R[i]]:=by
   rw[At0,a7];rfl
  have h:=ok.names.take (i+1);rw[Y]at h;have ai:N.length=i:=by rw[hN];simp;omega
  obtain⟨ba,oa,rfl,ea⟩:=Ad.at' (hR.mono l2) (j:=i) (e:=Gs R[i]) (by simp[a7]);generalize R[i]=q at ea t Y a4 h;obtain⟨P,d,qa,qc⟩:=q;have ar:d≠[]:=ok.ne _ t;have aj:∀ p∈d,p<n:=ok.lt _ t;have ay:d.length<=1000:=ok.len _ t;have ah:∀ (k:Nat) x y,d[k]?=some x->d[k+1]?=some y->x<y:=ok.asc _ t;have an:Ad u2 (.slice qa d.length qc) 1 (Ah d):=(ok.at' _ t).mono l2;have ax:0<d.length:=Avq.2 ar;simp only at Y h;refine G.a ba oa R.length c i 2 a8<|G.lU (some 2) ba (oa+i*2) (.agg #[.string (mkS P),.slice qa d.length qc]) ea<|G.B 9 1 16 (.string (mkS [])) [.string (mkS P)] (Kq [P]) ?_;intro g3 u3 l3 e3;obtain⟨mm,aa,a3⟩:=O.focus 1 rfl;rw[Agp]at aa;refine G.k 9 1 16 (.string (mkS [])) mm (N.map nmV) [.string (mkS P)] (.slice na N.length nc) g3 0 1 1 aa e3 (Kq [P]) ?_;intro v4 m4 C;rw[show N.map nmV++[.string (mkS P)]=(N++[P]).map nmV by rw[Atk];rfl]at C;obtain⟨b4,c4,rfl⟩:=C.ptr mV;have T:=C.cap;rw[Ata]at C T⊢;have F:=a3 (Aed (some ⟨b4,0,none⟩) c4 (N++[P])) m4 C;simp only[Avi,Avj]at F;refine G.callK _ _ kV call191 (Aka (b:=b4) (k:=i) (c:=c4) (x:=P) (L:=N++[P]) h gV T (by rw[<-ai];exact getElem?_snoc_last N P) fun j s hs=>C.el (by rw[Aty,hs];rfl)) ?_;rintro v5 u5 l5 rfl;refine G.nF 0 0<|G.eF d.length 0 ?_;generalize N++[P]=N' at F Y;clear C a3 aa O T h;have av:∀ p∈d,p<n:=aj;refine G.l (ι:=Nat×List Bool) (fun j=>[(3,sV (some ⟨b4,0,none⟩) N'.length c4),(4,sV (some ⟨g,0,none⟩) n n),(6,.p 5003 0),(16,sV (some ⟨ba,oa,none⟩) R.length c),(17,iV R.length),(18,iV i),(39,sV qa d.length qc),(40,iV d.length),(41,iV j.1)])
   (fun _=>[(5003,⟨155,[tV P,sV qa d.length qc]⟩)])
   (fun j u' m'=>j.1<=d.length/\j.2.length=n/\(∀ r∈R.take i,∀ q∈r.2.1,j.2[q]?=some true)/\(∀ q∈d.take j.1,j.2[q]?=some true)/\Bag m' [Amn g n j.2,Aed (some ⟨b4,0,none⟩) c4 N']) (fun j=>d.length-j.1) (0,L)
   ⟨mV,hL,K,mV,F⟩ ?_
  rintro J2 ⟨j,L2⟩ ag u6 m6 l6 ⟨hj,a6,E,v,H⟩;simp only at hj a6 E v H ag;have W:=an.mono ((l3.trans l5).trans l6);by_cases V:j<d.length
  ·refine G.lT j d.length ?_;have ao:d[j]?=some d[j]:=As5 V;have ak:d[j]<n:=aj _ (Ath V);have a5:d.take (j+1)=d.take j++[d[j]]:=by rw[At0,ao];rfl
   obtain⟨bq,oq,rfl,eq⟩:=Ad.at' W (j:=j) (e:=.int .i64 (d[j]:Int)) (by simp[Ah,ao]);generalize d[j]=p at eq ak a5;refine G.a bq oq d.length qc j 1 V<|G.lU none bq (oq+j*1) (.int .i64 p) eq<|G.lF p 0<|G.hF p n<|G.a g 0 n n p 1 ak ?_;obtain⟨au,ap,a9⟩:=H.focus 0 rfl;rw[Afj]at ap;refine G.storeA 1 au (L2.map Value.bool) g n n p (.bool true) kV ap (by rw[Ata];omega) rfl rfl ?_;intro m7 af;rw[Ov]at af;have Q:=a9 (Amn g n (L2.set p true)) m7 af;simp only[Avj]at Q;refine G.i j ?_;have U:∀ q,L2[q]?=some true->(L2.set p true)[q]?=some true:=fun q I=>by
    rw[Au5];split
    ·subst_vars;rw[if_pos oV]
    exact I
   exact G.b (ag (j+1,L2.set p true) _ _ _ cV l6 ⟨dV,by simp[a6],fun r Z q I=>U q (E r Z q I),by
    intro q I;dsimp only at I⊢;rw[a5,Ati,Aub]at I;rcases I with I|rfl
    ·exact U q (v q I)
    rw[Au5];simp;omega,Q⟩ dV)
  obtain rfl:j=d.length:=oV;refine G.lF d.length d.length ?_;rw[At9]at v;refine G.l (ι:=Nat) (fun k=>[(3,sV (some ⟨b4,0,none⟩) N'.length c4),(4,sV (some ⟨g,0,none⟩) n n),(6,.p 5003 0),(10,iV (k+1:Nat)),(16,sV (some ⟨ba,oa,none⟩) R.length c),(17,iV R.length),(18,iV i)])
   (fun _=>[(5003,⟨155,[tV P,sV qa d.length qc]⟩)])
   (fun k u' m'=>k+1<=d.length/\m'=m6) (fun k=>d.length-k) 0
   ⟨oV,rfl⟩ ?_
  rintro J3 k aq u8 m8 l8 ⟨hk,rfl⟩;have X:=W.mono l8;by_cases a2:k+1<d.length
  ·refine G.lT (k+1:Nat) d.length ?_;have al:d[k]?=some d[k]:=As5 oV;have am:d[k+1]?=some d[k+1]:=As5 a2;have a1:=ah k _ _ al am;obtain⟨bq,oq,rfl,ac⟩:=Ad.at' X (j:=k+1) (e:=.int .i64 (d[k+1]:Int)) (by simp[Ah,am]);obtain⟨_,_,e',ab⟩:=Ad.at' X (j:=k) (e:=.int .i64 (d[k]:Int)) (by simp[Ah,al]);cases e';generalize d[k]=p1 at ab a1;generalize d[k+1]=p2 at ac a1;exact G.a bq oq d.length qc (k+1) 1 a2<|G.lU none bq (oq+(k+1)*1) (.int .i64 p2) ac<|G.s (k+1:Nat) 1 k<|G.a bq oq d.length qc k 1 oV<|G.lU none bq (oq+k*1) (.int .i64 p1) ab<|G.kF p2 p1<|G.p (k+1:Nat) 1 (k+1+1:Nat)<|G.b (aq (k+1) _ _ _ cV l8 ⟨oV,rfl⟩ oV)
  refine G.lF (k+1:Nat) d.length<|G.i i ?_;exact G.b (hJ (i+1,L2,N',(some ⟨b4,0,none⟩,c4)) _ _ _ cV ((((l2.trans l3).trans l5).trans l6).trans l8) ⟨dV,a6,Y.symm,by
   intro r Z q I;dsimp only at Z I⊢;rw[a4,Ati,Aub]at Z;rcases Z with Z|rfl
   ·exact E r Z q I
   exact v q I,H⟩ dV)
 obtain rfl:i=R.length:=oV;refine G.lF R.length R.length ?_;rw[At9]at K;refine G.callK _ _ kV call192 (Ady (b:=g) (c:=n) (L:=L) hL.symm oV (fun j s hs=>O.el 0 rfl (x:=Amn g n L) rfl (by show (L.map Value.bool)[j]?=_;rw[Aty,hs];rfl)) fun s hs=>by
  obtain⟨j,hj,rfl⟩:=Avy hs;obtain⟨r,Z,I⟩:=ok.all j oV;have:=K r Z j I;rw[As5 hj]at this;exact Auq this) ?_
 rintro v3 u3 l3 rfl;exact G.drop PH.mt kV (PH.mt_le _)<|G.r (.int .i64 0) ⟨rfl,rfl⟩
end
structure By (u:PH)(T:List (List UInt8×Nat))(R:List Ch)(F:List Aq)(lab:Int):Prop where
 att:Alv T
 rel:Nj u T.length R
 feat:Ef T F lab
 t1:0<T.length
 t2:T.length<=12
 r1:0<R.length
 r2:R.length<=6
 f2:F.length<=8
 l1:-1<=lab
 l2:∀ l:Nat,lab=(l:Int)->∃ n,T[l]?=some (n,2)
def Nj.mono {u d:PH}{n:Nat}{R:List Ch}(h:Nj u n R)(e:PH.le u d):Nj d n R:=⟨h.names,h.ne,h.lt,h.len,h.asc,h.all,fun r g=>(h.at' r g).mono e⟩
def By.mono {u d:PH}{T:List (List UInt8×Nat)}{R:List Ch}{F:List Aq}{lab:Int}(h:By u T R F lab)(e:PH.le u d):By d T R F lab:=⟨h.att,h.rel.mono e,h.feat,h.t1,h.t2,h.r1,h.r2,h.f2,h.l1,h.l2⟩
def In (u:PH)(v:Value)(T:List (List UInt8×Nat))(R:List Ch)(F:List Aq)(lab:Int):Prop :=
 ∃ a c b d e f,v=.agg #[.slice a T.length c,.slice b R.length d,.slice e F.length f,.int .i64 lab]/\Ad u (.slice a T.length c) 2 (T.map Ej)/\Ad u (.slice b R.length d) 2 (R.map Gs)/\Ad u (.slice e F.length f) 3 (F.map Ce)
def In.mono {u j:PH}{v:Value}{T:List (List UInt8×Nat)}{R:List Ch}{F:List Aq}{lab:Int}(h:In u v T R F lab)(g:PH.le u j):In j v T R F lab:=by
 obtain⟨a,c,b,d,e,f,z,m,n,t⟩:=h;exact⟨a,c,b,d,e,f,z,m.mono g,n.mono g,t.mono g⟩
def Alz {u:PH}{v:Value}{T:List (List UInt8×Nat)}{R:List Ch}{F:List Aq}{lab:Int}(h:In u v T R F lab)(ok:By u T R F lab) :
 Fn0 prog 88 [v] u fun r _=>r=.int .i64 0:=by
 obtain⟨a,c,b,d,e,f,rfl,hT,W,hF⟩:=h;have t1:=ok.t1;have t2:=ok.t2;have r1:=ok.r1;have r2:=ok.r2;have f2:=ok.f2;have lo:=ok.l1;have hi:lab<T.length:=by
  rcases Axn lab 0 with t|I
  ·omega
  obtain⟨n,K⟩:=ok.l2 lab.toNat oV;obtain⟨hk,_⟩:=Atc.1 K;omega
 refine Fn0.o func88<|G.eF T.length 0<|G.gF T.length 12<|G.eF R.length 0<|G.gF R.length 6<|G.gF F.length 8<|G.buildU 88 1 8 (.nilFunc) [.func (.func 142) #[] #[],.func (.func 143) #[] #[],.func (.func 144) #[] #[]] kV (fun x O=>by
  simp only[At6,List.not_mem_nil,or_false]at O;rcases O with rfl|rfl|rfl<;>exact⟨rfl,Atx.1 rfl⟩) rfl oV mV mV ?_
 intro g u1 Y U;refine G.l (ι:=Nat) (fun i=>[(1,.p 0 0),(34,sV (some ⟨g,0,none⟩) 3 3),(35,iV (3:Nat)),(36,iV i)])
  (fun _=>[(0,⟨30,[sV a T.length c,sV b R.length d,sV e F.length f,iV lab]⟩)])
  (fun i u' Z=>i<=3/\Z=PH.mt) (fun i=>3-i) 0 ⟨oV,rfl⟩ ?_
 rintro J i H u2 m2 l2 ⟨X,rfl⟩;have m:=Y.trans l2;have E:=U.mono l2;by_cases t:i<3
 ·refine G.lT i (3:Nat)<|G.a g 0 3 3 i 1 t ?_;rcases (by omega:i=0\/i=1\/i=2) with rfl|rfl|rfl
  ·refine G.lU none g (0+0*1) (.func (.func 142) #[] #[]) (E 0 _ rfl)<|G.c call142 (Zs (w:=.slice b R.length d) (x:=.slice e F.length f) (y:=.int .i64 lab) (hT.mono m) ok.att oV ⟨_,_,_,rfl⟩ ⟨_,_,_,rfl⟩ ⟨_,rfl⟩) ?_;rintro Q P z rfl;exact G.nF 0 0<|G.p (0:Nat) 1 (0+1:Nat)<|G.b (H (0+1) _ _ _ cV (l2.trans z) ⟨oV,rfl⟩ oV)
  ·refine G.lU none g (0+1*1) (.func (.func 143) #[] #[]) (E 1 _ rfl)<|G.c call143 (Ac7 (a0:=a) (c0:=c) (x:=.slice e F.length f) (y:=.int .i64 lab) (W.mono m) (ok.rel.mono m) oV oV oV ⟨_,_,_,rfl⟩ ⟨_,rfl⟩) ?_;rintro Q P z rfl;exact G.nF 0 0<|G.p (1:Nat) 1 (1+1:Nat)<|G.b (H (1+1) _ _ _ cV (l2.trans z) ⟨oV,rfl⟩ oV)
  refine G.lU none g (0+2*1) (.func (.func 144) #[] #[]) (E 2 _ rfl)<|G.c call144 (Ag7 (w:=.slice b R.length d) (hT.mono m) (hF.mono m) ok.feat oV oV ⟨_,_,_,rfl⟩) ?_;rintro Q P z rfl;exact G.nF 0 0<|G.p (2:Nat) 1 (2+1:Nat)<|G.b (H (2+1) _ _ _ cV (l2.trans z) ⟨oV,rfl⟩ oV)
 obtain rfl:i=3:=oV;refine G.lF (3:Nat) (3:Nat)<|G.lF lab (-1)<|G.hF lab T.length ?_;rcases Axn lab 0 with N|I
 ·exact G.hF lab 0<|G.r (.int .i64 0) ⟨rfl,rfl⟩
 refine G.hT lab 0 ?_;obtain⟨l,rfl⟩:∃ l:Nat,lab=(l:Int):=⟨lab.toNat,oV⟩;obtain⟨n,K⟩:=ok.l2 l rfl;obtain⟨C,L,rfl,V⟩:=Ad.at' (hT.mono m) (j:=l) (e:=Ej (n,2)) (by simp[K]);exact G.a C L T.length c l 2 oV<|G.f 77 C (L+l*2) 1 1<|G.lU none C (L+l*2+1) (.int .i64 (2:Nat)) (Jy V)<|G.nF (2:Nat) 2<|G.r (.int .i64 0) ⟨rfl,rfl⟩
def Mm {z:Int}(h:z.natAbs<1000000000000000000):Lib.nDigits z.natAbs<=400:=As9 (Eb (k:=18) oV oV) oV
structure Dat (q:Rat):Prop where
 num:q.num.natAbs<=1000000000
 den:q.den<=12
def Dat.tx {q:Rat}(h:Dat q):Tx q:=⟨Mm (by have:=h.num;omega),by have:=Mm (z:=(q.den:Int)) (by have:=h.den;omega);simpa using this⟩
def CF.one1 (p:Par)(q:Rat):CF:=⟨1,Hr (fun _=>0) p q,Hr (fun _=>0) (p,p) (q*q)⟩
section
variable {p:Par}{q:Rat}
def Akw {d N:Nat}(e:Dn d N 1)(h:Dn d N q)(g:Dn d N (q*q)):CFD d N (CF.one1 p q) :=
 ⟨e,fun k=>by
  show Dn d N (Hr (fun _=>(0:Rat)) p q k);unfold Hr;split
  ·exact h
  ·exact Dn.zero _ _,fun k=>by
  show Dn d N (Hr (fun _=>(0:Rat)) (p,p) (q*q) k);unfold Hr;split
  ·exact g
  exact Dn.zero _ _⟩
def Al4 (hp:PV p):CFV (CF.one1 p q) :=
 ⟨fun k d=>by
  have d:Hr (fun _=>(0:Rat)) p q k≠0:=d;unfold Hr at d;split at d
  ·subst_vars;exact hp
  ·exact absurd rfl d,fun k d=>by
  have d:Hr (fun _=>(0:Rat)) (p,p) (q*q) k≠0:=d;unfold Hr at d;split at d
  ·subst_vars
   exact⟨hp,hp,fun e=>by
   have e:0<Bd p p:=e;have:=(Fr.sym _ _).2 e;omega⟩
  exact absurd rfl d⟩
def Ex.listP {u:PH}{g sz:Nat}{es:List Value}(h:Ex u g 0 sz es):Ad u (.slice (some ⟨g,0,none⟩) es.length es.length) sz es:=⟨_,_,rfl,Atb _,fun j e d=>⟨g,0,rfl,h j e d⟩⟩
def Acd {L:List (List UInt8)}(h:(L.all Hl&&decide L.Nodup)=true):Oy L:=by
 rw[Atj,Atx,decide_eq_true_iff]at h;exact⟨h.1,h.2⟩
end
def pw {n:Nat}(h:n<10^30):n<10^100:=Auf h jV
section
variable {p q:Par}
def Aob (h:p.1<q.1):Bd p q<0:=by
 have e:Od p.1 q.1 = -1:=by unfold Od;rw[if_pos h]
 unfold Bd;rw[e,if_pos fV];decide
def An3 (h:¬ p.1<q.1)(d:p.1≠q.1):¬ Bd p q<0:=by
 have e:Od p.1 q.1=1:=by unfold Od;rw[if_neg h,if_pos oV]
 unfold Bd;rw[e,if_pos fV];decide
def Aov (h:p.1=q.1):decide (Bd p q<0)=Op.bytesLess p.2 q.2:=by
 have e:Od p.1 q.1=0:=by unfold Od;rw[if_neg oV,if_neg oV]
 unfold Bd;rw[e,if_neg fV];unfold Ro;cases Op.bytesLess p.2 q.2 with
 |true=>rfl
 |false =>
  simp only[Aw7,if_false];split<;>rfl
def F0 {u:PH}(p q:Par)(r:Bool)(h:decide (Bd p q<0)=r):Fn0 prog 86 [A3 p,A3 q] u fun v _=>v=.bool r:=by
 refine Fn0.o func86 ?_;by_cases d:p.1<q.1
 ·refine G.lT' p.1 q.1 d ?_;rw[decide_eq_true (Aob d)]at h;subst h;exact G.r (.bool true) ⟨rfl,rfl⟩
 refine G.lF' p.1 q.1 d ?_;by_cases e:p.1=q.1
 ·rw[Aov e]at h;refine G.eT' p.1 q.1 e<|G.ltS p.2 q.2 r kV h ?_;cases r with
  |true=>exact G.r (.bool true) ⟨rfl,rfl⟩
  |false=>exact G.r (.bool false) ⟨rfl,rfl⟩
 rw[decide_eq_false (An3 d e)]at h;subst h;exact G.eF' p.1 q.1 e<|G.r (.bool false) ⟨rfl,rfl⟩
end
section
variable {F:CF}{N' g:Nat}{q:Rat}{v x:Value}{y1 y3:Bool}{y2 y4:SlI}
section
variable {P:Program} [A7 P] {fn:Func} {Post:Bz} {st:List KI×S} {u m:PH}
theorem Acy {d:Operand->Value}{o:Op}{t:TypeId}{L:List (Nat×Value)}(h:A8 P d o=.build t L):∃ e:Array (Nat×Operand),o=.build t e/\e.toList.map (fun x=>(x.1,d x.2))=L:=by
 cases o<;>simp only[A8]at h<;>try cases h
 any_goals ((repeat' split at h)<;>cases h;done)
 grind
def G.buildArr (t e:TypeId)(p q:Par)(h:Al P (adv P st)=.build t [(0,A3 p),(1,A3 q)])(L:P.underlying t=some (.array 2 e))(J:szB P e=some 2)(O:Xq P t=some (.agg #[.int .i64 0,.string (mkS []),.int .i64 0,.string (mkS [])]))
 (k:G P fn Post (nx (adv P st) (.agg #[.int .i64 p.1,.string (mkS p.2),.int .i64 q.1,.string (mkS q.2)])) u m):G P fn Post st u m:=by
 refine G.ask h mV (fun n o d w hp=>?_) k;obtain⟨R,C,T⟩:=Acy d;obtain⟨H,Q,E,pos,j,z⟩:=o;simp only at C;subst C;have I:(R.map fun x=>(x.1,n x.2)).toList = [(0,A3 p),(1,A3 q)]:=by simp_all
 simp only[execOp,Instr.build,Sem.run_bind,W5 O,Result.andThen_ok,run_underlying L,Be J,I];rfl
end
def Dh {κ:Type}(enc:κ->Value)(K:κ->Prop)(u:PH)(o:Obj)(f:κ->Rat)(N:Nat):Prop :=
 ∃ l:List (κ×Value),Eo enc o l/\(∀ p∈l,QP u p.2 (f p.1)/\K p.1/\Sz (f p.1) 12)/\(∀ k,k∉l.map (·.1)->f k=0)/\l.length<=N
section
variable {κ:Type} [DecidableEq κ] {enc:κ->Value} {K:κ->Prop} {u:PH} {o:Obj} {f:κ->Rat} {N:Nat}
def Dh.mono {e:PH}(h:Dh enc K u o f N)(z:PH.le u e):Dh enc K e o f N:=by
 obtain⟨l,j,d,n,t⟩:=h;exact⟨l,j,fun p hp=>⟨(d p hp).1.mono z,(d p hp).2⟩,n,t⟩
def Dh.up (h:Dh enc K u o f N)(t:N<=N'):Dh enc K u o f N':=by
 obtain⟨l,d,e,j,n⟩:=h;exact⟨l,d,e,j,As9 n t⟩
def Dh.congr {f':κ->Rat}(h:Dh enc K u o f N)(e:∀ k,f k=f' k):Dh enc K u o f' N:=by
 rw[<-funext e];exact h
def Dh.empty:Dh enc K u (.map #[] 0) (fun _=>0) 0:=⟨[],Eo.empty,mV,fun _ _=>rfl,Atb _⟩
theorem Dh.put {o':Obj}{a:κ}{x:Value}{q:Rat}{l:List (κ×Value)}(n:Eo enc o l)(t:∀ p∈l,QP u p.2 (f p.1)/\K p.1/\Sz (f p.1) 12)(h:∀ k,k∉l.map (·.1)->f k=0)(z:l.length<=N)
 (e:Eo enc o' (Iq a x l)) (E:QP u x q) (d:K a) (C:Sz q 12):Dh enc K u o' (Hr f a q) (N+1):=by
 refine⟨_,e,fun p hp=>?_,fun k d=>?_,As9 L8 oV⟩
 ·unfold Hr;rcases Td n.nodup hp with rfl|⟨hp,j⟩
  ·grind
  grind
 rw[Qf,not_or]at d;unfold Hr;rw[if_neg d.1];exact h k d.2
end
def KT {κ:Type}(_:κ):Prop:=True
def KO (k:Par×Par):Prop:=¬ 0<Bd k.1 k.2
theorem KO.pair (p q:Par):KO (A5 p q):=by
 unfold KO A5;have d:=Fr.sym p q;by_cases h:0<Bd p q
 ·grind
 grind
def Ip (m' u:PH)(v:Value)(F:CF)(N:Nat):Prop :=
 ∃ b a n c b' a' n' c' g1 g2 o1 o2,v=.agg #[.bool b,.slice a n c,.bool b',.slice a' n' c',.map (some g1),.map (some g2)]/\QP u (.agg #[.bool b,.slice a n c,.bool b',.slice a' n' c']) F.c/\g1≠g2/\m'=(PH.mt.upd g1 o1).upd g2 o2/\Dh A3 KT u o1 F.s N/\Dh prV KO u o2 F.t N
def Oo (u:PH)(v:Value)(F:CF)(N:Nat):Prop :=
 ∃ b a n c b' a' n' c' g1 g2 o1 o2,v=.agg #[.bool b,.slice a n c,.bool b',.slice a' n' c',.map (some g1),.map (some g2)]/\QP u (.agg #[.bool b,.slice a n c,.bool b',.slice a' n' c']) F.c/\u g1=some o1/\u g2=some o2/\Dh A3 KT u o1 F.s N/\Dh prV KO u o2 F.t N
def Oo.mono {u j:PH}{v:Value}{F:CF}{N:Nat}(h:Oo u v F N)(d:PH.le u j):Oo j v F N:=by
 obtain⟨b,a,n,c,b',t,J,c',g1,g2,L,O,e,z,C,E,H,I⟩:=h;exact⟨b,a,n,c,b',t,J,c',g1,g2,L,O,e,z.mono d,d _ _ C,d _ _ E,H.mono d,I.mono d⟩
def Ip.grow {j u t:PH}{N:Nat}(h:Ip j u v F N)(d:PH.le u t):Ip j t v F N:=by
 obtain⟨b,a,n,c,b',z,L,c',g1,g2,O,Q,e,C,E,H,I,J⟩:=h;exact⟨b,a,n,c,b',z,L,c',g1,g2,O,Q,e,C.mono d,E,H,I.mono d,J.mono d⟩
def Ip.give {z u j:PH}{N:Nat}(h:Ip z u v F N)(d:PH.le u j)(t:PH.le z j):Oo j v F N:=by
 obtain⟨b,a,n,c,b',C,L,c',g1,g2,O,Q,e,E,H,rfl,I,J⟩:=h;exact⟨b,a,n,c,b',C,L,c',g1,g2,O,Q,e,E.mono d,t _ _ (by rw[Ac _ _ H,Ab]),t _ _ (Ab _ _ _),I.mono d,J.mono d⟩
def Ip.congr {t u:PH}{F d:CF}{N N':Nat}(h:Ip t u v F N)(e:F=d)(j:N<=N'):Ip t u v d N':=by
 subst e;obtain⟨b,a,n,c,b',z,L,c',g1,g2,O,Q,e,C,E,H,I,J⟩:=h;exact⟨b,a,n,c,b',z,L,c',g1,g2,O,Q,e,C,E,H,I.up j,J.up j⟩
def O0 {u:PH}{N:Nat}(h:Oo u v F N):∃ b a n c b' d j c' g1 g2,v=.agg #[.bool b,.slice a n c,.bool b',.slice d j c',.map (some g1),.map (some g2)]:=by
 obtain⟨b,a,n,c,b',d,j,c',g1,g2,t,z,e,_⟩:=h;exact⟨b,a,n,c,b',d,j,c',g1,g2,e⟩
def Lo {t u:PH}{N:Nat}(h:Ip t u v F N):∃ b a n c b' d j c' g1 g2,v=.agg #[.bool b,.slice a n c,.bool b',.slice d j c',.map (some g1),.map (some g2)]:=by
 obtain⟨b,a,n,c,b',d,j,c',g1,g2,z,C,e,_⟩:=h;exact⟨b,a,n,c,b',d,j,c',g1,g2,e⟩
def H2 {u:PH}{n:Int}(E:-9223372036854775807<=n)(H:n<=9223372036854775807):Aj prog 30 [.int .i64 n] u PH.mt fun v Q O=>Ip O Q v ⟨(n:Rat),fun _=>0,fun _=>0⟩ 0:=by
 refine Aj.o func30<|G.c call14 (Uo E H) ?_;intro U T R t;obtain⟨b,a,C,c,j,z,c',rfl,_⟩:=t.opn;refine G.mapMk kV ?_;intro g1 I J;refine G.mapMk kV ?_;intro g2 d L;have h:g1≠g2:=fun e=>by subst e;rw[Ab]at d;cases d
 exact G.r (.agg #[.bool b,.slice a C c,.bool false,.slice j z c',.map (some g1),.map (some g2)]) ⟨b,a,C,c,false,j,z,c',g1,g2,_,_,rfl,t,h,rfl,Dh.empty,Dh.empty⟩
theorem Mf {u:PH}{g2:Option Nat}{o:Obj}{f:Par->Rat}{N:Nat}{a:Par}(h:Dh A3 KT u o f N)(J:QP u x q)(hq:SB q)(hf:SB (f a))(I:SB (q+f a)) :
 Aj prog 81 [.agg #[.bool y1,.slice y2.1 y2.2.1 y2.2.2,.bool y3,.slice y4.1 y4.2.1 y4.2.2,.map (some g),.map g2],A3 a,x] u (Rj g o) fun v u' m'=>∃ o',m'=Rj g o'/\Dh A3 KT u' o' (Hr f a (q+f a)) (N+1):=by
 obtain⟨l,e,j,H,Q⟩:=id h;obtain⟨b,X,n,c,U,n',c',rfl,_⟩:=J.opn;refine Aj.o func81 ?_;cases hx':F6 a l with
 |none =>
  have a0:f a=0:=H a (Gv.1 hx');have e0:q+f a=q:=by grind
  rw[e0]at I⊢;refine G.mapNot (et:=57) Dq fz g o l a kV kV (.inr (Cn _ _)) e hx'<|G.mapPut (et:=57) Dq g o l a (.agg #[.bool b,.slice X n c,.bool false,.slice U n' c']) kV kV (Cn _ _) e ?_;intro o' d;exact G.r (.tuple #[]) ⟨o',Dz _ _ _ _,Dh.put e j H Q d J trivial I.sz⟩
 |some xv =>
  obtain⟨R,_,_⟩:=j _ (H5 hx');obtain⟨Y,V,n1,c1,t,L,C,rfl,_⟩:=R.opn;refine G.mapHas (et:=57) Dq fz g o l a (.agg #[.bool Y,.slice V n1 c1,.bool false,.slice t L C]) kV kV (.inr (Cn _ _)) e hx'<|G.c call16 (Mt J R (hq.sz.mono oV) (hf.sz.mono oV)) ?_;intro v1 u1 l1 T;obtain⟨Z,W,n2,c2,z,O,E,rfl,_⟩:=T.opn;refine G.mapPut (et:=57) Dq g o l a (.agg #[.bool Z,.slice W n2 c2,.bool false,.slice z O E]) kV kV (Cn _ _) e ?_;intro o' d;exact G.r (.tuple #[]) ⟨o',Dz _ _ _ _,Dh.put e (fun p hp=>⟨(j p hp).1.mono l1,(j p hp).2⟩) H Q d T trivial I.sz⟩
theorem Gr {u:PH}{g1:Option Nat}{o:Obj}{f:Par×Par->Rat}{N:Nat}{p r:Par}(h:Dh prV KO u o f N)(C:QP u x q)(hq:SB q)(Y:SB (f (A5 p r)))(E:SB (q+f (A5 p r))) :
 Aj prog 82 [.agg #[.bool y1,.slice y2.1 y2.2.1 y2.2.2,.bool y3,.slice y4.1 y4.2.1 y4.2.2,.map g1,.map (some g)],A3 p,A3 r,x] u (Rj g o) fun v u' m'=>∃ o',m'=Rj g o'/\Dh prV KO u' o' (Hr f (A5 p r) (q+f (A5 p r))) (N+1):=by
 obtain⟨b,aa,n,c,a',n',c',rfl,_⟩:=C.opn;refine Aj.o func82 ?_;have T:=KO.pair p r;by_cases z:Bd r p<0
 ·have he:A5 p r=(r,p):=by unfold A5;rw[if_pos ((Fr.sym r p).1 z)]
  rw[he]at Y E T⊢;refine G.c call86 (F0 r p true (decide_eq_true z)) ?_;rintro v0 u0 X rfl;obtain⟨l,j,t,O,U⟩:=h.mono X;have C:=C.mono X;cases hx':F6 (r,p) l with
  |none =>
   have a0:f (r,p)=0:=O _ (Gv.1 hx');have e0:q+f (r,p)=q:=by grind
   rw[e0]at E⊢;refine G.buildArr 162 110 r p kV kV kV kV<|G.mapNot (et:=57) Hj fz g o l (r,p) kV kV (.inr (Cn _ _)) j hx'<|G.mapPut (et:=57) Hj g o l (r,p) (.agg #[.bool b,.slice aa n c,.bool false,.slice a' n' c']) kV kV (Cn _ _) j ?_;intro o' d;exact G.r (.tuple #[]) ⟨o',Dz _ _ _ _,Dh.put j t O U d C T E.sz⟩
  |some xv =>
   obtain⟨V,_,_⟩:=t _ (H5 hx');obtain⟨b1,Z,n1,c1,H,Q,J,rfl,_⟩:=V.opn;refine G.buildArr 162 110 r p kV kV kV kV<|G.mapHas (et:=57) Hj fz g o l (r,p) (.agg #[.bool b1,.slice Z n1 c1,.bool false,.slice H Q J]) kV kV (.inr (Cn _ _)) j hx'<|G.c call16 (Mt C V (hq.sz.mono oV) (Y.sz.mono oV)) ?_;intro v1 u1 l1 W;obtain⟨b2,a2,n2,c2,I,R,L,rfl,_⟩:=W.opn;refine G.mapPut (et:=57) Hj g o l (r,p) (.agg #[.bool b2,.slice a2 n2 c2,.bool false,.slice I R L]) kV kV (Cn _ _) j ?_;intro o' d;exact G.r (.tuple #[]) ⟨o',Dz _ _ _ _,Dh.put j (fun p hp=>⟨(t p hp).1.mono l1,(t p hp).2⟩) O U d W T E.sz⟩
 have he:A5 p r=(p,r):=by unfold A5;rw[if_neg (fun e=>z ((Fr.sym r p).2 e))]
 rw[he]at Y E T⊢;refine G.c call86 (F0 r p false (decide_eq_false z)) ?_;rintro v0 u0 X rfl;obtain⟨l,j,t,O,U⟩:=h.mono X;have C:=C.mono X;cases hx':F6 (p,r) l with
 |none =>
  have a0:f (p,r)=0:=O _ (Gv.1 hx');have e0:q+f (p,r)=q:=by grind
  rw[e0]at E⊢;refine G.buildArr 162 110 p r kV kV kV kV<|G.mapNot (et:=57) Hj fz g o l (p,r) kV kV (.inr (Cn _ _)) j hx'<|G.mapPut (et:=57) Hj g o l (p,r) (.agg #[.bool b,.slice aa n c,.bool false,.slice a' n' c']) kV kV (Cn _ _) j ?_;intro o' d;exact G.r (.tuple #[]) ⟨o',Dz _ _ _ _,Dh.put j t O U d C T E.sz⟩
 |some xv =>
  obtain⟨V,_,_⟩:=t _ (H5 hx');obtain⟨b1,Z,n1,c1,H,Q,J,rfl,_⟩:=V.opn;refine G.buildArr 162 110 p r kV kV kV kV<|G.mapHas (et:=57) Hj fz g o l (p,r) (.agg #[.bool b1,.slice Z n1 c1,.bool false,.slice H Q J]) kV kV (.inr (Cn _ _)) j hx'<|G.c call16 (Mt C V (hq.sz.mono oV) (Y.sz.mono oV)) ?_;intro v1 u1 l1 W;obtain⟨b2,a2,n2,c2,I,R,L,rfl,_⟩:=W.opn;refine G.mapPut (et:=57) Hj g o l (p,r) (.agg #[.bool b2,.slice a2 n2 c2,.bool false,.slice I R L]) kV kV (Cn _ _) j ?_;intro o' d;exact G.r (.tuple #[]) ⟨o',Dz _ _ _ _,Dh.put j (fun p hp=>⟨(t p hp).1.mono l1,(t p hp).2⟩) O U d W T E.sz⟩
end
section
variable {i k:Nat}{s:List UInt8}
section rules
variable {P:Program} [A7 P] {fn:Func} {Post:Bz} {st:List KI×S} {u m:PH}
def G.convBU (e:TypeId)(l:List UInt8)(b n c:Nat)(h:Al P (adv P st)=.conv (some (.slice e)) (some .string) (.slice (some ⟨b,0,none⟩) n c))(O:P.underlying e=some (.int .u8))(T:n=l.length)
 (N:Ex u b 0 1 (Bb l)) (k:G P fn Post (nx (adv P st) (.string (mkS l))) u m):G P fn Post st u m:=by
 refine G.ask h mV (fun J o g w hp=>?_) k;obtain⟨s,d,X,z,H,I,C⟩:=Jv g;obtain⟨F,U,E,pos,t,v⟩:=o;simp only at z;subst z;have R:=(hp (by simp[Gq,Y4 C mV])).1;subst T;have:=run_convert_bytes_back (P:=P) w s d e ⟨b,0,none⟩ c l I O C (fun j Q=>by
  have K:=N j (.int .u8 (l[j].toNat:Int)) (by simp[Bb,Q]);have L:=(K 0 (.int .u8 (l[j].toNat:Int)) (by simp[Value.cells])).cell R;rw[Dt];simpa using L)
 simp[execOp,H,this]
end rules
def Vq (i:Nat):UInt8:=UInt8.ofNat (97+i)
def Ts (h:i<26):(Vq i).toNat=97+i:=by
 unfold Vq;rw[UInt8.toNat_ofNat'];omega
def O8 {u:PH}{p:List UInt8}(hi:i<26)(hp:p.length<=1000):Fn0 prog 75 [.string (mkS p),.int .i64 i] u fun v _=>v=.string (mkS (p++[Vq i])):=by
 refine Fn0.o func75<|G.remZ (i:Int) 26 (i:Int) kV oV oV (by rw[Aw0 oV];omega)<|G.p 97 i (97+i:Nat)<|G.convI .i64 .u8 .i64 (97+i:Nat) ((97+i:Nat):Int) kV ?_ ?_
 ·simp only[IntKind.wrap,IntKind.signed,IntKind.bits];simp;omega
 have e : [Value.int .u8 ((97+i:Nat):Int)]=Bb [Vq i]:=by unfold Bb;rw[Auk,Ts hi];rfl
 refine G.B 5 1 1 (.int .u8 0) [.int .u8 ((97+i:Nat):Int)] (by rw[e];exact Kg _) ?_;intro g j h d;rw[e]at d;exact G.convBU 5 [Vq i] g 1 1 kV kV rfl d<|G.addS p [Vq i] kV gV<|G.r _ ⟨rfl,rfl⟩
def Aea:List UInt8:=[114,101,100]
def N4:List UInt8:=[103,114,101,101,110]
def Sy:List UInt8:=[98,108,117,101]
def Abj (s:List UInt8):Bool:=Hl s&&(s==Aea||s==N4||s==Sy)
def Aqx (h:Abj s=true):Hl s=true:=by
 unfold Abj at h;rw[Atj]at h;exact h.1
def Apa (h:Abj s=true):s=Aea\/s=N4\/s=Sy:=by
 unfold Abj at h;simp only[Atj,Av7,beq_iff_eq]at h;rcases h.2 with (h|h)|h
 ·exact .inl h
 ·exact .inr (.inl h)
 exact .inr (.inr h)
def Rb (k:Nat)(s:List UInt8):Prop:=s = []\/(k=3/\Hl s=true)\/(k=1/\∃ z:Int,z.natAbs<=1000000000/\s=Lib.itoa z)\/(k=2/\∃ q,SmW q/\s=Ap q)
def Vt (k:Nat)(s:List UInt8):Prop:=s = []\/(k=3/\Abj s=true)\/(k=1/\∃ z:Int,z.natAbs<=1000000000/\s=Lib.itoa z)\/(k=2/\∃ q,SmR q/\s=Ap q)
def Vt.ok (h:Vt k s):Rb k s:=h.imp id (Or.imp (fun⟨e,h⟩=>⟨e,Aqx h⟩) (Or.imp id fun⟨e,q,d,g⟩=>⟨e,q,d.w,g⟩))
def Fh {q:Rat}(h:Ap q=s)(d:SmR q):Vt 2 s:=.inr (.inr (.inr ⟨rfl,q,d,h.symm⟩))
def Qk {z:Int}(h:Lib.itoa z=s)(d:z.natAbs<=1000000000):Vt 1 s:=.inr (.inr (.inl ⟨rfl,z,d,h.symm⟩))
def Ahk {u:PH}{s:Src}{ts:List Int}{x:List UInt8×Nat}(h:Lc u s ts)(Q:k<=s.n)(N:1<=x.2)(O:x.2<=3) :
 Aj prog 77 [s.ptr,Ej x] u (s.M k) fun v _ R=>∃ (t:List UInt8) (L:Nat),v=.string (mkS t)/\Vt x.2 t/\L<=s.n/\R=s.M L:=by
 obtain⟨X,F⟩:=x;simp only at N O⊢;refine Aj.o func77<|G.A call26 (Jw (n:=9) h Q oV oV) ?_;rintro Z Y W V ⟨r,I,rfl,U,e,rfl⟩ _;rw[C3];by_cases T:r=8
 ·exact G.eT r 8<|G.r (.string (mkS [])) ⟨[],I,rfl,.inl rfl,e,rfl⟩
 refine G.eF r 8 ?_;by_cases K:F=3
 ·subst K;refine G.eT (3:Nat) 3<|G.B 9 1 16 (.string (mkS [])) [.string (mkS Aea),.string (mkS N4),.string (mkS Sy)] (Kq [Aea,N4,Sy]) ?_;intro g H l2 d;obtain⟨i,hi⟩:∃ i,i=r%3:=⟨_,rfl⟩;have j:i<3:=oV;refine G.remZ (r:Int) 3 (i:Int) kV oV oV (by rw[Aw0 oV];omega)<|G.a g 0 3 3 i 1 j ?_;obtain⟨t,C,E⟩:∃ t,ElP H g (0+i*1) (.string (mkS t))/\Abj t=true:=by
   rcases (by omega:i=0\/i=1\/i=2) with h|h|h
   ·rw[h];exact⟨Aea,d 0 _ rfl,jV⟩
   ·rw[h];exact⟨N4,d 1 _ rfl,jV⟩
   rw[h];exact⟨Sy,d 2 _ rfl,jV⟩
  exact G.lU none g (0+i*1) (.string (mkS t)) C<|G.r (.string (mkS t)) ⟨t,I,rfl,.inr (.inl ⟨rfl,E⟩),e,rfl⟩
 refine G.eF F 3 ?_;by_cases J:F=1
 ·subst J;refine G.eT (1:Nat) 1<|G.B 9 1 16 (.string (mkS [])) [.string (mkS [49]),.string (mkS [50]),.string (mkS [49,48])] (Kq [[49],[50],[49,48]]) ?_;intro g H l2 d;obtain⟨i,hi⟩:∃ i,i=r%3:=⟨_,rfl⟩;have j:i<3:=oV;refine G.remZ (r:Int) 3 (i:Int) kV oV oV (by rw[Aw0 oV];omega)<|G.a g 0 3 3 i 1 j ?_;obtain⟨t,C,E⟩:∃ t,ElP H g (0+i*1) (.string (mkS t))/\Vt 1 t:=by
   rcases (by omega:i=0\/i=1\/i=2) with h|h|h
   ·rw[h];exact⟨[49],d 0 _ rfl,Qk (z:=1) jV fV⟩
   ·rw[h];exact⟨[50],d 1 _ rfl,Qk (z:=2) jV fV⟩
   rw[h];exact⟨[49,48],d 2 _ rfl,Qk (z:=10) jV fV⟩
  exact G.lU none g (0+i*1) (.string (mkS t)) C<|G.r (.string (mkS t)) ⟨t,I,rfl,E,e,rfl⟩
 refine G.eF F 1 ?_;obtain rfl:F=2:=oV;refine G.B 9 1 16 (.string (mkS [])) [.string (mkS [48]),.string (mkS [49]),.string (mkS [45,50]),.string (mkS [49,47,50]),.string (mkS [51]),.string (mkS [53,47,51]),.string (mkS [49]),.string (mkS [50])] (Kq [[48],[49],[45,50],[49,47,50],[51],[53,47,51],[49],[50]]) ?_;intro g H l2 d;refine G.a g 0 8 8 r 1 oV ?_;obtain⟨t,C,E⟩:∃ t,ElP H g (0+r*1) (.string (mkS t))/\Vt 2 t:=by
  rcases (by omega:r=0\/r=1\/r=2\/r=3\/r=4\/r=5\/r=6\/r=7) with h|h|h|h|h|h|h|h
  ·rw[h];exact⟨_,d 0 _ rfl,Fh (q:=0) jV ⟨jV,jV⟩⟩
  ·rw[h];exact⟨_,d 1 _ rfl,Fh (q:=1) jV ⟨jV,jV⟩⟩
  ·rw[h];exact⟨_,d 2 _ rfl,Fh (q:=-2) jV ⟨jV,jV⟩⟩
  ·rw[h];exact⟨_,d 3 _ rfl,Fh (q:=1/2) jV ⟨jV,jV⟩⟩
  ·rw[h];exact⟨_,d 4 _ rfl,Fh (q:=3) jV ⟨jV,jV⟩⟩
  ·rw[h];exact⟨_,d 5 _ rfl,Fh (q:=5/3) jV ⟨jV,jV⟩⟩
  ·rw[h];exact⟨_,d 6 _ rfl,Fh (q:=1) jV ⟨jV,jV⟩⟩
  rw[h];exact⟨_,d 7 _ rfl,Fh (q:=2) jV ⟨jV,jV⟩⟩
 exact G.lU none g (0+r*1) (.string (mkS t)) C<|G.r (.string (mkS t)) ⟨t,I,rfl,E,e,rfl⟩
end
end Go.Proofs.YtnafchoihfnkeaaGreatDoor
