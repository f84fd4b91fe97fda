/- Parts of one proof, joined by a program. -/
import Derived.Test.YtnafchoihfnkeaaGreatDoorS07
import Derived.RangeFuncSeq
import Derived.RangeFuncGives
import Derived.Maps.AppendAt
import Derived.Shelf.Abstract
import Derived.Shelf.AbstractIn
import Derived.Sort.MapsRangeIn
import Derived.WalkKit
import Derived.OwnWalkIn
import Derived.TacticsInMore
import Derived.RegionIn
import Derived.LoopNIn
import Derived.LoopIn
import Derived.Shelf.SlIter.Collect
import Derived.Shelf.SlSortCmp.WholeK
import Derived.Ground.SlsfProg
import Derived.Test.YtnafchoihfnkeaaGreatDoorProg
import Derived.Shelf.SlSortCmp.NoneTotal
set_option linter.defProp false
set_option linter.unusedVariables false
set_option linter.unusedSimpArgs false
set_option linter.unusedSectionVars false
set_option maxHeartbeats 16000000
namespace Go.Proofs.YtnafchoihfnkeaaGreatDoor
open Go.Proofs.Tryz
open Go.RowKit Go.MapKept
open Bool renaming and_eq_true -> Atj, not_eq_true' -> Avs, or_eq_true -> Av7
open Int renaming lt_or_le -> Axn, lt_trichotomy -> Awd, natAbs_mul -> Au7, natAbs_natCast -> Atv, ofNat_le -> A2i, tmod_eq_emod_of_nonneg -> Aw0
open Lib renaming decDigits_one -> Axw, itoa -> Atn
open List renaming all_eq_true -> Atx, cons_append -> Ayt, getElem?_eq_getElem -> As5, getElem?_eq_some_iff -> Atc, getElem?_map -> Aty, getElem?_set -> Au5, getElem_inj -> A08, getElem_map -> Awp, getElem_mem -> Ath, getElem_of_mem -> Avy, getElem_take -> Azn, length_map -> Ata, length_take -> Atm, map_append -> Atk, map_cons -> Auk, map_replicate -> Aw5, mem_append -> Ati, mem_cons -> At6, mem_map -> Ate, mem_singleton -> Aub, nodup_cons -> Awr, pairwise_iff_getElem -> Avr, set_cons_zero -> Avj, take_add_one -> At0, take_length -> At9
open Nat renaming div_le_self -> Awa, eq_zero_or_pos -> At5, le_of_dvd -> Axt, le_refl -> Atb, le_trans -> As9, lt_of_le_of_lt -> Aum, mul_comm -> At7, mul_le_mul -> Aut
open Rat renaming divInt -> Au0, divInt_eq_div -> Awf, intCast_mul -> Av9, intCast_natCast -> Au6, natCast_inj -> A1f, natCast_mul -> Awt, num_eq_zero -> Axp
open Value renaming bool -> Ayi, cells -> Atw
section
section rules
variable [Ca] {P:Program} [A7 P] {fn:Func} {Post:By} {st:List KI×S} {u m:PH}
theorem G.appendM (e:TypeId)(sz bt:Nat)(z:Value)(m0:PH)(es xs:List Value)(v:Value)(b off n c:Nat)(h:Al P (adv P st)=.app (some (e,sz,bt,z)) true [v,.slice (some ⟨b,off,none⟩) n c])(hz:z.cells.toList.all Bh=true)(hzs:z.cells.size=sz)(hsz:0<sz)
 (ha:Ae m0 m v e sz es) (hx:Eu m b off sz xs) (ho:Ax sz xs) (hn:xs.length=n) (hn0:0<n) (hb:(es.length+n)*bt<=140737488355328) (hb2:es.length+n<=9223372036854775807)
 (k:∀ v' m',Ae m0 m' v' e sz (es++xs)->G P fn Post (nx (adv P st) v') u m'):G P fn Post st u m:=by
 refine G.big (K:=fun v' u' m'=>u'=u/\Ae m0 m' v' e sz (es++xs)) h mV (fun env op hv=>(D8 (P:=P) (o:=⟨none,op,0, "",#[],none⟩) hv).2.1) (.inr fun env op hv=>(D8 (P:=P) (o:=⟨none,op,0, "",#[],none⟩) hv).1) (fun env o hview w hgd=>?_) (fun v' u' m' _ hk=>?_)
 ·obtain⟨_,_,t,hi,hex⟩:=D8 (P:=P) hview;obtain⟨v',w',m',h1,h2,h3,h4⟩:=Pq (P:=P) m0 es xs v b off n c o.type hi hz hzs hsz ha ho hn hn0 hb hb2 hgd (hx.cells hsz ho hgd.pm);refine Bs (w':=w') (v:=v') ?_ ⟨u,m',h2,h3,rfl,h4⟩;rw[hex w,h1];rfl
 ·obtain⟨rfl,hk⟩:=hk;exact k v' m' hk
end rules
theorem Src.h0 (s:Src)(k k':Nat)(g:Nat):s.M k g=none\/s.M k' g≠none:=by
 by_cases e:g=s.g
 ·subst e;right;unfold Src.M;rw[Ab];simp
 ·left;unfold Src.M;rw[Ac _ _ e];rfl
theorem Anw {u:PH}{v:Value}{ts:List Int}(h:Ad u v 1 (Ei ts))(hl:ts.length<=600)(h1:∀ t∈ts,-9223372036854775808<=t)(h2:∀ t∈ts,t<=9223372036854775807) :
 Ak prog 5 [v] u PH.mt fun v' u' m'=>∃ s:Src,v'=s.ptr/\m'=s.M 0/\Li u' s ts:=by
 have hcap:∃ a c,v=.slice a ts.length c/\ts.length<=c:=by
  obtain⟨a,c,e1,e2,_⟩:=h;rw[B3]at e1 e2;exact⟨a,c,e1,e2⟩
 obtain⟨a,c,rfl,hcap⟩:=hcap;refine Ak.o func5 ?_;refine G.minI [3,3] (ts.length:Int) 600 (ts.length:Int) kV oV ?_;refine G.sliceTo 1 a ts.length c ts.length kV hcap ?_;refine G.pub 1006 75 [.slice a ts.length c,.int .i64 0] kV kV ?_;intro g hu hm;exact G.r (.pointer (some ⟨g,0,none⟩)) ⟨⟨g,a,ts.length,c⟩,rfl,rfl,h,rfl,hl,h1,h2⟩
theorem Src.bag0 (s:Src)(k:Nat){l:List Arr}(h:Bag PH.mt l):Bag (s.M k) (s.arr k::l):=by
 have:=Src.at (s:=s) (k:=k) (m0:=PH.mt) rfl;rw[C6]at this;exact⟨PH.mt,this,h⟩
end
theorem U8 (z:Int):Ap (z:Rat)=Atn z:=by
 have h1:((z:Int):Rat).den=1:=mV
 have h2:((z:Int):Rat).num=z:=mV
 rw[Ap,if_pos h1,h2]
section
variable {A:List (List Rat)}{p:List Rat}{q:Rat}{u:PH}{v:Value}
theorem Jw (h:p.all B4=true):(∀ q∈p,Tx q)/\SzL p 12:=by
 rw[Atx]at h;exact⟨fun q hq=>(Cz (h q hq)).1,fun q hq=>(Cz (h q hq)).2⟩
structure Tw (q:Rat):Prop where
 den:q.den ∣ 12
 num:q.num.natAbs<=1000
theorem Tw.small (h:Tw q):B4 q=true:=by
 have h1:=h.num;have h2:q.den<=12:=Axt oV h.den;simp only[B4,Atj,decide_eq_true_eq];have e:(1000:Nat)<10^100:=fV
 exact⟨Aum h1 e,Aum (by omega:q.den<=1000) e⟩
theorem Tw.tx (h:Tw q):Tx q:=(Cz h.small).1
theorem Tw.sz (h:Tw q):Sz q 12:=(Cz h.small).2
theorem Afr (h:∀ r∈A,∀ q∈r,Tw q):Vi A 12 100:=by
 refine⟨fun r hr q hq=>(h r hr q hq).den,oV,As9 (A0 (k:=1) oV) oV,fun D hD h0=>⟨?_,fun r hr q hq hd=>?_⟩⟩
 ·have:D<=12:=Axt oV hD;exact As9 (D9 (k:=2) oV oV) oV
 ·have h1:D<=12:=Axt oV hD;have h2:=(h r hr q hq).num;have h3:D/q.den<=12:=As9 (Awa _ _) h1;rw[Au7,Atv];have h4:q.num.natAbs*(D/q.den)<=1000*12:=Aut h2 h3;exact As9 (D9 (k:=5) oV oV) oV
theorem Akx (hl:A.length<=4)(hr:∀ r∈A,r.length=A.length)(ht:∀ r∈A,∀ q∈r,Tw q)(hs:Aaw A):M3 A 12 :=
 ⟨⟨oV,hr,fun r hr q hq=>(ht r hr q hq).tx⟩,hs,hl,oV,fun r hr q hq=>(ht r hr q hq).sz,12,100,oV,Afr ht⟩
theorem R6 {x:Rat}(h:Tw x)(n:Nat):Nj x n 12:=by
 refine⟨h.tx,h.sz,12,100,oV,Afr fun r hr q hq=>?_⟩;simp only[Aw5]at hr;have:=List.eq_of_mem_replicate hr;subst this;simp at hq;subst hq;exact h
theorem Aj1:Ap 2 = [50]:=by
 have:Ap ((2:Int):Rat)=Atn 2:=U8 2;rw[show ((2:Int):Rat)=2 from by decide]at this;rw[this,C1 oV];exact Axw oV
theorem Sg:Ap 3 = [51]:=by
 have:Ap ((3:Int):Rat)=Atn 3:=U8 3;rw[show ((3:Int):Rat)=3 from by decide]at this;rw[this,C1 oV];exact Axw oV
theorem Aoe:Ap (-4) = [45,52]:=by
 have:Ap ((-4:Int):Rat)=Atn (-4):=U8 (-4);rw[show ((-4:Int):Rat) = -4 from by decide]at this;rw[this,Cy,show decide ((-4:Int)<0)=true from rfl,show (-4:Int).natAbs=4 from rfl,Axw oV];rfl
theorem Ar0 {g g1 g2:Nat}{t1 t2:List (List UInt8)}(h:Eu u g 0 1 [.slice (some ⟨g1,0,none⟩) 2 2,.slice (some ⟨g2,0,none⟩) 2 2])(h1:Eu u g1 0 1 (Bo t1))(h2:Eu u g2 0 1 (Bo t2))(e1:t1.length=2)(e2:t2.length=2) :
 Bx u (.slice (some ⟨g,0,none⟩) 2 2) [t1,t2]:=by
 refine⟨_,⟨_,2,rfl,Atb _,fun j e hj=>⟨g,0,rfl,h j e hj⟩⟩,rfl,fun j r hj=>?_⟩
 match j,hj with
 |0,hj =>
  simp at hj;subst hj;exact⟨some ⟨g1,0,none⟩,2,by rw[e1];rfl,⟨_,2,by rw[Bm],by rw[Bm,e1];exact Atb _,fun j e hj=>⟨g1,0,rfl,h1 j e hj⟩⟩⟩
 |1,hj =>
  simp at hj;subst hj;exact⟨some ⟨g2,0,none⟩,2,by rw[e2];rfl,⟨_,2,by rw[Bm],by rw[Bm,e2];exact Atb _,fun j e hj=>⟨g2,0,rfl,h2 j e hj⟩⟩⟩
def A1:List (List Rat):=[[2,1],[1,2]]
def A2:List (List Rat):=[[1,0],[0,1]]
def twB (q:Rat):Bool:=decide (q.den ∣ 12)&&decide (q.num.natAbs<=1000)
theorem Jx (h:twB q=true):Tw q:=by
 simp only[twB,Atj,decide_eq_true_eq]at h;exact⟨h.1,h.2⟩
theorem Asd (a b c:Rat):Aaw [[a,b],[b,c]]:=by
 intro i k hi hk h1 h2
 match i,k,hi,hk with
 |0,0,_,_=>rfl
 |0,1,_,_=>rfl
 |1,0,_,_=>rfl
 |1,1,_,_=>rfl
theorem Yc:M3 A1 12:=by
 refine Akx fV fV (fun r hr q hq=>?_) (Asd 2 1 2);have h:A1.all (fun r=>r.all twB)=true:=jV
 rw[Atx]at h;have:=h r hr;rw[Atx]at this;exact Jx (this q hq)
theorem Arn:M3 A2 12:=by
 refine Akx fV fV (fun r hr q hq=>?_) (Asd 1 0 1);have h:A2.all (fun r=>r.all twB)=true:=jV
 rw[Atx]at h;have:=h r hr;rw[Atx]at this;exact Jx (this q hq)
theorem Agt:Ao A1 = [3,-4,1]:=jV
theorem Arf:∀ q∈Ao A1,Tx q:=(Jw (p:=Ao A1) jV).1
theorem As4:∀ q∈Ao A2,Tx q:=(Jw (p:=Ao A2) jV).1
theorem I6 (h:p.all B4=true):SzL p 1000000:=(Jw h).2.mono oV
theorem Asb:Aho 5 (Ao A1):=by
 have e1:N6 (Ao A1) = [-4,2]:=jV
 have e2:Aa0 (Ao A1) [-4,2] = [-1]:=jV
 have e3:Aa0 [-4,2] [-1] = []:=jV
 have e4:I0 5 (Ao A1) (N6 (Ao A1)) = [-1]:=jV
 refine⟨?_,jV,jV,I6 jV,by rw[e4];simp,by rw[e4];simp,by rw[e4];exact I6 jV,by rw[e4];decide +kernel⟩;rw[e1];refine⟨jV,jV,jV,fV,I6 jV,I6 jV,?_⟩;rw[e2];refine⟨jV,mV,fV,fV,I6 jV,I6 jV,?_⟩;rw[e3];exact trivial
theorem Ar7:Aho 5 (Ao A2):=by
 have e1:N6 (Ao A2) = [-2,2]:=jV
 have e2:Aa0 (Ao A2) [-2,2] = []:=jV
 have e4:I0 5 (Ao A2) (N6 (Ao A2)) = [-2,2]:=jV
 refine⟨?_,jV,jV,I6 jV,by rw[e4];simp,by rw[e4];simp,by rw[e4];exact I6 jV,by rw[e4];decide +kernel⟩;rw[e1];refine⟨jV,jV,jV,fV,I6 jV,I6 jV,?_⟩;rw[e2];exact trivial
def Anl:List (Rat×Rat×Int):=[(0,5/4,1),(5/2,15/4,1)]
def Ar8:List (Rat×Rat×Int):=[(-2,2,2)]
theorem Aqa (ht:D1 u)(hm:Bx u v (Br A1)):Fn0 prog 20 [v,.int .i64 ((3:Nat):Int)] u fun v' u'=>∃ r,v'=.tuple #[r,.int .i64 0]/\Lj u' r Anl :=
 Wx (fS:=5) (F:=10) (fu:=100) ht hm Yc Arf fV oV Asb jV jV jV ((Jw (p:=Ey 5 (Ao A1)) jV).2.mono oV) jV jV oV jV
theorem Aql (ht:D1 u)(hm:Bx u v (Br A2)):Fn0 prog 20 [v,.int .i64 ((0:Nat):Int)] u fun v' u'=>∃ r,v'=.tuple #[r,.int .i64 0]/\Lj u' r Ar8 :=
 Wx (fS:=5) (F:=10) (fu:=100) ht hm Arn As4 fV oV Ar7 jV jV jV ((Jw (p:=Ey 5 (Ao A2)) jV).2.mono oV) jV jV oV jV
theorem Ao0 {v r:Value}(ht:D1 u)(hm:Bx u v (Br A1))(hr:Lj u r Anl):Fn0 prog 22 [v,r] u fun v' _=>v'=.bool true:=by
 refine Ahp ht hm Yc Arf fV (fun x hx=>?_) hr fV jV;have h:Anl.all (fun x=>twB x.1&&twB x.2.1)=true:=jV
 rw[Atx]at h;have:=h x hx;rw[Atj]at this;exact⟨R6 (Jx this.1) _,R6 (Jx this.2) _⟩
theorem Lj.mono {u u':PH}{v:Value}{res:List (Rat×Rat×Int)}(h:Lj u v res)(hl:PH.le u u'):Lj u' v res:=by
 obtain⟨a,c,a',c',h1,h2,h3⟩:=h;exact⟨a,c,a',c',h1,h2.mono hl,h3.mono hl⟩
theorem Sy (ht:D1 u):Fn0 prog 4 [] u fun v _=>v=.bool true:=by
 refine Fn0.o func4 ?_;refine G.buildU 34 1 16 (.string (mkS [])) (Bo [[50],[49]]) kV (Dv _) rfl oV (by simp[Bo]) (by simp[Bo]) ?_;intro g1 u1 l1 e1;refine G.buildU 34 1 16 (.string (mkS [])) (Bo [[49],[50]]) kV (Dv _) rfl oV (by simp[Bo]) (by simp[Bo]) ?_;intro g2 u2 l2 e2;refine G.B 60 1 24 (.slice none 0 0) [.slice (some ⟨g1,0,none⟩) 2 2,.slice (some ⟨g2,0,none⟩) 2 2] (O3 (by intro e he;simp at he;rcases he with rfl|rfl<;>exact⟨_,_,_,rfl⟩)) ?_
 intro g3 u3 l3 e3;have hm:Bx u3 (.slice (some ⟨g3,0,none⟩) 2 2) (Br A1):=by
  have h:=Ar0 e3 (e1.mono (l2.trans l3)) (e2.mono l3) rfl rfl;have:Br A1 = [[[50],[49]],[[49],[50]]]:=by simp[Br,A1,Aj1,Th]
  rw[this];exact h
 have hl3:PH.le u u3:=(l1.trans l2).trans l3;refine G.c call19 (Mb (ht.mono hl3) hm Yc Arf) ?_;rintro v4 u4 l4 ⟨r4,rfl,k4⟩;have k4':=k4;obtain⟨a4,c4,rfl⟩:=Ad.opn k4;have e4:(Bo (List.map Ap (Ao A1))).length=3:=by rw[Bm,Ata,Agt];rfl
 rw[e4]at k4'⊢;have h3:Tw 3:=Jx jV;have hb:=Ane (x:=3) (ht.mono (hl3.trans l4)) (hm.mono l4) Yc (R6 h3 _) fV;rw[Sg]at hb;refine G.c call12 hb ?_;rintro v5 u5 l5 rfl;have hl5:PH.le u u5:=(hl3.trans l4).trans l5;refine G.c call20 (Aqa (ht.mono hl5) (hm.mono (l4.trans l5))) ?_;rintro v6 u6 l6 ⟨r6,rfl,k6⟩;have k6':=k6;obtain⟨a6,c6,a6',c6',rfl,_,_⟩:=k6;refine G.buildU 34 1 16 (.string (mkS [])) (Bo [[49],[48]]) kV (Dv _) rfl oV (by simp[Bo]) (by simp[Bo]) ?_;intro g7 u7 l7 e7;refine G.buildU 34 1 16 (.string (mkS [])) (Bo [[48],[49]]) kV (Dv _) rfl oV (by simp[Bo]) (by simp[Bo]) ?_;intro g8 u8 l8 e8;refine G.B 60 1 24 (.slice none 0 0) [.slice (some ⟨g7,0,none⟩) 2 2,.slice (some ⟨g8,0,none⟩) 2 2] (O3 (by intro e he;simp at he;rcases he with rfl|rfl<;>exact⟨_,_,_,rfl⟩)) ?_
 intro g9 u9 l9 e9;have hm2:Bx u9 (.slice (some ⟨g9,0,none⟩) 2 2) (Br A2):=by
  have h:=Ar0 e9 (e7.mono (l8.trans l9)) (e8.mono l9) rfl rfl;have:Br A2 = [[[49],[48]],[[48],[49]]]:=by simp[Br,A2,Qi,Th]
  rw[this];exact h
 have hl9:PH.le u u9:=((hl5.trans l6).trans l7).trans (l8.trans l9);refine G.c call20 (Aql (ht.mono hl9) hm2) ?_;rintro v10 u10 l10 ⟨r10,rfl,k10⟩;obtain⟨a10,c10,a10',c10',rfl,_,kM⟩:=k10;refine G.eT' 0 0 rfl ?_;refine G.buildU 34 1 16 (.string (mkS [])) (Bo [[51],[45,52],[49]]) kV (Dv _) rfl oV (by simp[Bo]) (by simp[Bo]) ?_;intro g11 u11 l11 e11;have hS:Eg u11 (.slice (some ⟨g11,0,none⟩) 3 3) [[51],[45,52],[49]]:=⟨_,3,rfl,Atb _,fun j e hj=>⟨g11,0,rfl,e11 j e hj⟩⟩;have ht4:([3,-4,1]:List Rat).map Ap = [[51],[45,52],[49]]:=by simp[Sg,Aoe,Th]
 rw[Agt,ht4]at k4';refine G.c call21 (Alh (Ad.mono k4' ((((((l5.trans l6).trans l7).trans l8).trans l9).trans l10).trans l11)) hS mV mV) ?_;rintro v12 u12 l12 rfl;refine G.eT' 0 0 rfl ?_;refine G.eT' (C7 (Ao A1) 3) 1 jV ?_;refine G.eT' (Co (Ao A1) 3:Int) 1 jV ?_;refine G.eT' 0 0 rfl ?_;refine G.eT' ((Anl.length:Nat):Int) 2 rfl ?_;have hl12:PH.le u6 u12:=((((l7.trans l8).trans l9).trans l10).trans l11).trans l12;refine G.c call22 (Ao0 (ht.mono ((hl5.trans l6).trans hl12)) (hm.mono (((l4.trans l5).trans l6).trans hl12)) (Lj.mono k6' hl12)) ?_;rintro v13 u13 l13 rfl;refine G.eT' 0 0 rfl ?_;refine G.eT' ((Ar8.length:Nat):Int) 1 rfl ?_;obtain⟨b14,o14,rfl,e14⟩:=Ad.at' (Ad.mono kM ((l11.trans l12).trans l13)) (j:=0) (e:=.int .i64 2) rfl;refine G.a b14 o14 1 c10' 0 1 oV ?_;refine G.lU none b14 (o14+0*1) (.int .i64 2) e14 ?_;refine G.eT' 2 2 rfl ?_;exact G.r (.bool true) ⟨rfl,rfl⟩
end
section
variable {F G:CF}{M N d e:Nat}{a b k q r:Rat}
def Dn (d N:Nat)(q:Rat):Prop:=∃ k:Int,q*((12^d:Nat):Rat)=(k:Rat)/\k.natAbs<=N
theorem Y7 (d:Nat):0<12^d:=Nat.pow_pos oV
theorem Ark (d:Nat):((12^d:Nat):Rat)≠0:=by
 intro h;have h1:((12^d:Nat):Rat)=((0:Nat):Rat):=h;have:=A1f.1 h1;have:=Y7 d;omega
theorem Dn.mono (h:Dn d N q)(hm:N<=M):Dn d M q:=by
 obtain⟨k,h1,h2⟩:=h;exact⟨k,h1,oV⟩
theorem Dn.add (h:Dn d N q)(h':Dn d M r):Dn d (N+M) (q+r):=by
 obtain⟨k,h1,h2⟩:=h;obtain⟨l,k1,k2⟩:=h';exact⟨k+l,by rw[Rat.intCast_add,<-h1,<-k1];grind,oV⟩
theorem Dn.mul (h:Dn d N q)(h':Dn e M r):Dn (d+e) (N*M) (q*r):=by
 obtain⟨k,h1,h2⟩:=h;obtain⟨l,k1,k2⟩:=h';refine⟨k*l,?_,by rw[Au7];exact Aut h2 k2⟩;rw[Av9,<-h1,<-k1,Nat.pow_add,Awt];grind
theorem Dn.zero (d N:Nat):Dn d N 0:=⟨0,by rw[Rat.zero_mul];rfl,Nat.zero_le _⟩
theorem Dn.two (h:Dn d N q):Dn d (2*N) (2*q):=by
 have:=h.add h;rw[show 2*q=q+q by grind,show 2*N=N+N by omega];exact this
theorem Dn.frac (h:Dn d N q):q.num.natAbs<=N/\q.den<=12^d:=by
 obtain⟨k,h1,hk⟩:=h;have hp:=Y7 d;have hq:q=Au0 k ((12^d:Nat):Int):=by
  rw[Awf,Au6,<-h1];have:=Ark d;grind
 obtain⟨e1,e2,e3⟩:=Kt (y:=k) (z:=((12^d:Nat):Int)) oV;have hg0:0<Nat.gcd k.natAbs (12^d):=Nat.gcd_pos_of_pos_right _ hp;rw[hq];constructor
 ·rw[e1,Int.natAbs_tdiv];exact As9 (Awa _ _) hk
 ·have h2:((Au0 k ((12^d:Nat):Int)).den:Int)<=((12^d:Nat):Int):=by
   rw[e2,show (((12^d:Nat):Int)).natAbs=12^d from rfl,Int.tdiv_eq_ediv_of_nonneg oV,<-Int.natCast_ediv];exact A2i.2 (Awa _ _)
  exact A2i.1 h2
theorem Dn.small (h:Dn d N q)(hd:d<=50)(hN:N<10^100):B4 q=true:=by
 obtain⟨h1,h2⟩:=h.frac;have h3:12^d<=12^50:=Nat.pow_le_pow_right oV hd;have h4:12^50<10^100:=jV
 simp only[B4,Atj,decide_eq_true_eq];exact⟨Aum h1 hN,Aum h2 (Aum h3 h4)⟩
theorem SmW.dn (h:SmW q):Dn 1 18540 q:=by
 obtain⟨k,hk⟩:=h.den;refine⟨q.num*(k:Int),?_,?_⟩
 ·have h1:q*(q.den:Rat)=(q.num:Rat):=by
   have h2:q=(q.num:Rat)/(((q.den:Int)):Rat):=by rw[<-Awf,Rat.num_divInt_den]
   have hi:=Rat.mul_inv_cancel ((q.den:Nat):Rat) (fun e=>absurd (A1f.1 (e.trans (rfl:(0:Rat)=((0:Nat):Rat)))) (Nat.pos_iff_ne_zero.1 q.den_pos));rw[Au6,Rat.div_def]at h2;generalize ((q.den:Nat):Rat)⁻¹=j at h2 hi;rw[h2];grind
  show q*((12^1:Nat):Rat)=_;rw[show (12^1:Nat)=12 from rfl,hk,Awt,Av9,Au6,<-h1];grind
 ·rw[Au7,Atv];have h1:=h.num;have h2:k<=12:=by
   have:=h.le;have:0<q.den:=q.den_pos;rcases At5 k with h0|h0
   ·omega
   ·exact Axt oV ⟨q.den,by rw[At7];exact hk⟩
  exact Aut h1 h2
structure CFD (d N:Nat)(F:CF):Prop where
 c:Dn d N F.c
 s:∀ p,Dn d N (F.s p)
 t:∀ q,Dn d N (F.t q)
theorem CFD.mono {d N M:Nat}{F:CF}(h:CFD d N F)(hm:N<=M):CFD d M F:=⟨h.c.mono hm,fun p=>(h.s p).mono hm,fun q=>(h.t q).mono hm⟩
theorem CFD.add {d N M:Nat}{F G:CF}(h:CFD d N F)(h':CFD d M G):CFD d (N+M) (F.add G):=⟨h.c.add h'.c,fun p=>(h.s p).add (h'.s p),fun q=>(h.t q).add (h'.t q)⟩
theorem CFD.scale (h:CFD d N F)(hk:Dn e M k):CFD (d+e) (N*M) (F.scale k):=⟨h.c.mul hk,fun p=>(h.s p).mul hk,fun q=>(h.t q).mul hk⟩
theorem CFD.mul {d e N M:Nat}{F G:CF}(h:CFD d N F)(h':CFD e M G):CFD (d+e) (4*(N*M)) (F.mul G):=by
 have sw:∀ {q r:Rat},Dn d N q->Dn e M r->Dn (d+e) (N*M) (r*q):=fun {q r} hq hr=>by rw[show r*q=q*r by grind];exact hq.mul hr
 refine⟨(h.c.mul h'.c).mono oV,fun p=>((sw h.c (h'.s p)).add ((h.s p).mul h'.c)).mono oV,fun q=>?_⟩;have e1:=(sw h.c (h'.t q)).add ((h.t q).mul h'.c);have e2:Dn (d+e) (N*M+N*M) (Hh F G q):=by
  unfold Hh;split
  ·exact Dn.zero _ _
  ·split
   ·have:=((h.s q.1).mul (h'.s q.1)).two;exact this.mono oV
   ·exact ((h.s q.1).mul (h'.s q.2)).add ((h.s q.2).mul (h'.s q.1))
 exact (e1.add e2).mono oV
def Aqb (c:UInt8):Bool:=decide (97<=c.toNat)&&decide (c.toNat<=122)
def Hl (s:List UInt8):Bool:=match s with
 |[]=>false
 |c::l=>Aqb c&&l.all (fun x=>Aqb x||(decide (x.toNat=45)||(decide (48<=x.toNat)&&decide (x.toNat<=57))))&&decide (s.length<=12)
structure PV (p:Par):Prop where
 lo:-1<=p.1
 hi:p.1<=1000
 cat:p.2 = []\/Hl p.2=true
structure CFV (F:CF):Prop where
 s:∀ p,F.s p≠0->PV p
 t:∀ q,F.t q≠0->PV q.1/\PV q.2/\¬ 0<Bd q.1 q.2
theorem Fk (h:a+b≠0):a≠0\/b≠0:=by
 by_cases ha:a=0
 ·right;rintro rfl;apply h;rw[ha];grind
 ·exact .inl ha
theorem Cc (h:a*b≠0):a≠0/\b≠0:=⟨fun e=>h (by rw[e];grind),fun e=>h (by rw[e];grind)⟩
theorem CFV.add (h:CFV F)(h':CFV G):CFV (F.add G) :=
 ⟨fun p hp=>(Fk hp).elim (h.s p) (h'.s p),fun q hq=>(Fk hq).elim (h.t q) (h'.t q)⟩
theorem CFV.scale (h:CFV F)(k:Rat):CFV (F.scale k):=⟨fun p hp=>h.s p (Cc hp).1,fun q hq=>h.t q (Cc hq).1⟩
theorem CFV.mul (h:CFV F)(h':CFV G):CFV (F.mul G):=by
 refine⟨fun p hp=>(Fk hp).elim (fun e=>h'.s p (Cc e).1) (fun e=>h.s p (Cc e).1),fun q hq=>?_⟩;rcases Fk hq with e|e
 ·exact (Fk e).elim (fun e=>h'.t q (Cc e).1) (fun e=>h.t q (Cc e).1)
 ·unfold Hh at e;split at e
  ·exact absurd rfl e
  ·rename_i hno;split at e
   ·rename_i heq;have:=Cc (Cc e).2;exact⟨h.s _ this.1,by rw[<-heq];exact h.s _ this.1,hno⟩
   ·rcases Fk e with e|e
    ·have:=Cc e;exact⟨h.s _ this.1,h'.s _ this.2,hno⟩
    ·have:=Cc e;exact⟨h'.s _ this.2,h.s _ this.1,hno⟩
theorem CFV.count (k:Rat):CFV ⟨k,fun _=>0,fun _=>0⟩:=⟨fun p h=>absurd rfl h,fun q h=>absurd rfl h⟩
theorem CFD.count (h:Dn d N k):CFD d N ⟨k,fun _=>0,fun _=>0⟩:=⟨h,fun _=>Dn.zero _ _,fun _=>Dn.zero _ _⟩
end
section
variable {F G:CF}{L:List (Par×Par)}{M N d e:Nat}{p q:Par}
structure CFS (F:CF):Prop where
 c:B4 F.c=true
 s:∀ p,B4 (F.s p)=true
 t:∀ q,B4 (F.t q)=true
theorem CFD.cfs (h:CFD d N F)(hd:d<=50)(hN:N<10^100):CFS F:=⟨h.c.small hd hN,fun p=>(h.s p).small hd hN,fun q=>(h.t q).small hd hN⟩
def con (F G:CF)(x:Par×Par):Rat:=if x.1=x.2 then F.s x.1*G.s x.2+F.s x.1*G.s x.2 else F.s x.1*G.s x.2
def D3 (F G:CF):List (Par×Par)->Par×Par->Rat
 |[],_=>0
 |x::L,k=>(if A5 x.1 x.2=k then con F G x else 0)+D3 F G L k
theorem Ih (F G:CF)(x:Par×Par):∀ (L:List (Par×Par)) (k:Par×Par),D3 F G (L++[x]) k=if k=A5 x.1 x.2 then con F G x+D3 F G L k else D3 F G L k
 |[],k=>by
  simp only[List.nil_append,D3];by_cases h:k=A5 x.1 x.2
  ·rw[if_pos h.symm,if_pos h]
  ·rw[if_neg (fun e=>h e.symm),if_neg h];grind
 |y::L,k=>by
  simp only[Ayt,D3];rw[Ih F G x L k];by_cases h:k=A5 x.1 x.2
  ·rw[if_pos h,if_pos h];grind
  ·rw[if_neg h,if_neg h]
def two (F G:CF)(L:List (Par×Par))(k:Par×Par):Rat :=
 if 0<Bd k.1 k.2 then 0 else if k.1=k.2 then (if k∈L then con F G k else 0) else (if k∈L then con F G k else 0)+(if (k.2,k.1)∈L then con F G (k.2,k.1) else 0)
theorem Mc (h:0<Bd p q):A5 p q=(q,p):=by unfold A5;rw[if_pos h]
theorem F7 (h:¬ 0<Bd p q):A5 p q=(p,q):=by unfold A5;rw[if_neg h]
theorem Qc (p q:Par):¬ 0<Bd (A5 p q).1 (A5 p q).2:=by
 by_cases h:0<Bd p q
 ·rw[Mc h];intro h';have:=(Fr.sym p q).1;have h1:=(Fr.sym q p).2 h;simp only at h';omega
 ·rw[F7 h];exact h
theorem Jy {p q a b:Par}:A5 p q=(a,b)↔¬ 0<Bd a b/\((p=a/\q=b)\/(p=b/\q=a)):=by
 constructor
 ·intro h;have:=Qc p q;rw[h]at this;refine⟨this,?_⟩;by_cases h':0<Bd p q
  ·rw[Mc h']at h;cases h;exact .inr ⟨rfl,rfl⟩
  ·rw[F7 h']at h;cases h;exact .inl ⟨rfl,rfl⟩
 ·rintro⟨h,⟨rfl,rfl⟩|⟨rfl,rfl⟩⟩
  ·exact F7 h
  ·rw[T8];exact F7 h
theorem Qg (F G:CF):∀ (L:List (Par×Par)) (k:Par×Par),L.Nodup->D3 F G L k=two F G L k
 |[],k,_=>by
  unfold D3 two;split
  ·rfl
  ·split
   ·simp
   ·simp;grind
 |(p,q)::L,(a,b),hn=>by
  rw[Awr]at hn;unfold D3;rw[Qg F G L (a,b) hn.2];unfold two;simp only;by_cases h0:0<Bd a b
  ·rw[if_pos h0,if_pos h0,if_neg (fun e=>(Jy.1 e).1 h0)];grind
  ·rw[if_neg h0,if_neg h0];by_cases hab:a=b
   ·subst hab;rw[if_pos rfl,if_pos rfl];by_cases hx:(p,q)=(a,a)
    ·cases hx;rw[if_pos (Jy.2 ⟨h0,.inl ⟨rfl,rfl⟩⟩),if_neg hn.1,if_pos mV];grind
    ·rw[if_neg (fun e=>hx (by rcases (Jy.1 e).2 with ⟨rfl,rfl⟩|⟨rfl,rfl⟩<;>rfl))]
     have:((a,a)∈(p,q)::L)↔(a,a)∈L:=by simp[At6,Ne.symm hx]
     simp only[this];grind
   ·rw[if_neg hab,if_neg hab];by_cases hx:(p,q)=(a,b)
    ·cases hx;rw[if_pos (Jy.2 ⟨h0,.inl ⟨rfl,rfl⟩⟩),if_neg hn.1,if_pos (show (p,q)∈(p,q)::L by simp)];have:((q,p)∈(p,q)::L)↔(q,p)∈L:=by simp[At6,Ne.symm hab]
     simp only[this];grind
    ·by_cases hy:(p,q)=(b,a)
     ·cases hy;rw[if_pos (Jy.2 ⟨h0,.inr ⟨rfl,rfl⟩⟩),if_neg hn.1,if_pos (show (p,q)∈(p,q)::L by simp)];have:((q,p)∈(p,q)::L)↔(q,p)∈L:=by simp[At6,hab]
      simp only[this];grind
     ·rw[if_neg (fun e=>by rcases (Jy.1 e).2 with ⟨rfl,rfl⟩|⟨rfl,rfl⟩;exact hx rfl;exact hy rfl)];have h1:((a,b)∈(p,q)::L)↔(a,b)∈L:=by simp[At6,Ne.symm hx]
      have h2:((b,a)∈(p,q)::L)↔(b,a)∈L:=by simp[At6,Ne.symm hy]
      simp only[h1,h2];grind
theorem Ai2 (F G:CF)(hn:L.Nodup)(ha:∀ p q,F.s p≠0->G.s q≠0->(p,q)∈L)(k:Par×Par):D3 F G L k=Hh F G k:=by
 rw[Qg F G L k hn];have key:∀ p q:Par,(if (p,q)∈L then con F G (p,q) else 0)=con F G (p,q):=fun p q=>by
  by_cases h:(p,q)∈L
  ·rw[if_pos h]
  ·rw[if_neg h];have:F.s p=0\/G.s q=0:=by
    by_cases h1:F.s p=0
    ·exact .inl h1
    ·by_cases h2:G.s q=0
     ·exact .inr h2
     ·exact absurd (ha p q h1 h2) h
   unfold con;simp only;rcases this with h1|h1<;>rw[h1]<;>split<;>grind
 obtain⟨a,b⟩:=k;unfold two Hh;simp only[key];split
 ·rfl
 ·split
  ·rename_i e;subst e;unfold con;simp only[if_true];grind
  ·rename_i e;unfold con;simp only[if_neg e,if_neg (fun e':b=a=>e e'.symm)]
theorem Akl (h:CFD d N F)(h':CFD e M G)(x:Par×Par):Dn (d+e) (2*(N*M)) (con F G x):=by
 unfold con;split
 ·exact (((h.s x.1).mul (h'.s x.2)).add ((h.s x.1).mul (h'.s x.2))).mono oV
 ·exact ((h.s x.1).mul (h'.s x.2)).mono oV
theorem Ami (h:CFD d N F)(h':CFD e M G)(hn:L.Nodup)(k:Par×Par):Dn (d+e) (4*(N*M)) (D3 F G L k):=by
 rw[Qg F G L k hn];have h1:∀ x,Dn (d+e) (2*(N*M)) (if x∈L then con F G x else 0):=fun x=>by
  split
  ·exact Akl h h' x
  ·exact Dn.zero _ _
 unfold two;split
 ·exact Dn.zero _ _
 ·split
  ·exact (h1 k).mono oV
  ·exact ((h1 k).add (h1 _)).mono oV
def Ds {κ:Type}[DecidableEq κ](a:κ):List (κ×Rat)->Rat
 |[]=>0
 |(b,q)::l=>if a=b then q else Ds a l
section
variable {κ:Type} [DecidableEq κ]
theorem S7 {a:κ}{q:Rat}:∀ {l:List (κ×Rat)},(l.map (·.1)).Nodup->(a,q)∈l->Ds a l=q
 |(b,r)::l,hn,h=>by
  simp only[Auk,Awr]at hn;unfold Ds;rcases At6.1 h with e|e
  ·cases e;rw[if_pos rfl]
  ·have:a≠b:=fun e'=>hn.1 (by rw[<-e'];exact Ate.2 ⟨_,e,rfl⟩);rw[if_neg this];exact S7 hn.2 e
theorem Tf {a:κ}:∀ {l:List (κ×Rat)},a∉l.map (·.1)->Ds a l=0
 |[],_=>rfl
 |(b,r)::l,h=>by
  simp only[Auk,At6,not_or]at h;unfold Ds;rw[if_neg h.1];exact Tf h.2
end
end
section
variable [Ca] [Df] [Pu]
def Apo:List KI->Bool
 |.code (.region _ _ _)::_=>true
 |_=>false
def Jc (P:Program):Nat->List KI×S->List KI×S
 |0,st=>st
 |n+1,st=>cond (Apo st.1) st (match one P st.1 st.2 with|some st'=>Jc P n st'|none=>st)
section rules
variable {P:Program} [A7 P] {fn:Func} {Post:By} {st:List KI×S} {u m:PH}
theorem Nq:∀ (n:Nat) (st:List KI×S),Sym P fn Post (Jc P n st).1 (Jc P n st).2 u m->Sym P fn Post st.1 st.2 u m
 |0,st,h=>h
 |n+1,st,h=>by
  unfold Jc at h;cases hn:Apo st.1 with
  |true=>simp[hn]at h;exact h
  |false =>
   simp only[hn,cond_false]at h;split at h
   ·rename_i st' he;obtain⟨ks',s'⟩:=st';exact My A7.mx he (Nq n _ h)
   ·exact h
theorem G.canon (T:List (Nat×SV))(B:List (Nat×Blk))(h:Gg (Jc P 200 st).1=true)(hl:Vg T B=true)(h0:Cov (Jc P 200 st).2.n (Jc P 200 st).2 T B)(k:G P fn Post ((Jc P 200 st).1,S.of (Jc P 200 st).2.n T B) u m):G P fn Post st u m:=by
 refine⟨Nq 200 st ?_⟩;have hk:=k.out;rw[Sym.ofNo h]at hk⊢;intro c ρ a w hm0 hr;exact hk c ρ a w hm0 (hr.cov h0 hl)
end rules
end
section
theorem Ann {x y:List UInt8}(h:Op.bytesLess x y=true):Op.bytesLess y x=false:=by
 cases h':Op.bytesLess y x with
 |false=>rfl
 |true=>have:=Oy h h';rw[Qv]at this;cases this
theorem Ar5 (x y:List UInt8):(!(Op.bytesLess x y||decide (x=y)))=Op.bytesLess y x:=by
 cases h1:Op.bytesLess x y with
 |true=>rw[Ann h1];rfl
 |false =>
  by_cases e:x=y
  ·subst e;rw[h1];simp
  ·cases h2:Op.bytesLess y x with
   |true=>simp[e]
   |false=>exact absurd (Zc h1 h2) e
section rules
variable [Ca] {P:Program} [A7 P] {fn:Func} {Post:By} {st:List KI×S} {u m:PH}
theorem G.ltS (a b:List UInt8)(r:Bool)(h:Al P (adv P st)=.bin .lss (.string (mkS a)) (.string (mkS b)))(hr:Op.bytesLess a b=r)(k:G P fn Post (nx (adv P st) (.bool r)) u m):G P fn Post st u m :=
 G.bin (.bool r) h (fun t X Y w=>Gn t X Y w) (fun t w=>by simp only[binOp,Op.stringOp,Kx];rw[hr];rfl) k
theorem G.gtS (a b:List UInt8)(r:Bool)(h:Al P (adv P st)=.bin .gtr (.string (mkS a)) (.string (mkS b)))(hr:Op.bytesLess b a=r)(k:G P fn Post (nx (adv P st) (.bool r)) u m):G P fn Post st u m :=
 G.bin (.bool r) h (fun t X Y w=>Gn t X Y w) (fun t w=>by
  rw[<-hr,<-Ar5];simp only[binOp,Op.stringOp,Kx];rw[show (a==b)=decide (a=b) from by by_cases e:a=b<;>simp[e]]
  rfl) k
end rules
section
variable [Ca] {u:PH}
theorem Agd (x:Int):Fn0 prog 207 [.int .i64 x] u fun v _=>v=.bool false:=by
 refine Fn0.o func207 ?_;refine G.nF x x ?_;exact G.r (.bool false) ⟨rfl,rfl⟩
theorem Afc (x:List UInt8):Fn0 prog 208 [.string (mkS x)] u fun v _=>v=.bool false:=by
 refine Fn0.o func208 ?_;refine G.y x x rfl ?_;exact G.r (.bool false) ⟨rfl,rfl⟩
theorem Arz (x y:Int):Fn0 prog 159 [.int .i64 x,.int .i64 y] u fun v _=>v=.int .i64 (Np x y):=by
 refine Fn0.o func159 ?_;refine G.c call207 (Agd x) ?_;rintro v1 u1 l1 rfl;refine G.c call207 (Agd y) ?_;rintro v2 u2 l2 rfl;unfold Np;by_cases h:x<y
 ·refine G.lT' x y h ?_;exact G.r (.int .i64 (-1)) ⟨rfl,by rw[if_pos h]⟩
 ·refine G.lF' x y h ?_;by_cases h':x>y
  ·refine G.gT' x y h' ?_;exact G.r (.int .i64 1) ⟨rfl,by rw[if_neg h,if_pos h']⟩
  ·refine G.gF' x y h' ?_;exact G.r (.int .i64 0) ⟨rfl,by rw[if_neg h,if_neg h']⟩
theorem Ash (x y:List UInt8):Fn0 prog 160 [.string (mkS x),.string (mkS y)] u fun v _=>v=.int .i64 (Rn x y):=by
 refine Fn0.o func160 ?_;refine G.c call208 (Afc x) ?_;rintro v1 u1 l1 rfl;refine G.c call208 (Afc y) ?_;rintro v2 u2 l2 rfl;unfold Rn;cases h:Op.bytesLess x y with
 |true =>
  refine G.ltS x y true kV h ?_;exact G.r (.int .i64 (-1)) ⟨rfl,by rw[if_pos rfl]⟩
 |false =>
  refine G.ltS x y false kV h ?_;cases h':Op.bytesLess y x with
  |true =>
   refine G.gtS x y true kV h' ?_;exact G.r (.int .i64 1) ⟨rfl,by rw[if_neg mV,if_neg (fun e=>by subst e;rw[Qv]at h';cases h')]⟩
  |false =>
   refine G.gtS x y false kV h' ?_;exact G.r (.int .i64 0) ⟨rfl,by rw[if_neg mV,if_pos (Zc h h')]⟩
theorem Aro (x y:Int){b:Nat}(h:Eu u b 0 1 [.int .i64 x,.int .i64 y]):Fn0 prog 158 [.slice (some ⟨b,0,none⟩) 2 2] u fun v _=>v=.int .i64 (if x≠0 then x else y):=by
 refine Fn0.o func158 ?_;refine G.l (ι:=Nat) (fun i=>[(3,iV 0),(6,sV (some ⟨b,0,none⟩) 2 2),(7,iV (2:Nat)),(8,iV i)]) (fun _=>[])
  (fun i u' m'=>i<=2/\m'=PH.mt/\(1<=i->x=0)/\(2<=i->y=0)) (fun i=>2-i) 0 ⟨oV,rfl,oV,oV⟩ ?_
 rintro J i hJ u' m' hle ⟨hi,rfl,hx,hy⟩;by_cases h2:i=2
 ·subst h2;refine G.lF ((2:Nat):Int) ((2:Nat):Int) ?_;exact G.r (.int .i64 0) ⟨rfl,by rw[if_neg (by simp[hx oV]),hy oV]⟩
 ·refine G.lT (i:Int) ((2:Nat):Int) ?_;refine G.a b 0 2 2 i 1 oV ?_;obtain⟨z,hz,h1,h2⟩:∃ z:Int,ElP u' b (0+i*1) (.int .i64 z)/\(z≠0->(if x≠0 then x else y)=z)/\(z=0->(1<=i+1->x=0)/\(2<=i+1->y=0)):=by
   rcases (by omega:i=0\/i=1) with rfl|rfl
   ·exact⟨x,(h 0 _ rfl).mono hle,fun hz=>if_pos hz,fun hz=>⟨fun _=>hz,oV⟩⟩
   ·exact⟨y,(h 1 _ rfl).mono hle,fun hz=>if_neg (by simp[hx oV]),fun hz=>⟨fun _=>hx oV,fun _=>hz⟩⟩
  refine G.lU none b (0+i*1) (.int .i64 z) hz ?_;by_cases h0:z=0
  ·refine G.nF z 0 ?_;refine G.i i ?_;exact G.b (hJ (i+1) _ _ _ cV hle ⟨oV,rfl,(h2 h0).1,(h2 h0).2⟩ oV)
  ·refine G.nT' z 0 h0 ?_;exact G.r (.int .i64 z) ⟨rfl,by rw[h1 h0]⟩
theorem Ta (p q:Par):Fn0 prog 95 [A3 p,A3 q] u fun v _=>v=.int .i64 (Bd p q):=by
 refine Fn0.o func95 ?_;refine G.c call159 (Arz p.1 q.1) ?_;rintro v1 u1 l1 rfl;refine G.c call160 (Ash p.2 q.2) ?_;rintro v2 u2 l2 rfl;refine G.B 3 1 8 (.int .i64 0) [.int .i64 (Np p.1 q.1),.int .i64 (Rn p.2 q.2)] (Lv [_,_]) ?_;intro g u3 l3 e3;refine G.c call158 (Aro _ _ e3) ?_;rintro v4 u4 l4 rfl;exact G.r _ ⟨rfl,rfl⟩
end
end
section
variable {N s:Nat}{nz:Bool}{o:Obj}{q:Rat}{u u':PH}
abbrev SB (q:Rat):Prop:=B4 q=true
theorem SB.sz (h:SB q):Sz q 12:=(Cz h).2
theorem SB.tx (h:SB q):Tx q:=(Cz h).1
theorem SB.zero:SB 0:=fV
abbrev fz:Value:=.agg #[.bool false,.slice none 0 0,.bool false,.slice none 0 0]
theorem As0 :sgn q.num=0↔q=0:=by
 constructor
 ·intro h;have:q.num=0:=by
   rcases Awd q.num 0 with h1|h1|h1
   ·rw[Dc h1]at h;cases h
   ·exact h1
   ·rw[Cf h1]at h;cases h
  exact Axp.1 this
 ·rintro rfl;rfl
theorem Fs.at {κ:Type}[DecidableEq κ]{enc:κ->Value}{R:PH->Value->Rat->Prop}{f:κ->Rat}(h:Fs enc R nz u o f N s):∃ l:List (κ×Value),Et enc o l/\(∀ p∈l,R u p.2 (f p.1)/\(nz=true->f p.1≠0)/\Sz (f p.1) s)/\(∀ k,k∉l.map (·.1)->f k=0)/\l.length<=N:=h
theorem Fs.mf {κ:Type}[DecidableEq κ]{enc:κ->Value}{f:κ->Rat}(h:Fs enc An nz u o f N s)(hl:PH.le u u'):Fs enc An nz u' o f N s:=by
 obtain⟨l,h1,h2,h3,h4⟩:=h;exact⟨l,h1,fun p hp=>⟨(h2 p hp).1.mono hl,(h2 p hp).2⟩,h3,h4⟩
def Ana (m' u:PH)(v:Value)(F:CF)(N:Nat):Prop :=
 ∃ b a n c b' a' n' c' g1 g2 o1 o2,v=.agg #[.bool b,.slice a n c,.bool b',.slice a' n' c',.map (some g1),.map (some g2)]/\An u (.agg #[.bool b,.slice a n c,.bool b',.slice a' n' c']) F.c/\g1≠g2/\m'=(PH.mt.upd g1 o1).upd g2 o2/\Fs A3 An true u o1 F.s N 12/\Fs prV An true u o2 F.t N 12
def Ahz (u:PH)(v:Value)(F:CF)(N:Nat):Prop :=
 ∃ b a n c b' a' n' c' g1 g2 o1 o2,v=.agg #[.bool b,.slice a n c,.bool b',.slice a' n' c',.map (some g1),.map (some g2)]/\An u (.agg #[.bool b,.slice a n c,.bool b',.slice a' n' c']) F.c/\u g1=some o1/\u g2=some o2/\Fs A3 An true u o1 F.s N 12/\Fs prV An true u o2 F.t N 12
theorem Ahz.mono {u u':PH}{v:Value}{F:CF}{N:Nat}(h:Ahz u v F N)(hl:PH.le u u'):Ahz u' v F N:=by
 obtain⟨b,a,n,c,b',a',n',c',g1,g2,o1,o2,e,h1,h2,h3,h4,h5⟩:=h;exact⟨b,a,n,c,b',a',n',c',g1,g2,o1,o2,e,h1.mono hl,hl _ _ h2,hl _ _ h3,h4.mf hl,h5.mf hl⟩
theorem Ana.give {m' u u':PH}{v:Value}{F:CF}(h:Ana m' u v F N)(hl:PH.le u u')(hm:PH.le m' u'):Ahz u' v F N:=by
 obtain⟨b,a,n,c,b',a',n',c',g1,g2,o1,o2,e,h1,h2,rfl,h4,h5⟩:=h;exact⟨b,a,n,c,b',a',n',c',g1,g2,o1,o2,e,h1.mono hl,hm _ _ (by rw[Ac _ _ h2,Ab]),hm _ _ (Ab _ _ _),h4.mf hl,h5.mf hl⟩
theorem Ask (p q:Par):Fn0 prog 98 [A3 p,A3 q] u fun v _=>v=prV (A5 p q):=by
 refine Fn0.o func98 ?_;refine G.c call95 (Ta p q) ?_;rintro v1 u1 l1 rfl;by_cases h:0<Bd p q
 ·refine G.gT' (Bd p q) 0 h ?_;refine G.r (prV (q,p)) ⟨rfl,?_⟩;rw[Mc h]
 ·refine G.gF' (Bd p q) 0 h ?_;refine G.r (prV (p,q)) ⟨rfl,?_⟩;rw[F7 h]
theorem Arh {n:Int}(h1:-9223372036854775808<=n)(h2:n<=9223372036854775807):Ak prog 97 [.int .i64 n] u PH.mt fun v u' m'=>Ana m' u' v ⟨(n:Rat),fun _=>0,fun _=>0⟩ 0:=by
 refine Ak.o func97 ?_;refine G.c call56 (Dk h1 h2) ?_;intro v1 u1 l1 k1;obtain⟨b,a,nn,c,b',a',n',c',rfl⟩:=k1.opn;refine G.mapMk kV ?_;intro g1 hm1 hu1;refine G.mapMk kV ?_;intro g2 hm2 hu2;have hne:g1≠g2:=fun e=>by subst e;rw[Ab]at hm2;cases hm2
 exact G.r (.agg #[.bool b,.slice a nn c,.bool b',.slice a' n' c',.map (some g1),.map (some g2)]) ⟨b,a,nn,c,b',a',n',c',g1,g2,_,_,rfl,k1,hne,rfl,Fs.empty 12,Fs.empty 12⟩
end
section
section
variable {κ:Type} [DecidableEq κ]
def Dw (f g:κ->Rat)(q:Rat)(L:List κ):κ->Rat:=fun k=>if k∈L then g k*q+f k else f k
theorem H0 (f g:κ->Rat)(q:Rat){L:List κ}{k:κ}(h:k∉L):Hs (Dw f g q L) k (g k*q+Dw f g q L k)=Dw f g q (L++[k]):=by
 funext j
 unfold Hs Dw;by_cases e:j=k
 ·subst e;rw[if_pos rfl,if_neg h,if_pos mV]
 ·rw[if_neg e];by_cases hj:j∈L
  ·rw[if_pos hj,if_pos (by simp[hj])]
  ·rw[if_neg hj,if_neg (by simp[hj,e])]
theorem Je (f g:κ->Rat)(q:Rat){L:List κ}(h:∀ k,k∉L->g k=0):Dw f g q L=fun k=>f k+g k*q:=by
 funext k
 unfold Dw;by_cases hk:k∈L
 ·rw[if_pos hk];grind
 ·rw[if_neg hk,h k hk];grind
theorem Mo {f g:κ->Rat}{q:Rat}{L:List κ}(h1:∀ k,SB (f k))(h2:∀ k,SB (f k+g k*q))(k:κ):SB (Dw f g q L k):=by
 unfold Dw;split
 ·rw[Rat.add_comm];exact h2 k
 ·exact h1 k
end
end
section
def Apy (t:TypeId):Op->Bool
 |.binOp _ t' ..=>Nat.beq t' t
 |_=>false
section rules
variable [Ca] {P:Program} [A7 P] {fn:Func} {Post:By} {st:List KI×S} {u m:PH}
theorem Aat {op:BinOp}{t:TypeId}{xs ys:Array Value}(X Y:Operand)(hg:P.eqGuardType P.depth t=false)(w:World):(eqGuard op t X Y (.agg xs) (.agg ys)).run P w=.ok () w:=by
 unfold eqGuard;split<;>simp[hg]
theorem G.eqAgg (t:TypeId)(xs ys:Array Value)(r:Bool)(h:Al P (adv P st)=.binT .eql (P.underlying t) (.agg xs) (.agg ys))(hq:V9 (Apy t) (adv P st)=true)(hg:P.eqGuardType P.depth t=false)(he:∀ w,(Op.equal t (.agg xs) (.agg ys)).run P w=.ok r w)
 (k:G P fn Post (nx (adv P st) (.bool r)) u m):G P fn Post st u m:=by
 refine G.askQ (Apy t) h hq mV (fun env o hview hQ w _=>?_) k;obtain⟨t',X,Y,yt,e,e1,e2,e3⟩:=Ms hview;obtain⟨dst,opp,type,pos,after,guard⟩:=o;simp only at e;subst e;obtain rfl:t'=t:=Nat.eq_of_beq_eq_true hQ;simp[execOp,e1,e2,Aat X Y hg,binOp,he]
end rules
end
structure App (F H:CF):Prop where
 a:CFS F
 b:CFS H
 c:CFS (H.scale F.c)
 d:CFS (F.scale H.c)
 e:CFS ((H.scale F.c).add (F.scale H.c))
 f:SB (F.c*H.c)
 pr:∀ p q,SB (F.s p*H.s q)
 con:∀ x,SB (con F H x)
 acc:∀ Ps:List (Par×Par),Ps.Nodup->∀ k,SB (((H.scale F.c).add (F.scale H.c)).t k+D3 F H Ps k)
theorem Asj {d e N M:Nat}{F H:CF}(h:CFD d N F)(h':CFD e M H)(hd:d+e<=50)(hN:8*(N*M)<10^100)(h1:0<N)(h2:0<M):App F H:=by
 have b1:N<=N*M:=Nat.le_mul_of_pos_right _ h2;have b2:M<=N*M:=Nat.le_mul_of_pos_left _ h1;have c1:CFD (d+e) (N*M) (H.scale F.c):=by have:=h'.scale h.c;rw[Nat.add_comm,At7]at this;exact this
 have c2:CFD (d+e) (N*M) (F.scale H.c):=h.scale h'.c;exact⟨h.cfs oV oV,h'.cfs oV oV,c1.cfs hd oV,c2.cfs hd oV,(c1.add c2).cfs hd oV,(h.c.mul h'.c).small hd oV,
  fun p q=>((h.s p).mul (h'.s q)).small hd oV,fun x=>(Akl h h' x).small hd oV,fun Ps hn k=>(((c1.add c2).t k).add (Ami h h' hn k)).small hd oV⟩
section
def Bk (p:Par×Rat):Value:=.agg #[.int .i64 p.1.1,.string (mkS p.1.2),.string (mkS (Ap p.2))]
def D0 (x:(Par×Par)×Rat):Value:=.agg #[.int .i64 x.1.1.1,.string (mkS x.1.1.2),.int .i64 x.1.2.1,.string (mkS x.1.2.2),.string (mkS (Ap x.2))]
def Lw (u:PH)(v:Value)(F:CF)(K:Nat):Prop :=
 ∃ (T:List (Par×Rat)) (Q:List ((Par×Par)×Rat)) (a1:Option Addr) (c1:Nat) (a2:Option Addr) (c2:Nat),v=.agg #[.string (mkS (Ap F.c)),.slice a1 T.length c1,.slice a2 Q.length c2] /\
  Ad u (.slice a1 T.length c1) 3 (T.map Bk)/\Ad u (.slice a2 Q.length c2) 5 (Q.map D0)/\Can Bd F.s T/\Can L1 F.t Q/\T.length<=K/\Q.length<=K
theorem Lw.mono {u u':PH}{v:Value}{F:CF}{K:Nat}(h:Lw u v F K)(hl:PH.le u u'):Lw u' v F K:=by
 obtain⟨T,Q,a1,c1,a2,c2,e,h1,h2,h3⟩:=h;exact⟨T,Q,a1,c1,a2,c2,e,h1.mono hl,h2.mono hl,h3⟩
section
variable {κ:Type} [DecidableEq κ]
theorem Aa7 {l:List (κ×Rat)}{a:κ}{q:Rat}(h:a∉l.map (·.1)):(fun k=>Ds k (l++[(a,q)]))=Hs (fun k=>Ds k l) a q:=by
 funext k
 unfold Hs;induction l with
 |nil=>simp[Ds]
 |cons p l ih =>
  obtain⟨b,r⟩:=p;simp only[Auk,At6,not_or]at h;simp only[Ayt,Ds];by_cases hk:k=b
  ·rw[if_pos hk,if_pos hk,if_neg (fun e=>h.1 (by rw[<-e,hk]))]
  ·rw[if_neg hk,if_neg hk];exact ih h.2
theorem Can.fn {c:κ->κ->Int}(hc:Ord c){f:κ->Rat}{l:List (κ×Rat)}(h:Can c f l):∀ k,Ds k l=f k:=fun k=>by
 by_cases hk:k∈l.map (·.1)
 ·obtain⟨p,hp,rfl⟩:=Ate.1 hk;rw[S7 (h.srt.nodup hc) (q:=p.2) hp];exact (h.val p hp).1
 ·rw[Tf hk,h.out k hk]
theorem Aap {l:List (κ×Rat)}{i:Nat}{p:κ×Rat}(hn:(l.map (·.1)).Nodup)(hi:l[i]?=some p):p.1∉(l.take i).map (·.1):=by
 intro hm;obtain⟨q,hq,e⟩:=Ate.1 hm;obtain⟨j,hj,rfl⟩:=List.mem_iff_getElem.1 hq;have hji:j<i:=by simp at hj;omega
 obtain⟨hil,rfl⟩:=Atc.1 hi;rw[Azn]at e;have:=Avr.1 hn j i gV (by simpa using hil) hji;simp only[Awp]at this;exact this e
end
theorem Fs.snoc {κ:Type}[DecidableEq κ]{enc:κ->Value}{u:PH}{o o':Obj}{T:List (κ×Rat)}{p:κ×Rat}{x:Value}{l:List (κ×Value)}{N:Nat}(ho:Et enc o l)(h2:∀ y∈l,An u y.2 (Ds y.1 T)/\(true=true->Ds y.1 T≠0)/\Sz (Ds y.1 T) 12)(h3:∀ k,k∉l.map (·.1)->Ds k T=0)(h4:l.length<=N)
 (h':Et enc o' (In p.1 x l)) (hx:An u x p.2) (hp:p.1∉T.map (·.1)) (h0:p.2≠0) (hs:SB p.2):Fs enc An true u o' (fun k=>Ds k (T++[p])) (N+1) 12:=by
 obtain⟨a,q⟩:=p;rw[Aa7 hp];exact Fs.put (f:=fun k=>Ds k T) ho h2 h3 h4 h' hx (fun _=>h0) hs.sz (Atb _)
abbrev zvL:List SV:=[.v (.bool false),.v (.slice none 0 0),.v (.bool false),.v (.slice none 0 0),.v (.map none),.v (.map none)]
theorem of0 {u:PH}{F:CF}{K:Nat}{v:Value}(hv:Lw u v F K)(sF:CFS F)(hK:K<=1000000) :
 Ak prog 37 [v] u PH.mt fun v' u' m'=>Ana m' u' v' F K:=by
 obtain⟨T,Q,a1,c1,a2,c2,rfl,hT,hQ,cT,cQ,kT,kQ⟩:=hv;have ndT:=cT.srt.nodup Fr;have ndQ:=cQ.srt.nodup Are;refine Ak.o func37 ?_;refine G.callO _ _ kV call97 (Arh (n:=0) oV oV) ?_;rintro v1 u1 m1 l1 r1 _;rw[C6];obtain⟨b,a,n,c,b',a',n',c',g1,g2,o1,o2,rfl,h1,hne,rfl,h4,h5⟩:=r1;refine G.c call54 (Ep (SB.tx sF.c)) ?_;intro v2 u2 l2 r2;obtain⟨b2,x2,n2,d2,b2',x2',n2',d2',rfl⟩:=r2.opn;refine G.l (ι:=Nat) (fun i=>[(1,.p 0 0),(2,.p 1 0),(3,.p 1001 0),(14,sV a1 T.length c1),(15,iV T.length),(16,iV i)])
  (fun _=>[(0,⟨38,[tV (Ap F.c),sV a1 T.length c1,sV a2 Q.length c2]⟩),(1,⟨107,zvL⟩),(1001,⟨107,[bV b2,sV x2 n2 d2,bV b2',sV x2' n2' d2',.v (.map (some g1)),.v (.map (some g2))]⟩)])
  (fun i u' m'=>i<=T.length/\m' g2=some o2/\∃ o1',m' g1=some o1'/\Fs A3 An true u' o1' (fun k=>Ds k (T.take i)) i 12)
  (fun i=>T.length-i) 0
  ⟨oV,Ab _ _ _,o1,by rw[Ac _ _ hne,Ab],(h4.mf l2).congr fun k=>by simp[Ds]⟩ ?_
 rintro J i hJ u3 m3 l3 ⟨hi,hg2,o1',hg1,hR⟩;by_cases hlt:i<T.length
 ·refine G.lT (i:Int) (T.length:Int) ?_;have hTi:T[i]?=some T[i]:=As5 hlt;obtain⟨ba,oa,rfl,ea⟩:=Ad.at' (hT.mono ((l1.trans l2).trans l3)) (j:=i) (e:=Bk T[i]) (by simp[hTi]);obtain⟨hval,h0⟩:=cT.val _ (Ath hlt);have hs:SB T[i].2:=by rw[hval];exact sF.s _
  refine G.a ba oa T.length c1 i 3 oV ?_;refine G.lU (some 3) ba (oa+i*3) (.agg #[.int .i64 T[i].1.1,.string (mkS T[i].1.2),.string (mkS (Ap T[i].2))]) ea ?_;refine G.c call54 (Ep hs.tx) ?_;intro v4 u4 l4 r4;obtain⟨b4,x4,n4,d4,b4',x4',n4',d4',rfl⟩:=r4.opn;obtain⟨l,ho,q2,q3,q4⟩:=(hR.mf l4).at;refine G.mapPut (et:=103) Dr g1 o1' l T[i].1 (.agg #[.bool b4,.slice x4 n4 d4,.bool b4',.slice x4' n4' d4']) kV kV hg1 ho ?_;intro o' ho';refine G.i i ?_;refine G.b (hJ (i+1) _ _ _ cV (l3.trans l4) ⟨oV,by rw[Ac _ _ (Ne.symm hne)];exact hg2,o',Ab _ _ _,?_⟩ oV);rw[At0,hTi];exact Fs.snoc ho q2 q3 q4 ho' r4 (Aap ndT hTi) h0 hs
 obtain rfl:i=T.length:=oV
 refine G.lF (T.length:Int) (T.length:Int) ?_;have hR':Fs A3 An true u3 o1' F.s T.length 12:=by
  rw[At9]at hR;exact hR.congr (cT.fn Fr)
 refine G.l (ι:=Nat) (fun i=>[(2,.p 1 0),(3,.p 1001 0),(29,sV a2 Q.length c2),(30,iV Q.length),(31,iV i)])
  (fun _=>[(1,⟨107,zvL⟩),(1001,⟨107,[bV b2,sV x2 n2 d2,bV b2',sV x2' n2' d2',.v (.map (some g1)),.v (.map (some g2))]⟩)])
  (fun i u' m'=>i<=Q.length/\m' g1=some o1'/\∃ o2',m' g2=some o2'/\Fs prV An true u' o2' (fun k=>Ds k (Q.take i)) i 12)
  (fun i=>Q.length-i) 0
  ⟨oV,hg1,o2,hg2,(h5.mf (l2.trans l3)).congr fun k=>by simp[Ds]⟩ ?_
 rintro J2 i hJ2 u5 m5 l5 ⟨hi2,hg15,o2',hg25,hR2⟩;by_cases hlt:i<Q.length
 ·refine G.lT (i:Int) (Q.length:Int) ?_;have hQi:Q[i]?=some Q[i]:=As5 hlt;obtain⟨ba,oa,rfl,ea⟩:=Ad.at' (hQ.mono (((l1.trans l2).trans l3).trans l5)) (j:=i) (e:=D0 Q[i]) (by simp[hQi]);obtain⟨hval,h0⟩:=cQ.val _ (Ath hlt);have hs:SB Q[i].2:=by rw[hval];exact sF.t _
  refine G.a ba oa Q.length c2 i 5 oV ?_;refine G.lU (some 5) ba (oa+i*5) (.agg #[.int .i64 Q[i].1.1.1,.string (mkS Q[i].1.1.2),.int .i64 Q[i].1.2.1,.string (mkS Q[i].1.2.2),.string (mkS (Ap Q[i].2))]) ea ?_;refine G.c call54 (Ep hs.tx) ?_;intro v4 u4 l4 r4;obtain⟨b4,x4,n4,d4,b4',x4',n4',d4',rfl⟩:=r4.opn;obtain⟨l,ho,q2,q3,q4⟩:=(hR2.mf l4).at;refine G.mapPut (et:=103) Akj g2 o2' l Q[i].1 (.agg #[.bool b4,.slice x4 n4 d4,.bool b4',.slice x4' n4' d4']) kV kV hg25 ho ?_;intro o' ho';refine G.i i ?_;refine G.b (hJ2 (i+1) _ _ _ cV (l5.trans l4) ⟨oV,by rw[Ac _ _ hne];exact hg15,o',Ab _ _ _,?_⟩ oV);rw[At0,hQi];exact Fs.snoc ho q2 q3 q4 ho' r4 (Aap ndQ hQi) h0 hs
 obtain rfl:i=Q.length:=oV
 refine G.lF (Q.length:Int) (Q.length:Int) ?_;have hR2':Fs prV An true u5 o2' F.t Q.length 12:=by
  rw[At9]at hR2;exact hR2.congr (cQ.fn Are)
 refine G.drop ((PH.mt.upd g1 o1').upd g2 o2') kV (fun g o hg=>?_) ?_
 ·by_cases e:g=g2
  ·subst e;rw[Ab]at hg;cases hg;exact hg25
  ·rw[Ac _ _ e]at hg;by_cases e:g=g1
   ·subst e;rw[Ab]at hg;cases hg;exact hg15
   ·rw[Ac _ _ e]at hg;cases hg
 exact G.r (.agg #[.bool b2,.slice x2 n2 d2,.bool b2',.slice x2' n2' d2',.map (some g1),.map (some g2)]) ⟨b2,x2,n2,d2,b2',x2',n2',d2',g1,g2,o1',o2',rfl,r2.mono (l3.trans l5),hne,rfl,(hR'.mf l5).up kT (Atb _),hR2'.up kQ (Atb _)⟩
end
section
open Go.RowKit Go.MapKept Go.Shelf
section
variable {F:Fence} {n:Nat} {P:Program} [A7 P] {w:World} {ops:Array Oper} {rest:List Oper} {o:Oper} {a:Act} {Q:Exit->Act->World->Prop}
end
end
section
open Go.RowKit Go.MapKept Go.Shelf
end
section
open Go.RowKit Go.MapKept Go.Shelf
end
section
open Go.RowKit Go.MapKept Go.Shelf
abbrev Bv (p:Par):List Value:=[.int .i64 p.1,.string (mkS p.2)]
end
section
open Go.RowKit Go.MapKept Go.Shelf
end
end Go.Proofs.YtnafchoihfnkeaaGreatDoor
section
namespace Go.Proofs
open Go.Shelf
def Tryz.sortPar_ren:Go.Shelf.Ren:=⟨fun|6=>94|15=>157|14=>156|28=>205|29=>206|20=>197|21=>198|22=>199|23=>200|24=>201|25=>202|26=>203|27=>204|46=>226|47=>227|48=>228|49=>229|50=>230|57=>253|n=>n,fun|22=>46|24=>110|25=>175|3=>3|39=>197|0=>0|53=>247|55=>236|4=>4|46=>264|45=>263|50=>150|5=>5|9=>9|66=>286|70=>289|76=>309|77=>122|n=>n,fun|n=>n⟩
theorem Tryz.sortPar:Go.Proofs.SlLaysF0.n6 Tryz.prog Tryz.sortPar_ren:={
 mixed:=by kernel_rfl
 f6:=⟨Tryz.f94.name,by decide,Tryz.func94.trans (congrArg some (by kernel_rfl))⟩
 f14:=⟨Tryz.f156.name,by decide,Tryz.func156.trans (congrArg some (by kernel_rfl))⟩
 f15:=Tryz.func157.trans (congrArg some (by kernel_rfl))
 f20:=⟨Tryz.f197.name,by decide,Tryz.func197.trans (congrArg some (by kernel_rfl))⟩
 f21:=⟨Tryz.f198.name,by decide,Tryz.func198.trans (congrArg some (by kernel_rfl))⟩
 f22:=⟨Tryz.f199.name,by decide,Tryz.func199.trans (congrArg some (by kernel_rfl))⟩
 f23:=⟨Tryz.f200.name,by decide,Tryz.func200.trans (congrArg some (by kernel_rfl))⟩
 f24:=⟨Tryz.f201.name,by decide,Tryz.func201.trans (congrArg some (by kernel_rfl))⟩
 f25:=⟨Tryz.f202.name,by decide,Tryz.func202.trans (congrArg some (by kernel_rfl))⟩
 f26:=⟨Tryz.f203.name,by decide,Tryz.func203.trans (congrArg some (by kernel_rfl))⟩
 f27:=⟨Tryz.f204.name,by decide,Tryz.func204.trans (congrArg some (by kernel_rfl))⟩
 f28:=Tryz.func205.trans (congrArg some (by kernel_rfl))
 f29:=Tryz.func206.trans (congrArg some (by kernel_rfl))
 f46:=⟨Tryz.f226.name,by decide,Tryz.func226.trans (congrArg some (by kernel_rfl))⟩
 f47:=Tryz.func227.trans (congrArg some (by kernel_rfl))
 f48:=Tryz.func228.trans (congrArg some (by kernel_rfl))
 f49:=⟨Tryz.f229.name,by decide,Tryz.func229.trans (congrArg some (by kernel_rfl))⟩
 f50:=⟨Tryz.f230.name,by decide,Tryz.func230.trans (congrArg some (by kernel_rfl))⟩
 f57:=⟨Tryz.f253.name,by decide,Tryz.func253.trans (congrArg some (by kernel_rfl))⟩
 t0:=Tryz.underlying0
 a0:=Tryz.isAgg0
 z0:=Tryz.sizeOf0
 v0:=Tryz.zeroValue0
 t3:=Tryz.underlying3
 a3:=Tryz.isAgg3
 z3:=Tryz.sizeOf3
 v3:=Tryz.zeroValue3
 t4:=Tryz.underlying4
 a4:=Tryz.isAgg4
 z4:=Tryz.sizeOf4
 v4:=Tryz.zeroValue4
 t5:=Tryz.underlying5
 a5:=Tryz.isAgg5
 z5:=Tryz.sizeOf5
 v5:=Tryz.zeroValue5
 t9:=Tryz.underlying9
 a9:=Tryz.isAgg9
 z9:=Tryz.sizeOf9
 v9:=Tryz.zeroValue9
 t22:=Tryz.underlying46
 a22:=Tryz.isAgg46
 z22:=Tryz.sizeOf46
 v22:=Tryz.zeroValue46
 t25:=Tryz.underlying175
 a25:=Tryz.isAgg175
 z25:=Tryz.sizeOf175
 v25:=Tryz.zeroValue175
 t39:=Tryz.underlying197
 a39:=Tryz.isAgg197
 z39:=Tryz.sizeOf197
 v39:=Tryz.zeroValue197
 t45:=Tryz.underlying263
 a45:=Tryz.isAgg263
 z45:=Tryz.sizeOf263
 v45:=Tryz.zeroValue263
 t46:=Tryz.underlying264
 a46:=Tryz.isAgg264
 z46:=Tryz.sizeOf264
 v46:=Tryz.zeroValue264
 t50:=Tryz.underlying150
 a50:=Tryz.isAgg150
 z50:=Tryz.sizeOf150
 v50:=Tryz.zeroValue150
 t53:=Tryz.underlying247
 a53:=Tryz.isAgg247
 z53:=Tryz.sizeOf247
 v53:=Tryz.zeroValue247
 t55:=Tryz.underlying236
 a55:=Tryz.isAgg236
 z55:=Tryz.sizeOf236
 v55:=Tryz.zeroValue236
 t66:=Tryz.underlying286
 a66:=Tryz.isAgg286
 z66:=Tryz.sizeOf286
 v66:=Tryz.zeroValue286
 t70:=Tryz.underlying289
 a70:=Tryz.isAgg289
 z70:=Tryz.sizeOf289
 v70:=Tryz.zeroValue289
 t76:=Tryz.underlying309
 a76:=Tryz.isAgg309
 z76:=Tryz.sizeOf309
 v76:=Tryz.zeroValue309
 t77:=Tryz.underlying122
 a77:=Tryz.isAgg122
 z77:=Tryz.sizeOf122
 v77:=Tryz.zeroValue122 }
end Go.Proofs
end
namespace Go.Proofs.YtnafchoihfnkeaaGreatDoor
open Go.Proofs.Tryz
open Go.RowKit Go.MapKept
open Bool renaming and_eq_true -> Atj, not_eq_true' -> Avs, or_eq_true -> Av7
open Int renaming lt_or_le -> Axn, lt_trichotomy -> Awd, natAbs_mul -> Au7, natAbs_natCast -> Atv, ofNat_le -> A2i, tmod_eq_emod_of_nonneg -> Aw0
open Lib renaming decDigits_one -> Axw, itoa -> Atn
open List renaming all_eq_true -> Atx, cons_append -> Ayt, getElem?_eq_getElem -> As5, getElem?_eq_some_iff -> Atc, getElem?_map -> Aty, getElem?_set -> Au5, getElem_inj -> A08, getElem_map -> Awp, getElem_mem -> Ath, getElem_of_mem -> Avy, getElem_take -> Azn, length_map -> Ata, length_take -> Atm, map_append -> Atk, map_cons -> Auk, map_replicate -> Aw5, mem_append -> Ati, mem_cons -> At6, mem_map -> Ate, mem_singleton -> Aub, nodup_cons -> Awr, pairwise_iff_getElem -> Avr, set_cons_zero -> Avj, take_add_one -> At0, take_length -> At9
open Nat renaming div_le_self -> Awa, eq_zero_or_pos -> At5, le_of_dvd -> Axt, le_refl -> Atb, le_trans -> As9, lt_of_le_of_lt -> Aum, mul_comm -> At7, mul_le_mul -> Aut
open Rat renaming divInt -> Au0, divInt_eq_div -> Awf, intCast_mul -> Av9, intCast_natCast -> Au6, natCast_inj -> A1f, natCast_mul -> Awt, num_eq_zero -> Axp
open Value renaming bool -> Ayi, cells -> Atw
section
open Go.RowKit Go.Sort
def Ap6 (w:World):PH:=fun g=>w.heap[g]?
theorem Asg (w:World):B1 (Ap6 w) PH.mt w:=⟨fun _ _ h=>h,Ek.mt w,fun _=>.inr rfl,fun _ _ _ _ _ _ h _=>h⟩
@[reducible] def Ca.yes:Ca:=⟨True⟩
theorem Abo [Fl:Ca](hF:Fl.on){w w':World}{u':PH}(h:B8 (Ap6 w) PH.mt w u' PH.mt w'):∃ n os,w'=grow (w.drewN n) os:=by
 have hd:=h.dr hF;refine⟨w'.drawn-w.drawn,w'.heap.extract w.heap.size w'.heap.size,?_⟩;obtain⟨hp,tp,dr,os,out⟩:=w;obtain⟨hp',tp',dr',os',out'⟩:=w';have h1:=hd.tape;have h2:=hd.dr;have h3:=h.io.1;have h4:=h.io.2;have h5:=h.sz;have h6:=fun g hg=>h.old g hg rfl;simp only at h1 h2 h3 h4 h5 h6;subst h1 h3 h4;unfold grow World.drewN;simp only[World.mk.injEq,and_true,true_and];refine⟨?_,oV⟩;apply Array.ext_getElem?;intro i;by_cases hi:i<hp.size
 ·rw[Array.getElem?_append_left hi];exact h6 i hi
 ·rw[Array.getElem?_append_right oV,Array.getElem?_extract];by_cases hi':i<hp'.size
  ·rw[if_pos oV];congr 1;omega
  ·rw[if_neg oV,Array.getElem?_eq_none oV]
theorem Fn0.exact [Fl:Ca](hF:Fl.on){P:Program}{f:FuncId}{args:List Value}{r:Value}(h:∀ u,Fn0 P f args u (fun v _=>v=r))(w:World):Calls P f args.toArray w fun e w'=>e=.returned r/\∃ n os,w'=grow (w.drewN n) os:=by
 refine Calls.mono (h (Ap6 w) w (Asg w)) fun e w' he=>?_;obtain⟨v,u',m',e1,_,e3,e4,e5⟩:=he;subst e4 e5;exact⟨e1,Abo hF e3⟩
theorem Ads (blk off size:Nat)(w:World):Go.Proofs.CmpLays prog 95 #[] (fun p:Par=>[.int .i64 p.1,.string (mkS p.2)]) 2 Bd blk off size w :=
 fun m os dk _ x y=>@Fn0.exact Ca.yes trivial _ _ _ _ (fun u=>@Ta Ca.yes u x y) _
end
section
open Go.RowKit Go.Sort
section
variable {κ:Type} {c:κ->κ->Int}
theorem Ord.swo (h:Ord c):SWO (ltOf c) where
 irrefl x:=by simp[ltOf,h.irr x]
 trans x y z h1 h2:=by
  simp only[ltOf,decide_eq_true_eq]at *
  exact h.trans x y z h1 h2
 ntrans x y z h1 h2:=by
  simp only[ltOf,decide_eq_false_iff_not]at *
  intro h3;rcases Awd (c x y) 0 with e|e|e
  ·exact h1 e
  ·rw[h.eq x y e]at h3;exact h2 h3
  ·exact h2 (h.trans y x z ((h.sym y x).2 e) h3)
theorem Ord.tot (h:Ord c)(x y:κ)(h1:ltOf c x y=false)(h2:ltOf c y x=false):x=y:=by
 simp only[ltOf,decide_eq_false_iff_not]at *
 rcases Awd (c x y) 0 with e|e|e
 ·exact absurd e h1
 ·exact h.eq x y e
 ·exact absurd ((h.sym y x).2 e) h2
def Ee (c:κ->κ->Int)(l:List κ):List κ:=l.mergeSort fun x y=>!(ltOf c) y x
theorem G5 (l:List κ):(Ee c l).Perm l:=List.mergeSort_perm _ _
theorem Q6 (h:Ord c){l:List κ}(hn:l.Nodup):Hk c (Ee c l):=by
 have h1:(Ee c l).Pairwise fun a b=>(!(ltOf c) b a)=true:=by
  refine List.pairwise_mergeSort (fun a b d h1 h2=>?_) (fun a b=>?_) l
  ·simp only[Avs]at h1 h2⊢;exact h.swo.ntrans d b a h2 h1
  ·simp only[Av7,Avs];cases e:ltOf c b a with
   |false=>exact .inl rfl
   |true =>
    right;simp only[ltOf,decide_eq_true_eq,decide_eq_false_iff_not]at *
    have:=(h.sym b a).1 e;omega
 have h2:(Ee c l).Nodup:=(G5 l).nodup_iff.2 hn;refine (h1.and h2).imp fun {a b} ⟨e1,e2⟩=>?_;simp only[Avs,ltOf,decide_eq_false_iff_not]at e1;rcases Awd (c a b) 0 with e|e|e
 ·exact e
 ·exact absurd (h.eq a b e) e2
 ·exact absurd ((h.sym b a).2 e) e1
end
section
variable {κ:Type} [Inhabited κ] {enc:κ->List Value} {k:Nat}
theorem Nw (hk:∀ x,(enc x).length=k):∀ (ss:List κ) (t:Nat),t<ss.length*k->(ss.flatMap enc)[t]?=some ((enc ss.toArray[t/k]!)[t%k]!)
 |[],t,h=>by simp at h
 |x::ss,t,h=>by
  have hk0:0<k:=by
   rcases At5 k with h0|h0
   ·rw[h0]at h;simp at h
   ·exact h0
  rw[List.flatMap_cons];by_cases ht:t<k
  ·rw[List.getElem?_append_left (by rw[hk];exact ht),Nat.div_eq_of_lt ht,Nat.mod_eq_of_lt ht];have:t<(enc x).length:=by rw[hk];exact ht
   simp[getElem!_pos,this]
  ·rw[List.getElem?_append_right (by rw[hk];omega),hk,Nw hk ss (t-k) (by simp only[List.length_cons,Nat.add_mul]at h;omega)];have e1:t/k=(t-k)/k+1:=by rw[Nat.div_eq_sub_div hk0 oV]
   have e2:t%k=(t-k)%k:=Nat.mod_eq_sub_mod oV;rw[e1,e2];simp
theorem Ai4 (hk:∀ x,(enc x).length=k){W:World}{gb:Nat}{e:TypeId}{cur:Array Value}{ss:List κ}(hgb:W.heap[gb]?=some (.cells cur e (0,0)))(hcur:cur.toList.take (ss.length*k)=ss.flatMap enc):HoldsK enc k W gb 0 ss.toArray:=by
 intro t ht;rw[size_flatK]at ht;have ht':t<ss.length*k:=by simpa using ht
 have h1:cur[t]?=some ((flatK enc k ss.toArray)[t]!):=by
  rw[get_flatK enc k _ t ht,<-Nw hk ss t ht',<-hcur,List.getElem?_take,if_pos ht',Array.getElem?_toList]
 constructor
 ·simp[World.cell?,hgb,h1]
 ·simp[World.frozen?,hgb]
end
end
section
open Go.RowKit Go.MapKept Go.Shelf Go.Sort
theorem Ky (x:Par):(Bv x).length=2:=rfl
def Lf (P:Program)(st:List KI×S):List KI×S:=match one P (Jc P 200 st).1 (Jc P 200 st).2 with|some st'=>st'|none=>st
section
variable {P:Program} [A7 P] {fn:Func} {Post:By} {st:List KI×S} {u m:PH}
theorem G.pastI (h:G P fn Post (Lf P st) u m):G P fn Post st u m:=by
 unfold Lf at h;split at h
 ·rename_i st' he;exact⟨Nq 200 st (My A7.mx he h.out)⟩
 ·exact h
theorem Fn0.weak {f:FuncId}{args:List Value}{R R':Value->PH->Prop}(h:Fn0 P f args u R)(hr:∀ v u',R v u'->R' v u'):Fn0 P f args u R':=fun w hg=>Calls.mono (h w hg) fun e w' ⟨v,u',m',e1,e2,e3,e4,e5⟩=>⟨v,u',m',e1,e2,e3,e4,hr _ _ e5⟩
end
end
section
open Go.RowKit Go.MapKept Go.Shelf Go.Sort
end
theorem Ae.le {m0 m:PH}{v:Value}{t:TypeId}{sz:Nat}{es:List Value}(h:Ae m0 m v t sz es):PH.le m0 m:=by
 rcases h.2 with ⟨_,_,rfl⟩|⟨g,cap,rest,hg0,rfl,_⟩
 ·exact PH.le_refl _
 ·exact K6 _ hg0
theorem Abn (p:Par×Rat):Ax 3 [Bk p]:=fun e he=>by
 simp at he;subst he;exact⟨rfl,fun y hy=>by simp[Bk,Atw]at hy;rcases hy with rfl|rfl|rfl<;>rfl⟩
theorem Af9 (p:(Par×Par)×Rat):Ax 5 [D0 p]:=fun e he=>by
 simp at he;subst he;exact⟨rfl,fun y hy=>by simp[D0,Atw]at hy;rcases hy with rfl|rfl|rfl|rfl|rfl<;>rfl⟩
section
variable {i:Nat}{q:Rat}{s:List UInt8}{u:PH}{x:Par×Rat}
theorem Ur (h:q≠0):Ap q≠[48]:=by
 intro e;unfold Ap at e;split at e
 ·have:=G8 (e.trans Ed.symm);exact h (Axp.1 this)
 ·have:(47:UInt8)∈Atn q.num++47::Atn (q.den:Int):=mV
  rw[e]at this;simp at this
theorem Aa9 (p q:Par)(r:Bool)(h:decide (Bd p q<0)=r):Fn0 prog 150 [A3 p,A3 q] u fun v _=>v=.bool r:=by
 refine Fn0.o func150 ?_;refine G.c call95 (Ta p q) ?_;rintro v1 u1 l1 rfl;cases r with
 |true =>
  refine G.lT' (Bd p q) 0 (of_decide_eq_true h) ?_;exact G.r (.bool true) ⟨rfl,rfl⟩
 |false =>
  refine G.lF' (Bd p q) 0 (of_decide_eq_false h) ?_;exact G.r (.bool false) ⟨rfl,rfl⟩
theorem Alg (h:Tx q)(h0:q≠0):Fn0 prog 147 [.string (mkS (Ap q))] u fun v _=>v=.bool true:=by
 refine Fn0.o func147 ?_;refine G.c call47 (Fn h) ?_;rintro v1 u1 l1 rfl;refine G.x (Ap q) [48] (Ur h0) ?_;exact G.r (.bool true) ⟨rfl,rfl⟩
theorem Wl (h:Hl s=true):1<=s.length/\s.length<=12:=by
 unfold Hl at h;split at h
 ·cases h
 ·grind
theorem U7 (h:Hl s=true){c:UInt8}(hi:s[i]?=some c):(97<=c.toNat/\c.toNat<=122)\/(i≠0/\(c.toNat=45\/(48<=c.toNat/\c.toNat<=57))):=by
 unfold Hl at h;split at h
 ·cases h
 ·simp only[Aqb]at h
  match i,hi with
  |0,hi=>grind
  |i+1,hi=>grind
theorem Apl (h:Hl s=true):Fn0 prog 195 [.string (mkS s)] u fun v _=>v=.bool true:=by
 obtain⟨hl1,hl2⟩:=Wl h;refine Fn0.o func195 ?_;refine G.convSB (some .string) 5 s kV kV kV ?_;intro v1 u1 l1 hb;obtain⟨a,c,rfl⟩:=Ad.opn hb;rw[As]at hb⊢;refine G.l (ι:=Nat) (fun i=>[(0,tV s),(7,sV a s.length c),(8,iV s.length),(9,iV i)]) (fun _=>[])
  (fun i u' m'=>i<=s.length/\m'=PH.mt) (fun i=>s.length-i) 0 ⟨oV,rfl⟩ ?_
 rintro J i hJ u2 m2 l2 ⟨hi,rfl⟩;by_cases hlt:i<s.length
 ·refine G.lT (i:Int) (s.length:Int) ?_;have hsi:s[i]?=some s[i]:=As5 hlt;obtain⟨b,off,rfl,e⟩:=Ad.at' (hb.mono l2) (j:=i) (e:=.int .u8 (s[i].toNat:Int)) (by simp[Bc,hsi]);have hw:=U7 h hsi;generalize s[i].toNat=n at e hw;refine G.a b off s.length c i 1 hlt ?_;refine G.lU none b (off+i*1) (.int .u8 (n:Int)) e ?_;by_cases hle:97<=n/\n<=122
  ·refine G.cmpG .geq .u8 (n:Int) 97 true kV rfl (by simp[Cj];omega) ?_;refine G.cmpG .leq .u8 (n:Int) 122 true kV rfl (by simp[Cj];omega) ?_;refine G.i i ?_;exact G.b (hJ (i+1) _ _ _ cV l2 ⟨oV,rfl⟩ oV)
  ·by_cases h97:97<=n
   ·grind
   ·refine G.cmpG .geq .u8 (n:Int) 97 false kV rfl (by simp[Cj];omega) ?_;refine G.eF (i:Int) 0 ?_;by_cases h45:n=45
    ·refine G.cmpG .neq .u8 (n:Int) 45 false kV rfl (by simp[Cj];omega) ?_;refine G.i i ?_;exact G.b (hJ (i+1) _ _ _ cV l2 ⟨oV,rfl⟩ oV)
    ·refine G.cmpG .neq .u8 (n:Int) 45 true kV rfl (by simp[Cj];omega) ?_;refine G.cmpG .lss .u8 (n:Int) 48 false kV rfl (by simp[Cj];omega) ?_;refine G.cmpG .gtr .u8 (n:Int) 57 false kV rfl (by simp[Cj];omega) ?_;refine G.i i ?_;exact G.b (hJ (i+1) _ _ _ cV l2 ⟨oV,rfl⟩ oV)
 ·obtain rfl:i=s.length:=oV
  refine G.lF (s.length:Int) (s.length:Int) ?_;refine G.hT (s.length:Int) 1 ?_;refine G.kT (s.length:Int) 12 ?_;exact G.r (.bool true) ⟨rfl,rfl⟩
theorem Ac7 {p:Par}(h:PV p):Fn0 prog 146 [A3 p] u fun v _=>v=.bool true:=by
 refine Fn0.o func146 ?_;refine G.hT' p.1 (-1) (by have:=h.lo;omega) ?_;by_cases hc:p.2 = []
 ·refine G.q p.2 [] hc ?_;exact G.r (.bool true) ⟨rfl,rfl⟩
 ·refine G.w p.2 [] hc ?_;refine G.c call195 (Apl (h.cat.resolve_left hc)) ?_;rintro v1 u1 l1 rfl;exact G.r (.bool true) ⟨rfl,rfl⟩
theorem As3 (h:PV x.1)(hx:Tx x.2)(h0:x.2≠0):Fn0 prog 145 [Bk x] u fun v _=>v=.bool false:=by
 refine Fn0.o func145 ?_;refine G.c call146 (Ac7 h) ?_;rintro v1 u1 l1 rfl;refine G.c call147 (Alg hx h0) ?_;rintro v2 u2 l2 rfl;exact G.r (.bool false) ⟨rfl,rfl⟩
theorem Asu {x:(Par×Par)×Rat}(h:PV x.1.1)(h':PV x.1.2)(ho:¬ 0<Bd x.1.1 x.1.2)(hx:Tx x.2)(h0:x.2≠0):Fn0 prog 149 [D0 x] u fun v _=>v=.bool false:=by
 refine Fn0.o func149 ?_;refine G.c call146 (Ac7 h) ?_;rintro v1 u1 l1 rfl;refine G.c call146 (Ac7 h') ?_;rintro v2 u2 l2 rfl;refine G.c call150 (Aa9 x.1.2 x.1.1 false (decide_eq_false fun e=>ho ((Fr.sym _ _).1 e))) ?_;rintro v3 u3 l3 rfl;refine G.c call147 (Alg hx h0) ?_;rintro v4 u4 l4 rfl;exact G.r (.bool false) ⟨rfl,rfl⟩
theorem Aqt {x y:Par×Rat}(h:Bd x.1 y.1<0):Fn0 prog 152 [Bk x,Bk y] u fun v _=>v=.bool true:=by
 refine Fn0.o func152 ?_;refine G.c call150 (Aa9 x.1 y.1 true (decide_eq_true h)) ?_;rintro v1 u1 l1 rfl;exact G.r (.bool true) ⟨rfl,rfl⟩
theorem Aq4 {x y:(Par×Par)×Rat}(h:L1 x.1 y.1<0):Fn0 prog 154 [D0 x,D0 y] u fun v _=>v=.bool true:=by
 refine Fn0.o func154 ?_;by_cases h1:Bd x.1.1 y.1.1<0
 ·refine G.c call150 (Aa9 x.1.1 y.1.1 true (decide_eq_true h1)) ?_;rintro v1 u1 l1 rfl;exact G.r (.bool true) ⟨rfl,rfl⟩
 ·have h2:Bd x.1.1 y.1.1=0/\Bd x.1.2 y.1.2<0:=by
   unfold L1 at h;split at h
   ·exact absurd h h1
   ·rename_i e;exact⟨by simpa using e,h⟩
  have he:=Fr.eq _ _ h2.1;refine G.c call150 (Aa9 x.1.1 y.1.1 false (decide_eq_false h1)) ?_;rintro v1 u1 l1 rfl;refine G.eqAgg 110 #[.int .i64 x.1.1.1,.string (mkS x.1.1.2)] #[.int .i64 y.1.1.1,.string (mkS y.1.1.2)] true kV kV kV (fun w=>by rw[<-decide_eq_true he];exact Dr.eq x.1.1 y.1.1 w) ?_;refine G.c call150 (Aa9 x.1.2 y.1.2 true (decide_eq_true h2.2)) ?_;rintro v2 u2 l2 rfl;exact G.r (.bool true) ⟨rfl,rfl⟩
theorem Aoz {u:PH}{v:Value}{T:List (Par×Rat)}{fid:Nat}(h:Ad u v 3 (T.map Bk))(hl:T.length<=1000000)
 (hcall:∀ args w,(callFunc fid args).run prog w=.ok (.enter fid args) w) (hf:∀ p∈T,∀ u',PH.le u u'->Fn0 prog fid [Bk p] u' fun v _=>v=.bool false) :
 Fn0 prog 155 [v,.func (.func fid) #[] #[]] u fun v' _=>v'=.int .i64 (-1):=by
 obtain⟨a,c,rfl⟩:=h.opn;rw[Ata]at h⊢;refine Fn0.o func155 ?_;refine G.l (ι:=Nat) (fun i=>[(0,sV a T.length c),(1,.v (.func (.func fid) #[] #[])),(7,iV T.length),(8,iV i)]) (fun _=>[])
  (fun i u' m'=>i<=T.length/\m'=PH.mt) (fun i=>T.length-i) 0 ⟨oV,rfl⟩ ?_
 rintro J i hJ u1 m1 l1 ⟨hi,rfl⟩;by_cases hlt:i<T.length
 ·refine G.lT (i:Int) (T.length:Int) ?_;have hTi:T[i]?=some T[i]:=As5 hlt;obtain⟨ba,oa,rfl,ea⟩:=Ad.at' (h.mono l1) (j:=i) (e:=Bk T[i]) (by simp[hTi]);refine G.a ba oa T.length c i 3 oV ?_;refine G.lU (some 3) ba (oa+i*3) (Bk T[i]) ea ?_;refine G.call0 fid [Bk T[i]] kV hcall (hf T[i] (Ath hlt) u1 l1) ?_;rintro v2 u2 l2 rfl;refine G.i i ?_;exact G.b (hJ (i+1) _ _ _ cV (l1.trans l2) ⟨oV,rfl⟩ oV)
 ·obtain rfl:i=T.length:=oV
  refine G.lF (T.length:Int) (T.length:Int) ?_;exact G.r (.int .i64 (-1)) ⟨rfl,rfl⟩
theorem Ad6 {u:PH}{v:Value}{T:List (Par×Rat)}{fid:Nat}(h:Ad u v 3 (T.map Bk))(hl:T.length<=1000000)
 (hcall:∀ args w,(callFunc fid args).run prog w=.ok (.enter fid args) w) (hf:∀ p∈T,∀ u',PH.le u u'->Fn0 prog fid [Bk p] u' fun v _=>v=.bool false) :
 Fn0 prog 90 [v,.func (.func fid) #[] #[]] u fun v' _=>v'=.bool false:=by
 refine Fn0.o func90 ?_;refine G.c call155 (Aoz h hl hcall hf) ?_;rintro v1 u1 l1 rfl;refine G.hF (-1) 0 ?_;exact G.r (.bool false) ⟨rfl,rfl⟩
theorem Aci {u:PH}{v:Value}{T:List (Par×Rat)}{fid:Nat}(h:Ad u v 3 (T.map Bk))(hl:T.length<=1000000)
 (hcall:∀ args w,(callFunc fid args).run prog w=.ok (.enter fid args) w) (hf:∀ (i:Nat) x y,T[i]?=some x->T[i+1]?=some y->∀ u',Fn0 prog fid [Bk x,Bk y] u' fun v _=>v=.bool true) :
 Fn0 prog 151 [v,.func (.func fid) #[] #[]] u fun v' _=>v'=.bool true:=by
 obtain⟨a,c,rfl⟩:=h.opn;rw[Ata]at h⊢;refine Fn0.o func151 ?_;refine G.l (ι:=Nat) (fun i=>[(0,sV a T.length c),(1,.v (.func (.func fid) #[] #[])),(5,iV (i+1:Nat))]) (fun _=>[])
  (fun i u' m'=>i<=T.length/\m'=PH.mt) (fun i=>T.length-i) 0 ⟨oV,rfl⟩ ?_
 rintro J i hJ u1 m1 l1 ⟨hi,rfl⟩;by_cases hlt:i+1<T.length
 ·refine G.lT ((i+1:Nat):Int) (T.length:Int) ?_;have hTi:T[i]?=some T[i]:=As5 oV;have hTj:T[i+1]?=some T[i+1]:=As5 hlt;obtain⟨ba,oa,rfl,ea⟩:=Ad.at' (h.mono l1) (j:=i) (e:=Bk T[i]) (by simp[hTi]);obtain⟨_,_,e',eb⟩:=Ad.at' (h.mono l1) (j:=i+1) (e:=Bk T[i+1]) (by simp[hTj]);cases e';refine G.s ((i+1:Nat):Int) 1 (i:Int) ?_;refine G.a ba oa T.length c i 3 oV ?_;refine G.lU (some 3) ba (oa+i*3) (Bk T[i]) ea ?_;refine G.a ba oa T.length c (i+1) 3 oV ?_;refine G.lU (some 3) ba (oa+(i+1)*3) (Bk T[i+1]) eb ?_;refine G.call0 fid [Bk T[i],Bk T[i+1]] kV hcall (hf i _ _ hTi hTj u1) ?_;rintro v2 u2 l2 rfl;refine G.p ((i+1:Nat):Int) 1 ((i+1+1:Nat):Int) ?_;exact G.b (hJ (i+1) _ _ _ cV (l1.trans l2) ⟨oV,rfl⟩ oV)
 ·refine G.lF ((i+1:Nat):Int) (T.length:Int) ?_;exact G.r (.bool true) ⟨rfl,rfl⟩
theorem Aop {u:PH}{v:Value}{T:List ((Par×Par)×Rat)}{fid:Nat}(h:Ad u v 5 (T.map D0))(hl:T.length<=1000000)
 (hcall:∀ args w,(callFunc fid args).run prog w=.ok (.enter fid args) w) (hf:∀ p∈T,∀ u',PH.le u u'->Fn0 prog fid [D0 p] u' fun v _=>v=.bool false) :
 Fn0 prog 196 [v,.func (.func fid) #[] #[]] u fun v' _=>v'=.int .i64 (-1):=by
 obtain⟨a,c,rfl⟩:=h.opn;rw[Ata]at h⊢;refine Fn0.o func196 ?_;refine G.l (ι:=Nat) (fun i=>[(0,sV a T.length c),(1,.v (.func (.func fid) #[] #[])),(7,iV T.length),(8,iV i)]) (fun _=>[])
  (fun i u' m'=>i<=T.length/\m'=PH.mt) (fun i=>T.length-i) 0 ⟨oV,rfl⟩ ?_
 rintro J i hJ u1 m1 l1 ⟨hi,rfl⟩;by_cases hlt:i<T.length
 ·refine G.lT (i:Int) (T.length:Int) ?_;have hTi:T[i]?=some T[i]:=As5 hlt;obtain⟨ba,oa,rfl,ea⟩:=Ad.at' (h.mono l1) (j:=i) (e:=D0 T[i]) (by simp[hTi]);refine G.a ba oa T.length c i 5 oV ?_;refine G.lU (some 5) ba (oa+i*5) (D0 T[i]) ea ?_;refine G.call0 fid [D0 T[i]] kV hcall (hf T[i] (Ath hlt) u1 l1) ?_;rintro v2 u2 l2 rfl;refine G.i i ?_;exact G.b (hJ (i+1) _ _ _ cV (l1.trans l2) ⟨oV,rfl⟩ oV)
 ·obtain rfl:i=T.length:=oV
  refine G.lF (T.length:Int) (T.length:Int) ?_;exact G.r (.int .i64 (-1)) ⟨rfl,rfl⟩
theorem Ad1 {u:PH}{v:Value}{T:List ((Par×Par)×Rat)}{fid:Nat}(h:Ad u v 5 (T.map D0))(hl:T.length<=1000000)
 (hcall:∀ args w,(callFunc fid args).run prog w=.ok (.enter fid args) w) (hf:∀ p∈T,∀ u',PH.le u u'->Fn0 prog fid [D0 p] u' fun v _=>v=.bool false) :
 Fn0 prog 148 [v,.func (.func fid) #[] #[]] u fun v' _=>v'=.bool false:=by
 refine Fn0.o func148 ?_;refine G.c call196 (Aop h hl hcall hf) ?_;rintro v1 u1 l1 rfl;refine G.hF (-1) 0 ?_;exact G.r (.bool false) ⟨rfl,rfl⟩
theorem Ack {u:PH}{v:Value}{T:List ((Par×Par)×Rat)}{fid:Nat}(h:Ad u v 5 (T.map D0))(hl:T.length<=1000000)
 (hcall:∀ args w,(callFunc fid args).run prog w=.ok (.enter fid args) w) (hf:∀ (i:Nat) x y,T[i]?=some x->T[i+1]?=some y->∀ u',Fn0 prog fid [D0 x,D0 y] u' fun v _=>v=.bool true) :
 Fn0 prog 153 [v,.func (.func fid) #[] #[]] u fun v' _=>v'=.bool true:=by
 obtain⟨a,c,rfl⟩:=h.opn;rw[Ata]at h⊢;refine Fn0.o func153 ?_;refine G.l (ι:=Nat) (fun i=>[(0,sV a T.length c),(1,.v (.func (.func fid) #[] #[])),(5,iV (i+1:Nat))]) (fun _=>[])
  (fun i u' m'=>i<=T.length/\m'=PH.mt) (fun i=>T.length-i) 0 ⟨oV,rfl⟩ ?_
 rintro J i hJ u1 m1 l1 ⟨hi,rfl⟩;by_cases hlt:i+1<T.length
 ·refine G.lT ((i+1:Nat):Int) (T.length:Int) ?_;have hTi:T[i]?=some T[i]:=As5 oV;have hTj:T[i+1]?=some T[i+1]:=As5 hlt;obtain⟨ba,oa,rfl,ea⟩:=Ad.at' (h.mono l1) (j:=i) (e:=D0 T[i]) (by simp[hTi]);obtain⟨_,_,e',eb⟩:=Ad.at' (h.mono l1) (j:=i+1) (e:=D0 T[i+1]) (by simp[hTj]);cases e';refine G.s ((i+1:Nat):Int) 1 (i:Int) ?_;refine G.a ba oa T.length c i 5 oV ?_;refine G.lU (some 5) ba (oa+i*5) (D0 T[i]) ea ?_;refine G.a ba oa T.length c (i+1) 5 oV ?_;refine G.lU (some 5) ba (oa+(i+1)*5) (D0 T[i+1]) eb ?_;refine G.call0 fid [D0 T[i],D0 T[i+1]] kV hcall (hf i _ _ hTi hTj u1) ?_;rintro v2 u2 l2 rfl;refine G.p ((i+1:Nat):Int) 1 ((i+1+1:Nat):Int) ?_;exact G.b (hJ (i+1) _ _ _ cV (l1.trans l2) ⟨oV,rfl⟩ oV)
 ·refine G.lF ((i+1:Nat):Int) (T.length:Int) ?_;exact G.r (.bool true) ⟨rfl,rfl⟩
theorem Xj {κ:Type}{c:κ->κ->Int}{T:List (κ×Rat)}(h:Hk c (T.map (·.1))){x y:κ×Rat}(hx:T[i]?=some x)(hy:T[i+1]?=some y):c x.1 y.1<0:=by
 obtain⟨h1,rfl⟩:=Atc.1 hx;obtain⟨h2,rfl⟩:=Atc.1 hy;have:=Avr.1 h i (i+1) (by simpa using h1) (by simpa using h2) oV;simpa using this
theorem Arc {v:Value}{F:CF}{K:Nat}(hv:Lw u v F K)(sF:CFS F)(vF:CFV F)(hK:K<=1000000):Fn0 prog 89 [v] u fun v' _=>v'=.bool true:=by
 obtain⟨T,Q,a1,c1,a2,c2,rfl,hT,hQ,cT,cQ,kT,kQ⟩:=hv;refine Fn0.o func89 ?_;refine G.c call47 (Fn (SB.tx sF.c)) ?_;rintro v1 u1 l1 rfl;refine G.c call90 (Ad6 (fid:=145) (hT.mono l1) oV call145 (fun p hp u' _=>by
  obtain⟨e1,e2⟩:=cT.val p hp;exact As3 (vF.s _ (by rw[<-e1];exact e2)) (SB.tx (by rw[e1];exact sF.s _)) e2)) ?_
 rintro v2 u2 l2 rfl;refine G.c call148 (Ad1 (fid:=149) (hQ.mono (l1.trans l2)) oV call149 (fun p hp u' _=>by
  obtain⟨e1,e2⟩:=cQ.val p hp;obtain⟨f1,f2,f3⟩:=vF.t p.1 (by rw[<-e1];exact e2);exact Asu f1 f2 f3 (SB.tx (by rw[e1];exact sF.t _)) e2)) ?_
 rintro v3 u3 l3 rfl;refine G.c call151 (Aci (fid:=152) (hT.mono ((l1.trans l2).trans l3)) oV call152 (fun i x y hx hy u'=>Aqt (Xj cT.srt hx hy))) ?_;rintro v4 u4 l4 rfl;refine G.c call153 (Ack (fid:=154) (hQ.mono (((l1.trans l2).trans l3).trans l4)) oV call154 (fun i x y hx hy u'=>Aq4 (Xj cQ.srt hx hy))) ?_;rintro v5 u5 l5 rfl;exact G.r (.bool true) ⟨rfl,rfl⟩
end
section
section
variable {P:Program}
end
def Ar4 (u:PH)(v:Value)(F:CF)(K:Nat):Prop:=∃ r,v=.tuple #[r,.int .i64 0]/\Lw u r F K
theorem Lw.opn {u:PH}{v:Value}{F:CF}{K:Nat}(h:Lw u v F K):∃ a1 n1 c1 a2 n2 c2,v=.agg #[.string (mkS (Ap F.c)),.slice a1 n1 c1,.slice a2 n2 c2]:=by
 obtain⟨T,Q,a1,c1,a2,c2,rfl,_⟩:=h;exact⟨_,_,_,_,_,_,rfl⟩
def CF.num (k:Rat):CF:=⟨k,fun _=>0,fun _=>0⟩
end
section
variable {b c n:Nat}{x:List UInt8}
section rules
variable [Ca] {P:Program} [A7 P] {fn:Func} {Post:By} {st:List KI×S} {u m:PH}
def FnK (P:Program)(f:FuncId)(args:List Value)(u m:PH)(R:Value->PH->Prop):Prop:=Ak P f args u m fun v u' m'=>m'=m/\R v u'
theorem FnK.of {R:Value->PH->Prop}{f:FuncId}{args:List Value}(hf:P.funcs[f]?=some fn)(hb:fn.body.isSome=true)(hn:Nat.ble args.length fn.ntmps=true)(h:G P fn ⟨fun v u' m'=>m'=m/\R v u',m⟩ (st0 fn args) u m):FnK P f args u m R:=Ak.of hf hb hn h
theorem G.callK (f:Nat)(args:List Value){R:Value->PH->Prop}(h:Al P (adv P st)=.call f args)(hc:∀ args w,(callFunc f args).run P w=.ok (.enter f args) w)(c:FnK P f args u m R)
 (k:∀ v u',PH.le u u'->R v u'->G P fn Post (nx (adv P st) v) u' m):G P fn Post st u m:=by
 refine G.big (K:=fun v u' m'=>m'=m/\R v u') h mV El (.inl fun v u' m' hK=>by rw[hK.1];exact fun g o hg=>hg) (fun env o hview w hgd=>?_) (fun v u' m' h1 h2=>?_)
 ·refine Kc hview hc w _ (Calls.mono (c w hgd) fun e w' he=>?_);obtain⟨v,u',m',e1,e2,e3,e4⟩:=he;exact⟨v,e1,u',m',e2,e3,e4⟩
 ·obtain⟨rfl,hR⟩:=h2;exact k v u' h1 hR
end rules
section
theorem An1 {u m:PH}(L:List (List UInt8))(hn:n<=L.length)(hl:n<=1000000)(hE:∀ j s,L[j]?=some s->ElP m b (0+j*1) (.string (mkS s)))(hx:∀ j s,j<n->L[j]?=some s->s≠x) :
 FnK prog 252 [.slice (some ⟨b,0,none⟩) n c,.string (mkS x)] u m fun v _=>v=.int .i64 (-1):=by
 refine FnK.of func252 kV kV ?_;refine G.l (ι:=Nat) (fun i=>[(0,sV (some ⟨b,0,none⟩) n c),(1,tV x),(7,iV n),(8,iV i)]) (fun _=>[])
  (fun i u' m'=>i<=n/\m'=m) (fun i=>n-i) 0 ⟨oV,rfl⟩ ?_
 rintro J i hJ u1 m1 l1 ⟨hi,rfl⟩;by_cases hlt:i<n
 ·refine G.lT (i:Int) (n:Int) ?_;have hTi:L[i]?=some L[i]:=As5 oV;refine G.a b 0 n c i 1 hlt ?_;refine G.lM none b (0+i*1) (.string (mkS L[i])) (hE i _ hTi) ?_;refine G.w x L[i] (fun e=>hx i _ hlt hTi e.symm) ?_;refine G.i i ?_;exact G.b (hJ (i+1) _ _ _ cV l1 ⟨oV,rfl⟩ oV)
 ·obtain rfl:i=n:=oV
  refine G.lF (i:Int) (i:Int) ?_;exact G.r (.int .i64 (-1)) ⟨rfl,rfl⟩
theorem Aco {u m:PH}(L:List (List UInt8))(hn:n<=L.length)(hl:n<=1000000)(hE:∀ j s,L[j]?=some s->ElP m b (0+j*1) (.string (mkS s)))(hx:∀ j s,j<n->L[j]?=some s->s≠x) :
 FnK prog 223 [.slice (some ⟨b,0,none⟩) n c,.string (mkS x)] u m fun v _=>v=.bool false:=by
 refine FnK.of func223 kV kV ?_;refine G.callK _ _ kV call252 (An1 (c:=c) L hn hl hE hx) ?_;rintro v1 u1 l1 rfl;refine G.hF (-1) 0 ?_;exact G.r (.bool false) ⟨rfl,rfl⟩
structure Pb (L:List (List UInt8)):Prop where
 word:∀ s∈L,Hl s=true
 nodup:L.Nodup
theorem Ak9 {u m:PH}{b k c:Nat}{L:List (List UInt8)}(h:Pb L)(hl:L.length<=1000)(hc:L.length<=c)(hk:L[k]?=some x)(hE:∀ j s,L[j]?=some s->ElP m b (0+j*1) (.string (mkS s))) :
 FnK prog 191 [.slice (some ⟨b,0,none⟩) L.length c,.int .i64 (k:Int)] u m fun v _=>v=.int .i64 0:=by
 obtain⟨hkl,hkx⟩:=Atc.1 hk;refine FnK.of func191 kV kV ?_;refine G.a b 0 L.length c k 1 hkl ?_;refine G.lM none b (0+k*1) (.string (mkS x)) (hE k x hk) ?_;refine G.c call195 (Apl (h.word x (List.mem_of_getElem? hk))) ?_;rintro v1 u1 l1 rfl;refine G.sliceTo 1 (some ⟨b,0,none⟩) L.length c k kV oV ?_;refine G.a b 0 L.length c k 1 hkl ?_;refine G.lM none b (0+k*1) (.string (mkS x)) (hE k x hk) ?_;refine G.callK _ _ kV call223 (Aco (n:=k) (c:=c) (x:=x) L oV oV hE fun j s hj hs e=>?_) ?_
 ·obtain⟨hjl,hjx⟩:=Atc.1 hs;have:=(A08 (h₀:=hjl) (h₁:=hkl) h.nodup).1 (by rw[hjx,hkx,e]);omega
 rintro v2 u2 l2 rfl;exact G.r (.int .i64 0) ⟨rfl,rfl⟩
def Ej (a:List UInt8×Nat):Value:=.agg #[.string (mkS a.1),.int .i64 (a.2:Int)]
def nmV (s:List UInt8):Value:=.string (mkS s)
theorem Kz (L:List (List UInt8)):Ax 1 (L.map nmV):=by
 intro e he;obtain⟨s,_,rfl⟩:=Ate.1 he;exact⟨rfl,Atx.1 rfl⟩
end
end
structure Ake (T:List (List UInt8×Nat)):Prop where
 names:Pb (T.map (·.1))
 kind:∀ a∈T,1<=a.2/\a.2<=3
theorem Pb.take {L:List (List UInt8)}(h:Pb L)(k:Nat):Pb (L.take k):=⟨fun s hs=>h.word s (List.mem_of_mem_take hs),h.nodup.sublist (List.take_sublist _ _)⟩
theorem getElem?_snoc_last {α:Type}(l:List α)(x:α):(l++[x])[l.length]?=some x:=mV
theorem Z9 {u:PH}{v w x y:Value}{T:List (List UInt8×Nat)}(h:Ad u v 2 (T.map Ej))(ok:Ake T)(hl:T.length<=1000)(hw:∃ a n c,w=.slice a n c)(hx:∃ a n c,x=.slice a n c)(hy:∃ z:Int,y=.int .i64 z) :
 Fn0 prog 142 [.agg #[v,w,x,y]] u fun r _=>r=.int .i64 0:=by
 obtain⟨a,c,rfl⟩:=h.opn;obtain⟨wa,wn,wc,rfl⟩:=hw;obtain⟨xa,xn,xc,rfl⟩:=hx;obtain⟨z,rfl⟩:=hy;rw[Ata]at h⊢;refine Fn0.o func142 ?_;refine G.l (ι:=Nat×(Option Addr×Nat×Nat)) (fun i=>[(3,sV i.2.1 i.2.2.1 i.2.2.2),(8,sV a T.length c),(9,iV T.length),(10,iV i.1)]) (fun _=>[])
  (fun i u' m'=>i.1<=T.length/\Ae PH.mt m' (.slice i.2.1 i.2.2.1 i.2.2.2) 9 1 (((T.map (·.1)).take i.1).map nmV)) (fun i=>T.length-i.1) (0,(none,0,0)) ⟨mV,Ae.nil _ _ _⟩ ?_
 rintro J ⟨i,na,nn,nc⟩ hJ u1 m1 l1 ⟨hi,hA⟩;simp only at hi hA hJ;by_cases hlt:i<T.length
 ·refine G.lT (i:Int) (T.length:Int) ?_;have hTi:T[i]?=some T[i]:=As5 hlt;have hki:=ok.kind T[i] (Ath hlt);have htk:((T.map (·.1)).take (i+1))=(T.map (·.1)).take i++[T[i].1]:=by
   rw[At0,Aty,hTi];rfl
  have hnames:=ok.names.take (i+1);rw[htk]at hnames;have hlen:((T.map (·.1)).take i).length=i:=gV
  generalize hL:(T.map (·.1)).take i=L at hA htk hnames hlen;obtain⟨ba,oa,rfl,ea⟩:=Ad.at' (h.mono l1) (j:=i) (e:=Ej T[i]) (by simp[hTi]);generalize T[i]=q at ea hki htk hnames;refine G.a ba oa T.length c i 2 hlt ?_;refine G.lU (some 2) ba (oa+i*2) (.agg #[.string (mkS q.1),.int .i64 (q.2:Int)]) ea ?_;refine G.B 9 1 16 (.string (mkS [])) [.string (mkS q.1)] (Kz [q.1]) ?_;intro g2 u2 l2 e2;refine G.k 9 1 16 (.string (mkS [])) PH.mt (L.map nmV) [.string (mkS q.1)] (.slice na nn nc) g2 0 1 1 hA e2 (Kz [q.1]) ?_;intro v3 m3 hA3;rw[show L.map nmV++[.string (mkS q.1)]=(L++[q.1]).map nmV by rw[Atk];rfl]at hA3;obtain⟨b3,c3,rfl⟩:=hA3.ptr mV;have hcap:=hA3.cap;rw[Ata]at hA3 hcap⊢;refine G.callK _ _ kV call191 (Ak9 (b:=b3) (k:=i) (c:=c3) (x:=q.1) (L:=L++[q.1]) hnames gV hcap (by rw[<-hlen];exact getElem?_snoc_last L q.1) fun j s hs=>hA3.el (by rw[Aty,hs];rfl)) ?_;rintro v4 u4 l4 rfl;refine G.nF 0 0 ?_;refine G.lF (q.2:Int) 1 ?_;refine G.gF (q.2:Int) 3 ?_;refine G.i i ?_;exact G.b (hJ (i+1,(some ⟨b3,0,none⟩,(L++[q.1]).length,c3)) _ _ _ cV ((l1.trans l2).trans l4) ⟨dV,by dsimp only;rw[htk];exact hA3⟩ dV)
 ·obtain rfl:i=T.length:=oV
  refine G.lF (T.length:Int) (T.length:Int) ?_;refine G.pastI ?_;refine G.drop PH.mt kV (PH.mt_le _) ?_;exact G.r (.int .i64 0) ⟨rfl,rfl⟩
section
variable {α:Type}
abbrev Aq:Type:=Nat×Nat×Nat
def Ce (f:Aq):Value:=.agg #[.int .i64 (f.1:Int),.int .i64 (f.2.1:Int),.int .i64 (f.2.2:Int)]
def Amb {α:Type}(p:α->Bool)(T:List α):Int:=match T.findIdx? p with|some k=>(k:Int)|none=>-1
theorem Anc {p:α->Bool}{T:List α}{i:Nat}(hi:i<T.length)(h:p T[i]=true)(h0:∀ j (hj:j<i),p (T[j]'oV)=false):Amb p T=(i:Int):=by
 have:T.findIdx? p=some i:=List.findIdx?_eq_some_iff_getElem.2 ⟨hi,h,fun j hj=>by simp[h0 j hj]⟩;unfold Amb;rw[this]
theorem Agn {p:α->Bool}{T:List α}(h0:∀ x∈T,p x=false):Amb p T = -1:=by
 have:T.findIdx? p=none:=List.findIdx?_eq_none_iff.2 h0;unfold Amb;rw[this]
theorem Ao6 {u m:PH}{v cap:Value}{T:List Aq}{fid:Nat}(p:Aq->Bool)(h:Ad u v 3 (T.map Ce))(hl:T.length<=1000000)
 (hcall:∀ args w,(callFunc fid args).run prog w=.ok (.enter fid args) w) (hf:∀ f∈T,∀ u',PH.le u u'->FnK prog fid [Ce f,cap] u' m fun v _=>v=.bool (p f)) :
 FnK prog 225 [v,.func (.func fid) #[] #[cap]] u m fun v' _=>v'=.int .i64 (Amb p T):=by
 obtain⟨a,c,rfl⟩:=h.opn;rw[Ata]at h⊢;refine FnK.of func225 kV kV ?_;refine G.l (ι:=Nat) (fun i=>[(0,sV a T.length c),(1,.v (.func (.func fid) #[] #[cap])),(7,iV T.length),(8,iV i)]) (fun _=>[])
  (fun i u' m'=>i<=T.length/\(∀ j (hj:j<T.length),j<i->p (T[j]'hj)=false)/\m'=m) (fun i=>T.length-i) 0 ⟨oV,fun j hj h=>oV,rfl⟩ ?_
 rintro J i hJ u1 m1 l1 ⟨hi,h0,rfl⟩;by_cases hlt:i<T.length
 ·refine G.lT (i:Int) (T.length:Int) ?_;have hTi:T[i]?=some T[i]:=As5 hlt;obtain⟨ba,oa,rfl,ea⟩:=Ad.at' (h.mono l1) (j:=i) (e:=Ce T[i]) (by simp[hTi]);refine G.a ba oa T.length c i 3 oV ?_;refine G.lU (some 3) ba (oa+i*3) (Ce T[i]) ea ?_;refine G.callK fid [Ce T[i],cap] kV hcall (hf T[i] (Ath hlt) u1 l1) ?_;rintro v2 u2 l2 rfl;cases hp:p T[i] with
  |true =>
   rw[Anc hlt hp fun j hj=>h0 j oV hj];exact G.r (.int .i64 (i:Int)) ⟨rfl,rfl⟩
  |false =>
   refine G.i i ?_;exact G.b (hJ (i+1) _ _ _ cV (l1.trans l2) ⟨oV,fun j hj h=>by
    rcases (by omega:j<i\/j=i) with e|rfl
    ·exact h0 j hj e
    ·exact hp,rfl⟩ oV)
 ·obtain rfl:i=T.length:=oV
  refine G.lF (T.length:Int) (T.length:Int) ?_;rw[Agn fun x hx=>by obtain⟨j,hj,rfl⟩:=Avy hx;exact h0 j hj hj];exact G.r (.int .i64 (-1)) ⟨rfl,rfl⟩
theorem Kl {u m:PH}{v cap:Value}{T:List Aq}{fid:Nat}(h:Ad u v 3 (T.map Ce))(hl:T.length<=1000000)
 (hcall:∀ args w,(callFunc fid args).run prog w=.ok (.enter fid args) w) (hf:∀ f∈T,∀ u',PH.le u u'->FnK prog fid [Ce f,cap] u' m fun v _=>v=.bool false) :
 FnK prog 193 [v,.func (.func fid) #[] #[cap]] u m fun v' _=>v'=.bool false:=by
 obtain⟨a,c,rfl⟩:=h.opn;refine FnK.of func193 kV kV ?_;refine G.callK _ _ kV call225 (Ao6 (cap:=cap) (fun _=>false) h hl hcall hf) ?_;rintro v1 u1 l1 rfl;rw[Agn fun x _=>rfl];refine G.hF (-1) 0 ?_;exact G.r (.bool false) ⟨rfl,rfl⟩
theorem S2 {u m:PH}{f g:Aq}{b:Nat}(hb:ElP m b 0 (Ce g))(hne:f.1≠g.1):FnK prog 194 [Ce f,.pointer (some ⟨b,0,none⟩)] u m fun v _=>v=.bool false:=by
 refine FnK.of func194 kV kV ?_;refine G.f 82 b 0 0 0 ?_;refine G.lM none b (0+0) (.int .i64 (g.1:Int)) (fun i x hx=>?_) ?_
 ·have:i=0/\x=.int .i64 (g.1:Int):=by
   match i,hx with
   |0,hx=>exact⟨rfl,by simpa[Atw] using hx.symm⟩
   |i+1,hx=>simp[Atw]at hx
  obtain⟨rfl,rfl⟩:=this;exact hb 0 _ rfl
 refine G.eF (f.1:Int) (g.1:Int) ?_;exact G.r (.bool false) ⟨rfl,rfl⟩
structure Ef (T:List (List UInt8×Nat))(F:List Aq)(lab:Int):Prop where
 ok:∀ f∈F,∃ n k,T[f.1]?=some (n,k)/\((f.2.1=1/\k=2/\f.2.2<=1)\/(f.2.1=2/\k=3/\f.2.2=0))/\(f.1:Int)≠lab
 nodup:(F.map (·.1)).Nodup
end
section
variable {b:Nat}{m u:PH}
theorem Ad.cap {a:Option Addr}{n c sz:Nat}{es:List Value}(h:Ad u (.slice a n c) sz es):es.length<=c:=by
 obtain⟨_,_,e,hc,_⟩:=h;cases e;exact hc
theorem Jv {b off:Nat}{q:List UInt8×Nat}(h:ElP u b off (Ej q)):ElP u b (off+1) (.int .i64 (q.2:Int)):=fun i x hx=>by
 match i,hx with
 |0,hx =>
  have:x=.int .i64 (q.2:Int):=by simpa[Atw] using hx.symm
  subst this;exact h 1 _ rfl
 |i+1,hx=>simp[Atw]at hx
theorem Mw {t:TypeId}{xs:List Value}{e:Value}(he:e.cells=xs.toArray):ElP (m.upd b (.cells xs.toArray t (0,0))) b 0 e:=fun i x hx=>by
 refine⟨_,_,_,Ab _ _ _,?_⟩;rw[he]at hx;simpa using hx
theorem Adk {g:Aq}(hb:ElP m b 0 (Ce g)):ElP m b (0+0) (.int .i64 (g.1:Int)):=fun i x hx=>by
 match i,hx with
 |0,hx =>
  have:x=.int .i64 (g.1:Int):=by simpa[Atw] using hx.symm
  subst this;exact hb 0 _ rfl
 |i+1,hx=>simp[Atw]at hx
theorem Ag6 {v w x:Value}{T:List (List UInt8×Nat)}{F:List Aq}{lab:Int}(h:Ad u v 2 (T.map Ej))(hF:Ad u x 3 (F.map Ce))(ok:Ef T F lab)(hl:T.length<=1000)(hl2:F.length<=1000)(hw:∃ a n c,w=.slice a n c) :
 Fn0 prog 144 [.agg #[v,w,x,.int .i64 lab]] u fun r _=>r=.int .i64 0:=by
 obtain⟨a,c,rfl⟩:=h.opn;obtain⟨a',c',rfl⟩:=hF.opn;obtain⟨wa,wn,wc,rfl⟩:=hw;have hcap:=hF.cap;rw[Ata]at h hF hcap⊢;rw[Ata];refine Fn0.o func144 ?_;refine G.l (ι:=Nat) (fun i=>[(1,.p 0 0),(9,sV a' F.length c'),(10,iV F.length),(11,iV i)]) (fun _=>[(0,⟨30,[sV a T.length c,sV wa wn wc,sV a' F.length c',iV lab]⟩)])
  (fun i u' m'=>i<=F.length/\m'=PH.mt) (fun i=>F.length-i) 0 ⟨oV,rfl⟩ ?_
 rintro J i hJ u1 m1 l1 ⟨hi,rfl⟩;by_cases hlt:i<F.length
 ·refine G.lT (i:Int) (F.length:Int) ?_;have hTi:F[i]?=some F[i]:=As5 hlt;obtain⟨n,k,hk,hkind,hlab⟩:=ok.ok F[i] (Ath hlt);have hdiff:∀ f∈F.take i,f.1≠(F[i]).1:=by
   intro f hf;obtain⟨j,hj,rfl⟩:=Avy hf;rw[Atm]at hj;rw[Azn];intro e;have:=(A08 (xs:=F.map (·.1)) (h₀:=by rw[Ata];omega) (h₁:=by rw[Ata];omega) (i:=j) (j:=i) ok.nodup).1 (by rw[Awp,Awp];exact e);omega
  obtain⟨ba,oa,rfl,ea⟩:=Ad.at' (hF.mono l1) (j:=i) (e:=Ce F[i]) (by simp[hTi]);have hTk:=(hF.mono l1).take' i (by rw[Ata];omega);rw[<-List.map_take]at hTk;have htl:(F.take i).length=i:=by rw[Atm];omega
  generalize F[i]=f at ea hk hkind hlab hdiff;obtain⟨hkl,hkx⟩:=Atc.1 hk;obtain⟨bb,ob,rfl,eb⟩:=Ad.at' (h.mono l1) (j:=f.1) (e:=Ej (n,k)) (by simp[hk]);refine G.a ba oa F.length c' i 3 hlt ?_;refine G.lU (some 3) ba (oa+i*3) (.agg #[.int .i64 (f.1:Int),.int .i64 (f.2.1:Int),.int .i64 (f.2.2:Int)]) ea ?_;refine G.lF (f.1:Int) 0 ?_;refine G.hF (f.1:Int) (T.length:Int) ?_;refine G.a bb ob T.length c f.1 2 hkl ?_;refine G.f 77 bb (ob+f.1*2) 1 1 ?_;refine G.lU none bb (ob+f.1*2+1) (.int .i64 (k:Int)) (Jv eb) ?_;rcases hkind with ⟨k1,k2,k3⟩|⟨k1,k2,k3⟩
  ·refine G.eT (f.2.1:Int) 1 ?_;refine G.eT (k:Int) 2 ?_;by_cases k0:f.2.2=0
   ·refine G.eT (f.2.2:Int) 0 ?_;refine G.eF (f.2.1:Int) 2 ?_;refine G.pastI ?_;refine G.pub 3003 82 [.int .i64 (f.1:Int),.int .i64 (f.2.1:Int),.int .i64 (f.2.2:Int)] kV kV ?_;intro e2 hu2 hm2;refine G.f 82 e2 0 0 0 ?_;refine G.lM none e2 (0+0) (.int .i64 (f.1:Int)) (Adk (g:=f) (Mw rfl)) ?_;refine G.eF' (f.1:Int) lab hlab ?_;refine G.sliceTo 3 (some ⟨ba,oa,none⟩) F.length c' i kV oV ?_;refine G.callK _ _ kV call193 (Kl hTk (by rw[Atm];omega) call194 fun f' hf' u' _=>S2 (g:=f) (Mw rfl) (hdiff f' hf')) ?_;rintro v2 u2 l2 rfl;refine G.drop PH.mt kV (PH.mt_le _) ?_;refine G.i i ?_;exact G.b (hJ (i+1) _ _ _ cV (l1.trans l2) ⟨oV,rfl⟩ oV)
   ·refine G.eF (f.2.2:Int) 0 ?_;refine G.eT (f.2.2:Int) 1 ?_;refine G.eF (f.2.1:Int) 2 ?_;refine G.pastI ?_;refine G.pub 3003 82 [.int .i64 (f.1:Int),.int .i64 (f.2.1:Int),.int .i64 (f.2.2:Int)] kV kV ?_;intro e2 hu2 hm2;refine G.f 82 e2 0 0 0 ?_;refine G.lM none e2 (0+0) (.int .i64 (f.1:Int)) (Adk (g:=f) (Mw rfl)) ?_;refine G.eF' (f.1:Int) lab hlab ?_;refine G.sliceTo 3 (some ⟨ba,oa,none⟩) F.length c' i kV oV ?_;refine G.callK _ _ kV call193 (Kl hTk (by rw[Atm];omega) call194 fun f' hf' u' _=>S2 (g:=f) (Mw rfl) (hdiff f' hf')) ?_;rintro v2 u2 l2 rfl;refine G.drop PH.mt kV (PH.mt_le _) ?_;refine G.i i ?_;exact G.b (hJ (i+1) _ _ _ cV (l1.trans l2) ⟨oV,rfl⟩ oV)
  ·refine G.eF (f.2.1:Int) 1 ?_;refine G.eT (f.2.1:Int) 2 ?_;refine G.eT (k:Int) 3 ?_;refine G.eT (f.2.2:Int) 0 ?_;refine G.pastI ?_;refine G.pub 3003 82 [.int .i64 (f.1:Int),.int .i64 (f.2.1:Int),.int .i64 (f.2.2:Int)] kV kV ?_;intro e2 hu2 hm2;refine G.f 82 e2 0 0 0 ?_;refine G.lM none e2 (0+0) (.int .i64 (f.1:Int)) (Adk (g:=f) (Mw rfl)) ?_;refine G.eF' (f.1:Int) lab hlab ?_;refine G.sliceTo 3 (some ⟨ba,oa,none⟩) F.length c' i kV oV ?_;refine G.callK _ _ kV call193 (Kl hTk (by rw[Atm];omega) call194 fun f' hf' u' _=>S2 (g:=f) (Mw rfl) (hdiff f' hf')) ?_;rintro v2 u2 l2 rfl;refine G.drop PH.mt kV (PH.mt_le _) ?_;refine G.i i ?_;exact G.b (hJ (i+1) _ _ _ cV (l1.trans l2) ⟨oV,rfl⟩ oV)
 ·obtain rfl:i=F.length:=oV
  refine G.lF (F.length:Int) (F.length:Int) ?_;exact G.r (.int .i64 0) ⟨rfl,rfl⟩
end
section
variable {L:List Bool}{b c n:Nat}{m m0 u:PH}
theorem Aod (hn:n=L.length)(hl:n<=1000000)(hE:∀ (j:Nat) s,L[j]?=some s->ElP m b (0+j*1) (.bool s))(hx:∀ s∈L,s=true) :
 FnK prog 224 [.slice (some ⟨b,0,none⟩) n c,.bool false] u m fun v _=>v=.int .i64 (-1):=by
 refine FnK.of func224 kV kV ?_;refine G.l (ι:=Nat) (fun i=>[(0,sV (some ⟨b,0,none⟩) n c),(1,bV false),(7,iV n),(8,iV i)]) (fun _=>[])
  (fun i u' m'=>i<=n/\m'=m) (fun i=>n-i) 0 ⟨oV,rfl⟩ ?_
 rintro J i hJ u1 m1 l1 ⟨hi,rfl⟩;by_cases hlt:i<n
 ·refine G.lT (i:Int) (n:Int) ?_;have hTi:L[i]?=some true:=by
   rw[As5 oV];exact congrArg some (hx _ (Ath oV))
  refine G.a b 0 n c i 1 hlt ?_;refine G.lM none b (0+i*1) (.bool true) (hE i _ hTi) ?_;refine G.eqB false true kV ?_;refine G.i i ?_;exact G.b (hJ (i+1) _ _ _ cV l1 ⟨oV,rfl⟩ oV)
 ·obtain rfl:i=n:=oV
  refine G.lF (i:Int) (i:Int) ?_;exact G.r (.int .i64 (-1)) ⟨rfl,rfl⟩
theorem Ac4 (hn:n=L.length)(hl:n<=1000000)(hE:∀ (j:Nat) s,L[j]?=some s->ElP m b (0+j*1) (.bool s))(hx:∀ s∈L,s=true) :
 FnK prog 192 [.slice (some ⟨b,0,none⟩) n c,.bool false] u m fun v _=>v=.bool false:=by
 refine FnK.of func192 kV kV ?_;refine G.callK _ _ kV call224 (Aod (c:=c) (L:=L) hn hl hE hx) ?_;rintro v1 u1 l1 rfl;refine G.hF (-1) 0 ?_;exact G.r (.bool false) ⟨rfl,rfl⟩
abbrev Ch:Type:=List UInt8×List Nat×(Option Addr×Nat)
def Gw (r:Ch):Value:=.agg #[.string (mkS r.1),.slice r.2.2.1 r.2.1.length r.2.2.2]
structure Nh (u:PH)(n:Nat)(R:List Ch):Prop where
 names:Pb (R.map (·.1))
 ne:∀ r∈R,r.2.1≠[]
 lt:∀ r∈R,∀ a∈r.2.1,a<n
 len:∀ r∈R,r.2.1.length<=1000
 asc:∀ r∈R,∀ (k:Nat) x y,r.2.1[k]?=some x->r.2.1[k+1]?=some y->x<y
 all:∀ a<n,∃ r∈R,a∈r.2.1
 at':∀ r∈R,Ad u (.slice r.2.2.1 r.2.1.length r.2.2.2) 1 (Ah r.2.1)
def Alv (g n:Nat)(L:List Bool):Arr:=⟨.slice (some ⟨g,0,none⟩) n n,4,1,L.map .bool⟩
def Aen (a:Option Addr)(c:Nat)(L:List (List UInt8)):Arr:=⟨.slice a L.length c,9,1,L.map nmV⟩
theorem Ae9 {g n:Nat}:(Alv g n L).At m0 m=Ae m0 m (.slice (some ⟨g,0,none⟩) n n) 4 1 (L.map .bool):=rfl
theorem Afx {a:Option Addr}{L:List (List UInt8)}:(Aen a c L).At m0 m=Ae m0 m (.slice a L.length c) 9 1 (L.map nmV):=rfl
theorem Pg (L:List Bool)(a:Nat):(L.map Ayi).set a (.bool true)=(L.set a true).map Ayi:=by rw[List.map_set]
theorem Adp {w x y:Value}{a0:Option Addr}{n c0:Nat}{R:List Ch}(hR:Ad u w 2 (R.map Gw))(ok:Nh u n R)(hn:n<=1000)(hn0:0<n)(hl:R.length<=1000)(hx:∃ a n c,x=.slice a n c)(hy:∃ z:Int,y=.int .i64 z) :
 Fn0 prog 143 [.agg #[.slice a0 n c0,w,x,y]] u fun r _=>r=.int .i64 0:=by
 obtain⟨a,c,rfl⟩:=hR.opn;obtain⟨xa,xn,xc,rfl⟩:=hx;obtain⟨z,rfl⟩:=hy;rw[Ata]at hR⊢;refine Fn0.o func143 ?_;refine G.make 4 1 1 (.bool false) n kV rfl rfl oV oV oV ?_;rintro v1 m1 hA1 ⟨ad,rfl⟩;obtain⟨g,rfl,_⟩:=hA1.some';refine G.l (ι:=Nat×List Bool×List (List UInt8)×(Option Addr×Nat)) (fun i=>[(3,sV i.2.2.2.1 i.2.2.1.length i.2.2.2.2),(4,sV (some ⟨g,0,none⟩) n n),(16,sV a R.length c),(17,iV R.length),(18,iV i.1)]) (fun _=>[])
  (fun i u' m'=>i.1<=R.length/\i.2.1.length=n/\i.2.2.1=(R.map (·.1)).take i.1/\(∀ r∈R.take i.1,∀ q∈r.2.1,i.2.1[q]?=some true)/\Bag m' [Alv g n i.2.1,Aen i.2.2.2.1 i.2.2.2.2 i.2.2.1]) (fun i=>R.length-i.1) (0,List.replicate n false,[],(none,0))
  ⟨mV,mV,mV,mV,⟨PH.mt,by rw[Ae9,Aw5];exact hA1,PH.mt,Ae.nil _ _ _,trivial⟩⟩ ?_
 rintro J ⟨i,L,N,⟨na,nc⟩⟩ hJ u2 m2 l2 ⟨hi,hL,hN,hall,hbag⟩;simp only at hi hL hN hall hbag hJ;by_cases hlt:i<R.length
 ·refine G.lT (i:Int) (R.length:Int) ?_;have hTi:R[i]?=some R[i]:=As5 hlt;have hmem:R[i]∈R:=Ath hlt;have htk:(R.map (·.1)).take (i+1)=N++[R[i].1]:=by
   rw[At0,Aty,hTi,hN];rfl
  have htk2:R.take (i+1)=R.take i++[R[i]]:=by
   rw[At0,hTi];rfl
  have hnames:=ok.names.take (i+1);rw[htk]at hnames;have hlen:N.length=i:=by rw[hN];simp;omega
  obtain⟨ba,oa,rfl,ea⟩:=Ad.at' (hR.mono l2) (j:=i) (e:=Gw R[i]) (by simp[hTi]);generalize R[i]=q at ea hmem htk htk2 hnames;obtain⟨qs,ql,qa,qc⟩:=q;have hne:ql≠[]:=ok.ne _ hmem;have hlq:∀ p∈ql,p<n:=ok.lt _ hmem;have hql:ql.length<=1000:=ok.len _ hmem;have hasc:∀ (k:Nat) x y,ql[k]?=some x->ql[k+1]?=some y->x<y:=ok.asc _ hmem;have hqat:Ad u2 (.slice qa ql.length qc) 1 (Ah ql):=(ok.at' _ hmem).mono l2;have hq0:0<ql.length:=List.length_pos_iff.2 hne;simp only at htk hnames;refine G.a ba oa R.length c i 2 hlt ?_;refine G.lU (some 2) ba (oa+i*2) (.agg #[.string (mkS qs),.slice qa ql.length qc]) ea ?_;refine G.B 9 1 16 (.string (mkS [])) [.string (mkS qs)] (Kz [qs]) ?_;intro g3 u3 l3 e3;obtain⟨mm,hx0,hput⟩:=hbag.focus 1 rfl;rw[Afx]at hx0;refine G.k 9 1 16 (.string (mkS [])) mm (N.map nmV) [.string (mkS qs)] (.slice na N.length nc) g3 0 1 1 hx0 e3 (Kz [qs]) ?_;intro v4 m4 hA4;rw[show N.map nmV++[.string (mkS qs)]=(N++[qs]).map nmV by rw[Atk];rfl]at hA4;obtain⟨b4,c4,rfl⟩:=hA4.ptr mV;have hcap:=hA4.cap;rw[Ata]at hA4 hcap⊢;have hbag4:=hput (Aen (some ⟨b4,0,none⟩) c4 (N++[qs])) m4 hA4;simp only[List.set_cons_succ,Avj]at hbag4;refine G.callK _ _ kV call191 (Ak9 (b:=b4) (k:=i) (c:=c4) (x:=qs) (L:=N++[qs]) hnames gV hcap (by rw[<-hlen];exact getElem?_snoc_last N qs) fun j s hs=>hA4.el (by rw[Aty,hs];rfl)) ?_;rintro v5 u5 l5 rfl;refine G.nF 0 0 ?_;refine G.eF (ql.length:Int) 0 ?_;generalize N++[qs]=N' at hbag4 htk;clear hA4 hput hx0 hbag hcap hnames;have hlt':∀ p∈ql,p<n:=hlq;refine G.l (ι:=Nat×List Bool) (fun j=>[(3,sV (some ⟨b4,0,none⟩) N'.length c4),(4,sV (some ⟨g,0,none⟩) n n),(6,.p 5003 0),(16,sV (some ⟨ba,oa,none⟩) R.length c),(17,iV R.length),(18,iV i),(39,sV qa ql.length qc),(40,iV ql.length),(41,iV j.1)])
   (fun _=>[(5003,⟨155,[tV qs,sV qa ql.length qc]⟩)])
   (fun j u' m'=>j.1<=ql.length/\j.2.length=n/\(∀ r∈R.take i,∀ q∈r.2.1,j.2[q]?=some true)/\(∀ q∈ql.take j.1,j.2[q]?=some true)/\Bag m' [Alv g n j.2,Aen (some ⟨b4,0,none⟩) c4 N']) (fun j=>ql.length-j.1) (0,L)
   ⟨mV,hL,hall,mV,hbag4⟩ ?_
  rintro J2 ⟨j,L2⟩ hJ2 u6 m6 l6 ⟨hj,hL2,hall2,hrow2,hbag6⟩;simp only at hj hL2 hall2 hrow2 hbag6 hJ2;have hqat6:=hqat.mono ((l3.trans l5).trans l6);by_cases hltj:j<ql.length
  ·refine G.lT (j:Int) (ql.length:Int) ?_;have hqj:ql[j]?=some ql[j]:=As5 hltj;have hpn:ql[j]<n:=hlq _ (Ath hltj);have htkj:ql.take (j+1)=ql.take j++[ql[j]]:=by rw[At0,hqj];rfl
   obtain⟨bq,oq,rfl,eq⟩:=Ad.at' hqat6 (j:=j) (e:=.int .i64 (ql[j]:Int)) (by simp[Ah,hqj]);generalize ql[j]=p at eq hpn htkj;refine G.a bq oq ql.length qc j 1 hltj ?_;refine G.lU none bq (oq+j*1) (.int .i64 (p:Int)) eq ?_;refine G.lF (p:Int) 0 ?_;refine G.hF (p:Int) (n:Int) ?_;refine G.a g 0 n n p 1 hpn ?_;obtain⟨mm2,hx2,hput2⟩:=hbag6.focus 0 rfl;rw[Ae9]at hx2;refine G.storeA 1 mm2 (L2.map Ayi) g n n p (.bool true) kV hx2 (by rw[Ata];omega) rfl rfl ?_;intro m7 hA7;rw[Pg]at hA7;have hbag7:=hput2 (Alv g n (L2.set p true)) m7 hA7;simp only[Avj]at hbag7;refine G.i j ?_;have hkeep:∀ q,L2[q]?=some true->(L2.set p true)[q]?=some true:=fun q hq=>by
    rw[Au5];split
    ·subst_vars;rw[if_pos oV]
    ·exact hq
   exact G.b (hJ2 (j+1,L2.set p true) _ _ _ cV l6 ⟨dV,by simp[hL2],fun r hr q hq=>hkeep q (hall2 r hr q hq),by
    intro q hq;dsimp only at hq⊢;rw[htkj,Ati,Aub]at hq;rcases hq with hq|rfl
    ·exact hkeep q (hrow2 q hq)
    ·rw[Au5];simp;omega,hbag7⟩ dV)
  ·obtain rfl:j=ql.length:=oV
   refine G.lF (ql.length:Int) (ql.length:Int) ?_;rw[At9]at hrow2;refine G.l (ι:=Nat) (fun k=>[(3,sV (some ⟨b4,0,none⟩) N'.length c4),(4,sV (some ⟨g,0,none⟩) n n),(6,.p 5003 0),(10,iV (k+1:Nat)),(16,sV (some ⟨ba,oa,none⟩) R.length c),(17,iV R.length),(18,iV i)])
    (fun _=>[(5003,⟨155,[tV qs,sV qa ql.length qc]⟩)])
    (fun k u' m'=>k+1<=ql.length/\m'=m6) (fun k=>ql.length-k) 0
    ⟨oV,rfl⟩ ?_
   rintro J3 k hJ3 u8 m8 l8 ⟨hk,rfl⟩;have hqat8:=hqat6.mono l8;by_cases hltk:k+1<ql.length
   ·refine G.lT ((k+1:Nat):Int) (ql.length:Int) ?_;have hq1:ql[k]?=some ql[k]:=As5 oV;have hq2:ql[k+1]?=some ql[k+1]:=As5 hltk;have hlt3:=hasc k _ _ hq1 hq2;obtain⟨bq,oq,rfl,eq2⟩:=Ad.at' hqat8 (j:=k+1) (e:=.int .i64 (ql[k+1]:Int)) (by simp[Ah,hq2]);obtain⟨_,_,e',eq1⟩:=Ad.at' hqat8 (j:=k) (e:=.int .i64 (ql[k]:Int)) (by simp[Ah,hq1]);cases e';generalize ql[k]=p1 at eq1 hlt3;generalize ql[k+1]=p2 at eq2 hlt3;refine G.a bq oq ql.length qc (k+1) 1 hltk ?_;refine G.lU none bq (oq+(k+1)*1) (.int .i64 (p2:Int)) eq2 ?_;refine G.s ((k+1:Nat):Int) 1 (k:Int) ?_;refine G.a bq oq ql.length qc k 1 oV ?_;refine G.lU none bq (oq+k*1) (.int .i64 (p1:Int)) eq1 ?_;refine G.kF (p2:Int) (p1:Int) ?_;refine G.p ((k+1:Nat):Int) 1 ((k+1+1:Nat):Int) ?_;exact G.b (hJ3 (k+1) _ _ _ cV l8 ⟨oV,rfl⟩ oV)
   ·refine G.lF ((k+1:Nat):Int) (ql.length:Int) ?_;refine G.i i ?_;exact G.b (hJ (i+1,L2,N',(some ⟨b4,0,none⟩,c4)) _ _ _ cV ((((l2.trans l3).trans l5).trans l6).trans l8) ⟨dV,hL2,htk.symm,by
     intro r hr q hq;dsimp only at hr hq⊢;rw[htk2,Ati,Aub]at hr;rcases hr with hr|rfl
     ·exact hall2 r hr q hq
     ·exact hrow2 q hq,hbag6⟩ dV)
 ·obtain rfl:i=R.length:=oV
  refine G.lF (R.length:Int) (R.length:Int) ?_;rw[At9]at hall;refine G.callK _ _ kV call192 (Ac4 (b:=g) (c:=n) (L:=L) hL.symm oV (fun j s hs=>hbag.el 0 rfl (x:=Alv g n L) rfl (by show (L.map Ayi)[j]?=_;rw[Aty,hs];rfl)) fun s hs=>by
   obtain⟨j,hj,rfl⟩:=Avy hs;obtain⟨r,hr,hq⟩:=ok.all j oV;have:=hall r hr j hq;rw[As5 hj]at this;exact Option.some.inj this) ?_
  rintro v3 u3 l3 rfl;refine G.drop PH.mt kV (PH.mt_le _) ?_;exact G.r (.int .i64 0) ⟨rfl,rfl⟩
end
structure Bz (u:PH)(T:List (List UInt8×Nat))(R:List Ch)(F:List Aq)(lab:Int):Prop where
 att:Ake T
 rel:Nh u T.length R
 feat:Ef T F lab
 t1:0<T.length
 t2:T.length<=12
 r1:0<R.length
 r2:R.length<=6
 f2:F.length<=8
 l1:-1<=lab
 l2:∀ l:Nat,lab=(l:Int)->∃ n,T[l]?=some (n,2)
theorem Nh.mono {u u':PH}{n:Nat}{R:List Ch}(h:Nh u n R)(hl:PH.le u u'):Nh u' n R:=⟨h.names,h.ne,h.lt,h.len,h.asc,h.all,fun r hr=>(h.at' r hr).mono hl⟩
theorem Bz.mono {u u':PH}{T:List (List UInt8×Nat)}{R:List Ch}{F:List Aq}{lab:Int}(h:Bz u T R F lab)(hl:PH.le u u'):Bz u' T R F lab:=⟨h.att,h.rel.mono hl,h.feat,h.t1,h.t2,h.r1,h.r2,h.f2,h.l1,h.l2⟩
def Ir (u:PH)(v:Value)(T:List (List UInt8×Nat))(R:List Ch)(F:List Aq)(lab:Int):Prop :=
 ∃ a c b d e f,v=.agg #[.slice a T.length c,.slice b R.length d,.slice e F.length f,.int .i64 lab]/\Ad u (.slice a T.length c) 2 (T.map Ej)/\Ad u (.slice b R.length d) 2 (R.map Gw)/\Ad u (.slice e F.length f) 3 (F.map Ce)
theorem Ir.mono {u u':PH}{v:Value}{T:List (List UInt8×Nat)}{R:List Ch}{F:List Aq}{lab:Int}(h:Ir u v T R F lab)(hl:PH.le u u'):Ir u' v T R F lab:=by
 obtain⟨a,c,b,d,e,f,hv,h1,h2,h3⟩:=h;exact⟨a,c,b,d,e,f,hv,h1.mono hl,h2.mono hl,h3.mono hl⟩
theorem All {u:PH}{v:Value}{T:List (List UInt8×Nat)}{R:List Ch}{F:List Aq}{lab:Int}(h:Ir u v T R F lab)(ok:Bz u T R F lab) :
 Fn0 prog 88 [v] u fun r _=>r=.int .i64 0:=by
 obtain⟨a,c,b,d,e,f,rfl,hT,hR,hF⟩:=h;have t1:=ok.t1;have t2:=ok.t2;have r1:=ok.r1;have r2:=ok.r2;have f2:=ok.f2;have lo:=ok.l1;have hi:lab<T.length:=by
  rcases Axn lab 0 with hlt|hge
  ·omega
  ·obtain⟨n,hn⟩:=ok.l2 lab.toNat oV;obtain⟨hk,_⟩:=Atc.1 hn;omega
 refine Fn0.o func88 ?_;refine G.eF (T.length:Int) 0 ?_;refine G.gF (T.length:Int) 12 ?_;refine G.eF (R.length:Int) 0 ?_;refine G.gF (R.length:Int) 6 ?_;refine G.gF (F.length:Int) 8 ?_;refine G.buildU 88 1 8 (.nilFunc) [.func (.func 142) #[] #[],.func (.func 143) #[] #[],.func (.func 144) #[] #[]] kV (fun x hx=>by
  simp only[At6,List.not_mem_nil,or_false]at hx;rcases hx with rfl|rfl|rfl<;>exact⟨rfl,Atx.1 rfl⟩) rfl oV mV mV ?_
 intro g u1 l1 e1;refine G.l (ι:=Nat) (fun i=>[(1,.p 0 0),(34,sV (some ⟨g,0,none⟩) 3 3),(35,iV (3:Nat)),(36,iV i)])
  (fun _=>[(0,⟨30,[sV a T.length c,sV b R.length d,sV e F.length f,iV lab]⟩)])
  (fun i u' m'=>i<=3/\m'=PH.mt) (fun i=>3-i) 0 ⟨oV,rfl⟩ ?_
 rintro J i hJ u2 m2 l2 ⟨hi3,rfl⟩;have le2:=l1.trans l2;have e2:=e1.mono l2;by_cases hlt:i<3
 ·refine G.lT (i:Int) ((3:Nat):Int) ?_;refine G.a g 0 3 3 i 1 hlt ?_;rcases (by omega:i=0\/i=1\/i=2) with rfl|rfl|rfl
  ·refine G.lU none g (0+0*1) (.func (.func 142) #[] #[]) (e2 0 _ rfl) ?_;refine G.c call142 (Z9 (w:=.slice b R.length d) (x:=.slice e F.length f) (y:=.int .i64 lab) (hT.mono le2) ok.att oV ⟨_,_,_,rfl⟩ ⟨_,_,_,rfl⟩ ⟨_,rfl⟩) ?_;rintro v3 u3 l3 rfl;refine G.nF 0 0 ?_;refine G.p ((0:Nat):Int) 1 ((0+1:Nat):Int) ?_;exact G.b (hJ (0+1) _ _ _ cV (l2.trans l3) ⟨oV,rfl⟩ oV)
  ·refine G.lU none g (0+1*1) (.func (.func 143) #[] #[]) (e2 1 _ rfl) ?_;refine G.c call143 (Adp (a0:=a) (c0:=c) (x:=.slice e F.length f) (y:=.int .i64 lab) (hR.mono le2) (ok.rel.mono le2) oV oV oV ⟨_,_,_,rfl⟩ ⟨_,rfl⟩) ?_;rintro v3 u3 l3 rfl;refine G.nF 0 0 ?_;refine G.p ((1:Nat):Int) 1 ((1+1:Nat):Int) ?_;exact G.b (hJ (1+1) _ _ _ cV (l2.trans l3) ⟨oV,rfl⟩ oV)
  ·refine G.lU none g (0+2*1) (.func (.func 144) #[] #[]) (e2 2 _ rfl) ?_;refine G.c call144 (Ag6 (w:=.slice b R.length d) (hT.mono le2) (hF.mono le2) ok.feat oV oV ⟨_,_,_,rfl⟩) ?_;rintro v3 u3 l3 rfl;refine G.nF 0 0 ?_;refine G.p ((2:Nat):Int) 1 ((2+1:Nat):Int) ?_;exact G.b (hJ (2+1) _ _ _ cV (l2.trans l3) ⟨oV,rfl⟩ oV)
 ·obtain rfl:i=3:=oV
  refine G.lF ((3:Nat):Int) ((3:Nat):Int) ?_;refine G.lF lab (-1) ?_;refine G.hF lab (T.length:Int) ?_;rcases Axn lab 0 with hneg|hge
  ·refine G.hF lab 0 ?_;exact G.r (.int .i64 0) ⟨rfl,rfl⟩
  ·refine G.hT lab 0 ?_;obtain⟨l,rfl⟩:∃ l:Nat,lab=(l:Int):=⟨lab.toNat,oV⟩;obtain⟨n,hn⟩:=ok.l2 l rfl;obtain⟨bb,ob,rfl,eb⟩:=Ad.at' (hT.mono le2) (j:=l) (e:=Ej (n,2)) (by simp[hn]);refine G.a bb ob T.length c l 2 oV ?_;refine G.f 77 bb (ob+l*2) 1 1 ?_;refine G.lU none bb (ob+l*2+1) (.int .i64 ((2:Nat):Int)) (Jv eb) ?_;refine G.nF ((2:Nat):Int) 2 ?_;exact G.r (.int .i64 0) ⟨rfl,rfl⟩
section
section rules
variable {P:Program} [A7 P] {fn:Func} {Post:By} {st:List KI×S} {u m:PH}
end rules
end
theorem Mu {z:Int}(h:z.natAbs<1000000000000000000):Lib.nDigits z.natAbs<=400:=As9 (D9 (k:=18) oV oV) oV
structure Dat (q:Rat):Prop where
 num:q.num.natAbs<=1000000000
 den:q.den<=12
theorem Dat.tx {q:Rat}(h:Dat q):Tx q:=⟨Mu (by have:=h.num;omega),by have:=Mu (z:=(q.den:Int)) (by have:=h.den;omega);simpa using this⟩
def CF.one1 (p:Par)(q:Rat):CF:=⟨1,Hs (fun _=>0) p q,Hs (fun _=>0) (p,p) (q*q)⟩
section
variable {p:Par}{q:Rat}
theorem Ajk {d N:Nat}(h1:Dn d N 1)(hq:Dn d N q)(h2:Dn d N (q*q)):CFD d N (CF.one1 p q) :=
 ⟨h1,fun k=>by
  show Dn d N (Hs (fun _=>(0:Rat)) p q k);unfold Hs;split
  ·exact hq
  ·exact Dn.zero _ _,fun k=>by
  show Dn d N (Hs (fun _=>(0:Rat)) (p,p) (q*q) k);unfold Hs;split
  ·exact h2
  ·exact Dn.zero _ _⟩
theorem Ajp (hp:PV p):CFV (CF.one1 p q) :=
 ⟨fun k hk=>by
  have hk:Hs (fun _=>(0:Rat)) p q k≠0:=hk;unfold Hs at hk;split at hk
  ·subst_vars;exact hp
  ·exact absurd rfl hk,fun k hk=>by
  have hk:Hs (fun _=>(0:Rat)) (p,p) (q*q) k≠0:=hk;unfold Hs at hk;split at hk
  ·subst_vars
   exact⟨hp,hp,fun e=>by
   have e:0<Bd p p:=e;have:=(Fr.sym _ _).2 e;omega⟩
  ·exact absurd rfl hk⟩
theorem Eu.listP {u:PH}{g sz:Nat}{es:List Value}(h:Eu u g 0 sz es):Ad u (.slice (some ⟨g,0,none⟩) es.length es.length) sz es:=⟨_,_,rfl,Atb _,fun j e hj=>⟨g,0,rfl,h j e hj⟩⟩
theorem Aa5 {L:List (List UInt8)}(h:(L.all Hl&&decide L.Nodup)=true):Pb L:=by
 rw[Atj,Atx,decide_eq_true_iff]at h;exact⟨h.1,h.2⟩
end
theorem pw {n:Nat}(h:n<10^30):n<10^100:=Nat.lt_of_lt_of_le h jV
section
variable {p q:Par}
theorem Aof (h:p.1<q.1):Bd p q<0:=by
 have e:Np p.1 q.1 = -1:=by unfold Np;rw[if_pos h]
 unfold Bd;rw[e,if_pos fV];decide
theorem Aoj (h:¬ p.1<q.1)(h':p.1≠q.1):¬ Bd p q<0:=by
 have e:Np p.1 q.1=1:=by unfold Np;rw[if_neg h,if_pos oV]
 unfold Bd;rw[e,if_pos fV];decide
theorem An8 (h:p.1=q.1):decide (Bd p q<0)=Op.bytesLess p.2 q.2:=by
 have e:Np p.1 q.1=0:=by unfold Np;rw[if_neg oV,if_neg oV]
 unfold Bd;rw[e,if_neg fV];unfold Rn;cases Op.bytesLess p.2 q.2 with
 |true=>rfl
 |false =>
  simp only[Bool.false_eq_true,if_false];split<;>rfl
theorem Ga {u:PH}(p q:Par)(r:Bool)(h:decide (Bd p q<0)=r):Fn0 prog 86 [A3 p,A3 q] u fun v _=>v=.bool r:=by
 refine Fn0.o func86 ?_;by_cases h1:p.1<q.1
 ·refine G.lT' p.1 q.1 h1 ?_;rw[decide_eq_true (Aof h1)]at h;subst h;exact G.r (.bool true) ⟨rfl,rfl⟩
 ·refine G.lF' p.1 q.1 h1 ?_;by_cases h2:p.1=q.1
  ·rw[An8 h2]at h;refine G.eT' p.1 q.1 h2 ?_;refine G.ltS p.2 q.2 r kV h ?_;cases r with
   |true=>exact G.r (.bool true) ⟨rfl,rfl⟩
   |false=>exact G.r (.bool false) ⟨rfl,rfl⟩
  ·rw[decide_eq_false (Aoj h1 h2)]at h;subst h;refine G.eF' p.1 q.1 h2 ?_;exact G.r (.bool false) ⟨rfl,rfl⟩
end
section
variable {F:CF}{N' g:Nat}{q:Rat}{v x:Value}{y1 y3:Bool}{y2 y4:SlI}
section
variable {P:Program} [A7 P] {fn:Func} {Post:By} {st:List KI×S} {u m:PH}
theorem Ac6 {env:Operand->Value}{o:Op}{t:TypeId}{L:List (Nat×Value)}(h:A8 P env o=.build t L):∃ ps:Array (Nat×Operand),o=.build t ps/\ps.toList.map (fun x=>(x.1,env x.2))=L:=by
 cases o<;>simp only[A8]at h<;>try cases h
 any_goals ((repeat' split at h)<;>cases h;done)
 ·grind
theorem G.buildArr (t e:TypeId)(p q:Par)(h:Al P (adv P st)=.build t [(0,A3 p),(1,A3 q)])(hu:P.underlying t=some (.array 2 e))(hs:szB P e=some 2)(hz:Wk P t=some (.agg #[.int .i64 0,.string (mkS []),.int .i64 0,.string (mkS [])]))
 (k:G P fn Post (nx (adv P st) (.agg #[.int .i64 p.1,.string (mkS p.2),.int .i64 q.1,.string (mkS q.2)])) u m):G P fn Post st u m:=by
 refine G.ask h mV (fun env o hview w hp=>?_) k;obtain⟨ps,e1,e2⟩:=Ac6 hview;obtain⟨dst,opp,type,pos,after,guard⟩:=o;simp only at e1;subst e1;have e3:(ps.map fun x=>(x.1,env x.2)).toList = [(0,A3 p),(1,A3 q)]:=by simp_all
 simp only[execOp,Instr.build,Sem.run_bind,Wh hz,Result.andThen_ok,run_underlying hu,Be hs,e3];rfl
end
def Di {κ:Type}(enc:κ->Value)(K:κ->Prop)(u:PH)(o:Obj)(f:κ->Rat)(N:Nat):Prop :=
 ∃ l:List (κ×Value),Et enc o l/\(∀ p∈l,QP u p.2 (f p.1)/\K p.1/\Sz (f p.1) 12)/\(∀ k,k∉l.map (·.1)->f k=0)/\l.length<=N
section
variable {κ:Type} [DecidableEq κ] {enc:κ->Value} {K:κ->Prop} {u:PH} {o:Obj} {f:κ->Rat} {N:Nat}
theorem Di.mono {u':PH}(h:Di enc K u o f N)(hl:PH.le u u'):Di enc K u' o f N:=by
 obtain⟨l,h1,h2,h3,h4⟩:=h;exact⟨l,h1,fun p hp=>⟨(h2 p hp).1.mono hl,(h2 p hp).2⟩,h3,h4⟩
theorem Di.up (h:Di enc K u o f N)(hN:N<=N'):Di enc K u o f N':=by
 obtain⟨l,h1,h2,h3,h4⟩:=h;exact⟨l,h1,h2,h3,As9 h4 hN⟩
theorem Di.congr {f':κ->Rat}(h:Di enc K u o f N)(e:∀ k,f k=f' k):Di enc K u o f' N:=by
 rw[<-funext e];exact h
theorem Di.empty:Di enc K u (.map #[] 0) (fun _=>0) 0:=⟨[],Et.empty,mV,fun _ _=>rfl,Atb _⟩
theorem Di.put {o':Obj}{a:κ}{x:Value}{q:Rat}{l:List (κ×Value)}(ho:Et enc o l)(h2:∀ p∈l,QP u p.2 (f p.1)/\K p.1/\Sz (f p.1) 12)(h3:∀ k,k∉l.map (·.1)->f k=0)(h4:l.length<=N)
 (h':Et enc o' (In a x l)) (hx:QP u x q) (hk:K a) (hs:Sz q 12):Di enc K u o' (Hs f a q) (N+1):=by
 refine⟨_,h',fun p hp=>?_,fun k hk=>?_,As9 L5 oV⟩
 ·unfold Hs;rcases Us ho.nodup hp with rfl|⟨hp,hne⟩
  ·grind
  ·grind
 ·rw[P3,not_or]at hk;unfold Hs;rw[if_neg hk.1];exact h3 k hk.2
end
def KT {κ:Type}(_:κ):Prop:=True
def KO (k:Par×Par):Prop:=¬ 0<Bd k.1 k.2
theorem KO.pair (p q:Par):KO (A5 p q):=by
 unfold KO A5;have h1:=Fr.sym p q;by_cases h:0<Bd p q
 ·grind
 ·grind
def Iq (m' u:PH)(v:Value)(F:CF)(N:Nat):Prop :=
 ∃ b a n c b' a' n' c' g1 g2 o1 o2,v=.agg #[.bool b,.slice a n c,.bool b',.slice a' n' c',.map (some g1),.map (some g2)]/\QP u (.agg #[.bool b,.slice a n c,.bool b',.slice a' n' c']) F.c/\g1≠g2/\m'=(PH.mt.upd g1 o1).upd g2 o2/\Di A3 KT u o1 F.s N/\Di prV KO u o2 F.t N
def Pt (u:PH)(v:Value)(F:CF)(N:Nat):Prop :=
 ∃ b a n c b' a' n' c' g1 g2 o1 o2,v=.agg #[.bool b,.slice a n c,.bool b',.slice a' n' c',.map (some g1),.map (some g2)]/\QP u (.agg #[.bool b,.slice a n c,.bool b',.slice a' n' c']) F.c/\u g1=some o1/\u g2=some o2/\Di A3 KT u o1 F.s N/\Di prV KO u o2 F.t N
theorem Pt.mono {u u':PH}{v:Value}{F:CF}{N:Nat}(h:Pt u v F N)(hl:PH.le u u'):Pt u' v F N:=by
 obtain⟨b,a,n,c,b',a',n',c',g1,g2,o1,o2,e,h1,h2,h3,h4,h5⟩:=h;exact⟨b,a,n,c,b',a',n',c',g1,g2,o1,o2,e,h1.mono hl,hl _ _ h2,hl _ _ h3,h4.mono hl,h5.mono hl⟩
theorem Iq.grow {m' u u':PH}{N:Nat}(h:Iq m' u v F N)(hl:PH.le u u'):Iq m' u' v F N:=by
 obtain⟨b,a,n,c,b',a',n',c',g1,g2,o1,o2,e,h1,h2,h3,h4,h5⟩:=h;exact⟨b,a,n,c,b',a',n',c',g1,g2,o1,o2,e,h1.mono hl,h2,h3,h4.mono hl,h5.mono hl⟩
theorem Iq.give {m' u u':PH}{N:Nat}(h:Iq m' u v F N)(hl:PH.le u u')(hm:PH.le m' u'):Pt u' v F N:=by
 obtain⟨b,a,n,c,b',a',n',c',g1,g2,o1,o2,e,h1,h2,rfl,h4,h5⟩:=h;exact⟨b,a,n,c,b',a',n',c',g1,g2,o1,o2,e,h1.mono hl,hm _ _ (by rw[Ac _ _ h2,Ab]),hm _ _ (Ab _ _ _),h4.mono hl,h5.mono hl⟩
theorem Iq.congr {m' u:PH}{F F':CF}{N N':Nat}(h:Iq m' u v F N)(e:F=F')(hN:N<=N'):Iq m' u v F' N':=by
 subst e;obtain⟨b,a,n,c,b',a',n',c',g1,g2,o1,o2,e,h1,h2,h3,h4,h5⟩:=h;exact⟨b,a,n,c,b',a',n',c',g1,g2,o1,o2,e,h1,h2,h3,h4.up hN,h5.up hN⟩
theorem Pz {u:PH}{N:Nat}(h:Pt u v F N):∃ b a n c b' a' n' c' g1 g2,v=.agg #[.bool b,.slice a n c,.bool b',.slice a' n' c',.map (some g1),.map (some g2)]:=by
 obtain⟨b,a,n,c,b',a',n',c',g1,g2,o1,o2,e,_⟩:=h;exact⟨b,a,n,c,b',a',n',c',g1,g2,e⟩
theorem Lu {m' u:PH}{N:Nat}(h:Iq m' u v F N):∃ b a n c b' a' n' c' g1 g2,v=.agg #[.bool b,.slice a n c,.bool b',.slice a' n' c',.map (some g1),.map (some g2)]:=by
 obtain⟨b,a,n,c,b',a',n',c',g1,g2,o1,o2,e,_⟩:=h;exact⟨b,a,n,c,b',a',n',c',g1,g2,e⟩
theorem H4 {u:PH}{n:Int}(h1:-9223372036854775807<=n)(h2:n<=9223372036854775807):Ak prog 30 [.int .i64 n] u PH.mt fun v u' m'=>Iq m' u' v ⟨(n:Rat),fun _=>0,fun _=>0⟩ 0:=by
 refine Ak.o func30 ?_;refine G.c call14 (Uk h1 h2) ?_;intro v1 u1 l1 k1;obtain⟨b,a,nn,c,a',n',c',rfl,_⟩:=k1.opn;refine G.mapMk kV ?_;intro g1 hm1 hu1;refine G.mapMk kV ?_;intro g2 hm2 hu2;have hne:g1≠g2:=fun e=>by subst e;rw[Ab]at hm2;cases hm2
 exact G.r (.agg #[.bool b,.slice a nn c,.bool false,.slice a' n' c',.map (some g1),.map (some g2)]) ⟨b,a,nn,c,false,a',n',c',g1,g2,_,_,rfl,k1,hne,rfl,Di.empty,Di.empty⟩
theorem Mi {u:PH}{g2:Option Nat}{o:Obj}{f:Par->Rat}{N:Nat}{a:Par}(h:Di A3 KT u o f N)(hx:QP u x q)(hq:SB q)(hf:SB (f a))(hs:SB (q+f a)) :
 Ak prog 81 [.agg #[.bool y1,.slice y2.1 y2.2.1 y2.2.2,.bool y3,.slice y4.1 y4.2.1 y4.2.2,.map (some g),.map g2],A3 a,x] u (Rp g o) fun v u' m'=>∃ o',m'=Rp g o'/\Di A3 KT u' o' (Hs f a (q+f a)) (N+1):=by
 obtain⟨l,ho,h2,h3,h4⟩:=id h;obtain⟨b,aa,n,c,a',n',c',rfl,_⟩:=hx.opn;refine Ak.o func81 ?_;cases hx':Ft a l with
 |none =>
  have hf0:f a=0:=h3 a (Gp.1 hx');have e0:q+f a=q:=by grind
  rw[e0]at hs⊢;refine G.mapNot (et:=57) Dr fz g o l a kV kV (.inr (Cl _ _)) ho hx' ?_;refine G.mapPut (et:=57) Dr g o l a (.agg #[.bool b,.slice aa n c,.bool false,.slice a' n' c']) kV kV (Cl _ _) ho ?_;intro o' ho';exact G.r (.tuple #[]) ⟨o',Dz _ _ _ _,Di.put ho h2 h3 h4 ho' hx trivial hs.sz⟩
 |some xv =>
  obtain⟨hr,_,_⟩:=h2 _ (Hz hx');obtain⟨b1,a1,n1,c1,a1',n1',c1',rfl,_⟩:=hr.opn;refine G.mapHas (et:=57) Dr fz g o l a (.agg #[.bool b1,.slice a1 n1 c1,.bool false,.slice a1' n1' c1']) kV kV (.inr (Cl _ _)) ho hx' ?_;refine G.c call16 (Mk hx hr (hq.sz.mono oV) (hf.sz.mono oV)) ?_;intro v1 u1 l1 k1;obtain⟨b2,a2,n2,c2,a2',n2',c2',rfl,_⟩:=k1.opn;refine G.mapPut (et:=57) Dr g o l a (.agg #[.bool b2,.slice a2 n2 c2,.bool false,.slice a2' n2' c2']) kV kV (Cl _ _) ho ?_;intro o' ho';exact G.r (.tuple #[]) ⟨o',Dz _ _ _ _,Di.put ho (fun p hp=>⟨(h2 p hp).1.mono l1,(h2 p hp).2⟩) h3 h4 ho' k1 trivial hs.sz⟩
theorem Gv {u:PH}{g1:Option Nat}{o:Obj}{f:Par×Par->Rat}{N:Nat}{p r:Par}(h:Di prV KO u o f N)(hx:QP u x q)(hq:SB q)(hf:SB (f (A5 p r)))(hs:SB (q+f (A5 p r))) :
 Ak prog 82 [.agg #[.bool y1,.slice y2.1 y2.2.1 y2.2.2,.bool y3,.slice y4.1 y4.2.1 y4.2.2,.map g1,.map (some g)],A3 p,A3 r,x] u (Rp g o) fun v u' m'=>∃ o',m'=Rp g o'/\Di prV KO u' o' (Hs f (A5 p r) (q+f (A5 p r))) (N+1):=by
 obtain⟨b,aa,n,c,a',n',c',rfl,_⟩:=hx.opn;refine Ak.o func82 ?_;have ko:=KO.pair p r;by_cases hlt:Bd r p<0
 ·have he:A5 p r=(r,p):=by unfold A5;rw[if_pos ((Fr.sym r p).1 hlt)]
  rw[he]at hf hs ko⊢;refine G.c call86 (Ga r p true (decide_eq_true hlt)) ?_;rintro v0 u0 l0 rfl;obtain⟨l,ho,h2,h3,h4⟩:=h.mono l0;have hx:=hx.mono l0;cases hx':Ft (r,p) l with
  |none =>
   have hf0:f (r,p)=0:=h3 _ (Gp.1 hx');have e0:q+f (r,p)=q:=by grind
   rw[e0]at hs⊢;refine G.buildArr 162 110 r p kV kV kV kV ?_;refine G.mapNot (et:=57) Hi fz g o l (r,p) kV kV (.inr (Cl _ _)) ho hx' ?_;refine G.mapPut (et:=57) Hi g o l (r,p) (.agg #[.bool b,.slice aa n c,.bool false,.slice a' n' c']) kV kV (Cl _ _) ho ?_;intro o' ho';exact G.r (.tuple #[]) ⟨o',Dz _ _ _ _,Di.put ho h2 h3 h4 ho' hx ko hs.sz⟩
  |some xv =>
   obtain⟨hr,_,_⟩:=h2 _ (Hz hx');obtain⟨b1,a1,n1,c1,a1',n1',c1',rfl,_⟩:=hr.opn;refine G.buildArr 162 110 r p kV kV kV kV ?_;refine G.mapHas (et:=57) Hi fz g o l (r,p) (.agg #[.bool b1,.slice a1 n1 c1,.bool false,.slice a1' n1' c1']) kV kV (.inr (Cl _ _)) ho hx' ?_;refine G.c call16 (Mk hx hr (hq.sz.mono oV) (hf.sz.mono oV)) ?_;intro v1 u1 l1 k1;obtain⟨b2,a2,n2,c2,a2',n2',c2',rfl,_⟩:=k1.opn;refine G.mapPut (et:=57) Hi g o l (r,p) (.agg #[.bool b2,.slice a2 n2 c2,.bool false,.slice a2' n2' c2']) kV kV (Cl _ _) ho ?_;intro o' ho';exact G.r (.tuple #[]) ⟨o',Dz _ _ _ _,Di.put ho (fun p hp=>⟨(h2 p hp).1.mono l1,(h2 p hp).2⟩) h3 h4 ho' k1 ko hs.sz⟩
 ·have he:A5 p r=(p,r):=by unfold A5;rw[if_neg (fun e=>hlt ((Fr.sym r p).2 e))]
  rw[he]at hf hs ko⊢;refine G.c call86 (Ga r p false (decide_eq_false hlt)) ?_;rintro v0 u0 l0 rfl;obtain⟨l,ho,h2,h3,h4⟩:=h.mono l0;have hx:=hx.mono l0;cases hx':Ft (p,r) l with
  |none =>
   have hf0:f (p,r)=0:=h3 _ (Gp.1 hx');have e0:q+f (p,r)=q:=by grind
   rw[e0]at hs⊢;refine G.buildArr 162 110 p r kV kV kV kV ?_;refine G.mapNot (et:=57) Hi fz g o l (p,r) kV kV (.inr (Cl _ _)) ho hx' ?_;refine G.mapPut (et:=57) Hi g o l (p,r) (.agg #[.bool b,.slice aa n c,.bool false,.slice a' n' c']) kV kV (Cl _ _) ho ?_;intro o' ho';exact G.r (.tuple #[]) ⟨o',Dz _ _ _ _,Di.put ho h2 h3 h4 ho' hx ko hs.sz⟩
  |some xv =>
   obtain⟨hr,_,_⟩:=h2 _ (Hz hx');obtain⟨b1,a1,n1,c1,a1',n1',c1',rfl,_⟩:=hr.opn;refine G.buildArr 162 110 p r kV kV kV kV ?_;refine G.mapHas (et:=57) Hi fz g o l (p,r) (.agg #[.bool b1,.slice a1 n1 c1,.bool false,.slice a1' n1' c1']) kV kV (.inr (Cl _ _)) ho hx' ?_;refine G.c call16 (Mk hx hr (hq.sz.mono oV) (hf.sz.mono oV)) ?_;intro v1 u1 l1 k1;obtain⟨b2,a2,n2,c2,a2',n2',c2',rfl,_⟩:=k1.opn;refine G.mapPut (et:=57) Hi g o l (p,r) (.agg #[.bool b2,.slice a2 n2 c2,.bool false,.slice a2' n2' c2']) kV kV (Cl _ _) ho ?_;intro o' ho';exact G.r (.tuple #[]) ⟨o',Dz _ _ _ _,Di.put ho (fun p hp=>⟨(h2 p hp).1.mono l1,(h2 p hp).2⟩) h3 h4 ho' k1 ko hs.sz⟩
end
section
variable {i k:Nat}{s:List UInt8}
section rules
variable {P:Program} [A7 P] {fn:Func} {Post:By} {st:List KI×S} {u m:PH}
theorem G.convBU (e:TypeId)(l:List UInt8)(b n c:Nat)(h:Al P (adv P st)=.conv (some (.slice e)) (some .string) (.slice (some ⟨b,0,none⟩) n c))(he:P.underlying e=some (.int .u8))(hn:n=l.length)
 (ha:Eu u b 0 1 (Bc l)) (k:G P fn Post (nx (adv P st) (.string (mkS l))) u m):G P fn Post st u m:=by
 refine G.ask h mV (fun env o hview w hp=>?_) k;obtain⟨s,d,X,e1,e2,e3,e4⟩:=Jn hview;obtain⟨dst,opp,type,pos,after,guard⟩:=o;simp only at e1;subst e1;have hm:=(hp (by simp[Gq,Zf e4 mV])).1;subst hn;have:=run_convert_bytes_back (P:=P) w s d e ⟨b,0,none⟩ c l e3 he e4 (fun j hj=>by
  have h1:=ha j (.int .u8 (l[j].toNat:Int)) (by simp[Bc,hj]);have h2:=(h1 0 (.int .u8 (l[j].toNat:Int)) (by simp[Atw])).cell hm;rw[Dp];simpa using h2)
 simp[execOp,e2,this]
end rules
def Vk (i:Nat):UInt8:=UInt8.ofNat (97+i)
theorem S8 (h:i<26):(Vk i).toNat=97+i:=by
 unfold Vk;rw[UInt8.toNat_ofNat'];omega
theorem O1 {u:PH}{p:List UInt8}(hi:i<26)(hp:p.length<=1000):Fn0 prog 75 [.string (mkS p),.int .i64 (i:Int)] u fun v _=>v=.string (mkS (p++[Vk i])):=by
 refine Fn0.o func75 ?_;refine G.remZ (i:Int) 26 (i:Int) kV oV oV (by rw[Aw0 oV];omega) ?_;refine G.p 97 (i:Int) ((97+i:Nat):Int) ?_;refine G.convI .i64 .u8 .i64 ((97+i:Nat):Int) ((97+i:Nat):Int) kV ?_ ?_
 ·simp only[IntKind.wrap,IntKind.signed,IntKind.bits];simp;omega
 have hb : [Value.int .u8 ((97+i:Nat):Int)]=Bc [Vk i]:=by unfold Bc;rw[Auk,S8 hi];rfl
 refine G.B 5 1 1 (.int .u8 0) [.int .u8 ((97+i:Nat):Int)] (by rw[hb];exact Jg _) ?_;intro g u1 l1 e1;rw[hb]at e1;refine G.convBU 5 [Vk i] g 1 1 kV kV rfl e1 ?_;refine G.addS p [Vk i] kV gV ?_;exact G.r _ ⟨rfl,rfl⟩
def Adx:List UInt8:=[114,101,100]
def Oa:List UInt8:=[103,114,101,101,110]
def Sj:List UInt8:=[98,108,117,101]
def Acg (s:List UInt8):Bool:=Hl s&&(s==Adx||s==Oa||s==Sj)
theorem Aqs (h:Acg s=true):Hl s=true:=by
 unfold Acg at h;rw[Atj]at h;exact h.1
theorem Aot (h:Acg s=true):s=Adx\/s=Oa\/s=Sj:=by
 unfold Acg at h;simp only[Atj,Av7,beq_iff_eq]at h;rcases h.2 with (h|h)|h
 ·exact .inl h
 ·exact .inr (.inl h)
 ·exact .inr (.inr h)
def Rg (k:Nat)(s:List UInt8):Prop:=s = []\/(k=3/\Hl s=true)\/(k=1/\∃ z:Int,z.natAbs<=1000000000/\s=Atn z)\/(k=2/\∃ q,SmW q/\s=Ap q)
def Vt (k:Nat)(s:List UInt8):Prop:=s = []\/(k=3/\Acg s=true)\/(k=1/\∃ z:Int,z.natAbs<=1000000000/\s=Atn z)\/(k=2/\∃ q,SmR q/\s=Ap q)
theorem Vt.ok (h:Vt k s):Rg k s:=h.imp id (Or.imp (fun⟨e,h⟩=>⟨e,Aqs h⟩) (Or.imp id fun⟨e,q,h1,h2⟩=>⟨e,q,h1.w,h2⟩))
theorem Fm {q:Rat}(h:Ap q=s)(hq:SmR q):Vt 2 s:=.inr (.inr (.inr ⟨rfl,q,hq,h.symm⟩))
theorem Ql {z:Int}(h:Atn z=s)(hz:z.natAbs<=1000000000):Vt 1 s:=.inr (.inr (.inl ⟨rfl,z,hz,h.symm⟩))
theorem Aiv {u:PH}{s:Src}{ts:List Int}{x:List UInt8×Nat}(h:Li u s ts)(hk:k<=s.n)(h1:1<=x.2)(h3:x.2<=3) :
 Ak prog 77 [s.ptr,Ej x] u (s.M k) fun v _ m'=>∃ (t:List UInt8) (k':Nat),v=.string (mkS t)/\Vt x.2 t/\k'<=s.n/\m'=s.M k':=by
 obtain⟨nm,kd⟩:=x;simp only at h1 h3⊢;refine Ak.o func77 ?_;refine G.A call26 (Ka (n:=9) h hk oV oV) ?_;rintro v1 u1 m1 l1 ⟨r,k1,rfl,hr,hk1,rfl⟩ _;rw[C6];by_cases h8:r=8
 ·refine G.eT (r:Int) 8 ?_;exact G.r (.string (mkS [])) ⟨[],k1,rfl,.inl rfl,hk1,rfl⟩
 refine G.eF (r:Int) 8 ?_;by_cases hk3:kd=3
 ·subst hk3;refine G.eT ((3:Nat):Int) 3 ?_;refine G.B 9 1 16 (.string (mkS [])) [.string (mkS Adx),.string (mkS Oa),.string (mkS Sj)] (Kz [Adx,Oa,Sj]) ?_;intro g u2 l2 e2;obtain⟨i,hi⟩:∃ i,i=r%3:=⟨_,rfl⟩;have hi3:i<3:=oV
  refine G.remZ (r:Int) 3 (i:Int) kV oV oV (by rw[Aw0 oV];omega) ?_;refine G.a g 0 3 3 i 1 hi3 ?_;obtain⟨t,ht,hw⟩:∃ t,ElP u2 g (0+i*1) (.string (mkS t))/\Acg t=true:=by
   rcases (by omega:i=0\/i=1\/i=2) with h|h|h
   ·rw[h];exact⟨Adx,e2 0 _ rfl,jV⟩
   ·rw[h];exact⟨Oa,e2 1 _ rfl,jV⟩
   ·rw[h];exact⟨Sj,e2 2 _ rfl,jV⟩
  refine G.lU none g (0+i*1) (.string (mkS t)) ht ?_;exact G.r (.string (mkS t)) ⟨t,k1,rfl,.inr (.inl ⟨rfl,hw⟩),hk1,rfl⟩
 refine G.eF (kd:Int) 3 ?_;by_cases hk2:kd=1
 ·subst hk2;refine G.eT ((1:Nat):Int) 1 ?_;refine G.B 9 1 16 (.string (mkS [])) [.string (mkS [49]),.string (mkS [50]),.string (mkS [49,48])] (Kz [[49],[50],[49,48]]) ?_;intro g u2 l2 e2;obtain⟨i,hi⟩:∃ i,i=r%3:=⟨_,rfl⟩;have hi3:i<3:=oV
  refine G.remZ (r:Int) 3 (i:Int) kV oV oV (by rw[Aw0 oV];omega) ?_;refine G.a g 0 3 3 i 1 hi3 ?_;obtain⟨t,ht,hw⟩:∃ t,ElP u2 g (0+i*1) (.string (mkS t))/\Vt 1 t:=by
   rcases (by omega:i=0\/i=1\/i=2) with h|h|h
   ·rw[h];exact⟨[49],e2 0 _ rfl,Ql (z:=1) jV fV⟩
   ·rw[h];exact⟨[50],e2 1 _ rfl,Ql (z:=2) jV fV⟩
   ·rw[h];exact⟨[49,48],e2 2 _ rfl,Ql (z:=10) jV fV⟩
  refine G.lU none g (0+i*1) (.string (mkS t)) ht ?_;exact G.r (.string (mkS t)) ⟨t,k1,rfl,hw,hk1,rfl⟩
 refine G.eF (kd:Int) 1 ?_;obtain rfl:kd=2:=oV
 refine G.B 9 1 16 (.string (mkS [])) [.string (mkS [48]),.string (mkS [49]),.string (mkS [45,50]),.string (mkS [49,47,50]),.string (mkS [51]),.string (mkS [53,47,51]),.string (mkS [49]),.string (mkS [50])] (Kz [[48],[49],[45,50],[49,47,50],[51],[53,47,51],[49],[50]]) ?_;intro g u2 l2 e2;refine G.a g 0 8 8 r 1 oV ?_;obtain⟨t,ht,hw⟩:∃ t,ElP u2 g (0+r*1) (.string (mkS t))/\Vt 2 t:=by
  rcases (by omega:r=0\/r=1\/r=2\/r=3\/r=4\/r=5\/r=6\/r=7) with h|h|h|h|h|h|h|h
  ·rw[h];exact⟨_,e2 0 _ rfl,Fm (q:=0) jV ⟨jV,jV⟩⟩
  ·rw[h];exact⟨_,e2 1 _ rfl,Fm (q:=1) jV ⟨jV,jV⟩⟩
  ·rw[h];exact⟨_,e2 2 _ rfl,Fm (q:=-2) jV ⟨jV,jV⟩⟩
  ·rw[h];exact⟨_,e2 3 _ rfl,Fm (q:=1/2) jV ⟨jV,jV⟩⟩
  ·rw[h];exact⟨_,e2 4 _ rfl,Fm (q:=3) jV ⟨jV,jV⟩⟩
  ·rw[h];exact⟨_,e2 5 _ rfl,Fm (q:=5/3) jV ⟨jV,jV⟩⟩
  ·rw[h];exact⟨_,e2 6 _ rfl,Fm (q:=1) jV ⟨jV,jV⟩⟩
  ·rw[h];exact⟨_,e2 7 _ rfl,Fm (q:=2) jV ⟨jV,jV⟩⟩
 refine G.lU none g (0+r*1) (.string (mkS t)) ht ?_;exact G.r (.string (mkS t)) ⟨t,k1,rfl,hw,hk1,rfl⟩
end
end Go.Proofs.YtnafchoihfnkeaaGreatDoor
