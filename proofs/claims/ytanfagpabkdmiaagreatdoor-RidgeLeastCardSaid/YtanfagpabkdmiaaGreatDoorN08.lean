/- Parts of one proof, joined by a program. -/
import Derived.Test.YtanfagpabkdmiaaGreatDoorN07
import Derived.RangeFuncSeq
import Derived.RangeFuncGives
import Derived.RangeFuncIn
import Derived.OrdersIn
import Derived.OwnWalkIn
set_option linter.unusedVariables false
set_option linter.unusedSimpArgs false
set_option linter.unusedSectionVars false
set_option maxHeartbeats 16000000
namespace Go.Proofs.YtanfagpabkdmiaaGreatDoor
open Go.Proofs.Tryz
open Go.RowKit Go.MapKept
open _root_.Array renaming eq_empty_of_size_eq_zero -> A47, ext' -> A4i, getD_eq_getD_getElem? -> A1f, getElem?_eq_getElem -> A2g, getElem?_setIfInBounds_ne -> A2l, getElem?_setIfInBounds_self_of_lt -> A4b
open Bool renaming and_eq_true -> A05, false_eq_true -> A3c, not_eq_true' -> A21, or_eq_true -> A3o
open Instr renaming yield -> Bcx
open Int renaming lt_or_le -> A5n, tmod_eq_emod_of_nonneg -> A4c
open Lib renaming itoa -> A1a
open List renaming Perm.cons -> A42, Sublist.append_left -> A36, all_eq_true -> A08, append_assoc -> A1j, append_nil -> A1i, cons.inj -> A8w, filter_cons -> A40, getD_eq_getElem?_getD -> A0o, getElem?_append_left -> A1d, getElem?_append_right -> A1s, getElem?_eq_getElem -> A0n, getElem?_eq_none -> A1g, getElem?_eq_some_iff -> A0s, getElem?_map -> A0v, getElem?_set -> A25, getElem_mem -> A04, getElem_of_mem -> A19, length_append -> A0z, length_map -> A0p, length_singleton -> A2o, length_take -> A00, map_append -> A07, map_set -> A27, mem_append -> A01, mem_cons -> A02, mem_map -> A0u, mem_singleton -> A1t, nodup_append -> A3w, nodup_cons -> A3p, not_mem_nil -> A14, pairwise_append -> A3a, pairwise_singleton -> A7c, range -> A1q, range_succ -> A6y, rel_of_pairwise_cons -> A2h, set_cons_succ -> A2c, set_cons_zero -> A2k, sublist_cons_self -> A4d, take_add_one -> A1c, take_length -> A1k
open Nat renaming beq -> A17, blt -> A8g, blt_eq -> A68, eq_of_beq_eq_true -> A1h, le_refl -> A0w, le_trans -> A0q, lt_or_ge -> A11, sub_self -> A45, zero_le -> A1m
open Option renaming getD_some -> A2y, some.inj -> A2d, some.injEq -> A0t
open Prod renaming mk.injEq -> A1r
open Value renaming bool -> A6a, cells -> A1e, int -> A15, slice -> A06
section
variable {L:List Bool}{b c n:Nat}{m m0 u:PH}
theorem Aks (hn:n=L.length)(hl:n<=1000000)(hE:∀ (j:Nat) s,L[j]?=some s->ElP m b (0+j*1) (.bool s))(hx:∀ s∈L,s=true) :
 FnK prog 303 [.slice (some ⟨b,0,none⟩) n c,.bool false] u m fun v _=>v=.int .i64 (-1):=by
 refine FnK.of func303 kV kV ?_;refine G.l (ι:=Nat) (fun i=>[(0,sV (some ⟨b,0,none⟩) n c),(1,bV false),(7,iV n),(8,iV i)]) (fun _=>[])
  (fun i u' m'=>i<=n/\m'=m) (fun i=>n-i) 0 ⟨oV,rfl⟩ ?_
 rintro J i hJ u1 m1 l1 ⟨hi,rfl⟩;by_cases hlt:i<n
 ·refine G.lT (i:Int) (n:Int) ?_;have hTi:L[i]?=some true:=by
   rw[A0n oV];exact congrArg some (hx _ (A04 oV))
  refine G.a b 0 n c i 1 hlt ?_;refine G.lM none b (0+i*1) (.bool true) (hE i _ hTi) ?_;refine G.eqB false true kV ?_;refine G.i i ?_;exact G.b (hJ (i+1) _ _ _ cV l1 ⟨oV,rfl⟩ oV)
 ·obtain rfl:i=n:=oV
  refine G.lF (i:Int) (i:Int) ?_;exact G.r (.int .i64 (-1)) ⟨rfl,rfl⟩
theorem Acg (hn:n=L.length)(hl:n<=1000000)(hE:∀ (j:Nat) s,L[j]?=some s->ElP m b (0+j*1) (.bool s))(hx:∀ s∈L,s=true) :
 FnK prog 255 [.slice (some ⟨b,0,none⟩) n c,.bool false] u m fun v _=>v=.bool false:=by
 refine FnK.of func255 kV kV ?_;refine G.callK _ _ kV call303 (Aks (c:=c) (L:=L) hn hl hE hx) ?_;rintro v1 u1 l1 rfl;refine G.hF (-1) 0 ?_;exact G.r (.bool false) ⟨rfl,rfl⟩
abbrev Bk:Type:=List UInt8×List Nat×(Option Addr×Nat)
def Gb (r:Bk):Value:=.agg #[.string (mkS r.1),.slice r.2.2.1 r.2.1.length r.2.2.2]
structure Mh (u:PH)(n:Nat)(R:List Bk):Prop where
 names:Oh (R.map (·.1))
 ne:∀ r∈R,r.2.1≠[]
 lt:∀ r∈R,∀ a∈r.2.1,a<n
 len:∀ r∈R,r.2.1.length<=1000
 asc:∀ r∈R,∀ (k:Nat) x y,r.2.1[k]?=some x->r.2.1[k+1]?=some y->x<y
 all:∀ a<n,∃ r∈R,a∈r.2.1
 at':∀ r∈R,Ab u (.slice r.2.2.1 r.2.1.length r.2.2.2) 1 (Ag r.2.1)
def Aja (g n:Nat)(L:List Bool):Arr:=⟨.slice (some ⟨g,0,none⟩) n n,4,1,L.map .bool⟩
def Acm (a:Option Addr)(c:Nat)(L:List (List UInt8)):Arr:=⟨.slice a L.length c,9,1,L.map nmV⟩
theorem Adh {g n:Nat}:(Aja g n L).At m0 m=Ae m0 m (.slice (some ⟨g,0,none⟩) n n) 4 1 (L.map .bool):=rfl
theorem Aeg {a:Option Addr}{L:List (List UInt8)}:(Acm a c L).At m0 m=Ae m0 m (.slice a L.length c) 9 1 (L.map nmV):=rfl
theorem Ow (L:List Bool)(a:Nat):(L.map A6a).set a (.bool true)=(L.set a true).map A6a:=by rw[A27]
theorem Abp {w x y:Value}{a0:Option Addr}{n c0:Nat}{R:List Bk}(hR:Ab u w 2 (R.map Gb))(ok:Mh u n R)(hn:n<=1000)(hn0:0<n)(hl:R.length<=1000)(hx:∃ a n c,x=.slice a n c)(hy:∃ z:Int,y=.int .i64 z) :
 Fn0 prog 203 [.agg #[.slice a0 n c0,w,x,y]] u fun r _=>r=.int .i64 0:=by
 obtain⟨a,c,rfl⟩:=hR.opn;obtain⟨xa,xn,xc,rfl⟩:=hx;obtain⟨z,rfl⟩:=hy;rw[A0p]at hR⊢;refine Fn0.o func203 ?_;refine G.make 4 1 1 (.bool false) n kV rfl rfl oV oV oV ?_;rintro v1 m1 hA1 ⟨ad,rfl⟩;obtain⟨g,rfl,_⟩:=hA1.some';refine G.l (ι:=Nat×List Bool×List (List UInt8)×(Option Addr×Nat)) (fun i=>[(3,sV i.2.2.2.1 i.2.2.1.length i.2.2.2.2),(4,sV (some ⟨g,0,none⟩) n n),(16,sV a R.length c),(17,iV R.length),(18,iV i.1)]) (fun _=>[])
  (fun i u' m'=>i.1<=R.length/\i.2.1.length=n/\i.2.2.1=(R.map (·.1)).take i.1/\(∀ r∈R.take i.1,∀ q∈r.2.1,i.2.1[q]?=some true)/\Bag m' [Aja g n i.2.1,Acm i.2.2.2.1 i.2.2.2.2 i.2.2.1]) (fun i=>R.length-i.1) (0,List.replicate n false,[],(none,0))
  ⟨mV,mV,mV,mV,⟨PH.mt,by rw[Adh,List.map_replicate];exact hA1,PH.mt,Ae.nil _ _ _,trivial⟩⟩ ?_
 rintro J ⟨i,L,N,⟨na,nc⟩⟩ hJ u2 m2 l2 ⟨hi,hL,hN,hall,hbag⟩;simp only at hi hL hN hall hbag hJ;by_cases hlt:i<R.length
 ·refine G.lT (i:Int) (R.length:Int) ?_;have hTi:R[i]?=some R[i]:=A0n hlt;have hmem:R[i]∈R:=A04 hlt;have htk:(R.map (·.1)).take (i+1)=N++[R[i].1]:=by
   rw[A1c,A0v,hTi,hN];rfl
  have htk2:R.take (i+1)=R.take i++[R[i]]:=by
   rw[A1c,hTi];rfl
  have hnames:=ok.names.take (i+1);rw[htk]at hnames;have hlen:N.length=i:=by rw[hN];simp;omega
  obtain⟨ba,oa,rfl,ea⟩:=Ab.at' (hR.mono l2) (j:=i) (e:=Gb R[i]) (by simp[hTi]);generalize R[i]=q at ea hmem htk htk2 hnames;obtain⟨qs,ql,qa,qc⟩:=q;have hne:ql≠[]:=ok.ne _ hmem;have hlq:∀ p∈ql,p<n:=ok.lt _ hmem;have hql:ql.length<=1000:=ok.len _ hmem;have hasc:∀ (k:Nat) x y,ql[k]?=some x->ql[k+1]?=some y->x<y:=ok.asc _ hmem;have hqat:Ab u2 (.slice qa ql.length qc) 1 (Ag ql):=(ok.at' _ hmem).mono l2;have hq0:0<ql.length:=List.length_pos_iff.2 hne;simp only at htk hnames;refine G.a ba oa R.length c i 2 hlt ?_;refine G.lU (some 2) ba (oa+i*2) (.agg #[.string (mkS qs),.slice qa ql.length qc]) ea ?_;refine G.B 9 1 16 (.string (mkS [])) [.string (mkS qs)] (G4 [qs]) ?_;intro g3 u3 l3 e3;obtain⟨mm,hx0,hput⟩:=hbag.focus 1 rfl;rw[Aeg]at hx0;refine G.k 9 1 16 (.string (mkS [])) mm (N.map nmV) [.string (mkS qs)] (.slice na N.length nc) g3 0 1 1 hx0 e3 (G4 [qs]) ?_;intro v4 m4 hA4;rw[show N.map nmV++[.string (mkS qs)]=(N++[qs]).map nmV by rw[A07];rfl]at hA4;obtain⟨b4,c4,rfl⟩:=hA4.ptr mV;have hcap:=hA4.cap;rw[A0p]at hA4 hcap⊢;have hbag4:=hput (Acm (some ⟨b4,0,none⟩) c4 (N++[qs])) m4 hA4;simp only[A2c,A2k]at hbag4;refine G.callK _ _ kV call254 (Ah3 (b:=b4) (k:=i) (c:=c4) (x:=qs) (L:=N++[qs]) hnames gV hcap (by rw[<-hlen];exact getElem?_snoc_last N qs) fun j s hs=>hA4.el (by rw[A0v,hs];rfl)) ?_;rintro v5 u5 l5 rfl;refine G.nF 0 0 ?_;refine G.eF (ql.length:Int) 0 ?_;generalize N++[qs]=N' at hbag4 htk;clear hA4 hput hx0 hbag hcap hnames;have hlt':∀ p∈ql,p<n:=hlq;refine G.l (ι:=Nat×List Bool) (fun j=>[(3,sV (some ⟨b4,0,none⟩) N'.length c4),(4,sV (some ⟨g,0,none⟩) n n),(6,.p 5003 0),(16,sV (some ⟨ba,oa,none⟩) R.length c),(17,iV R.length),(18,iV i),(39,sV qa ql.length qc),(40,iV ql.length),(41,iV j.1)])
   (fun _=>[(5003,⟨94,[tV qs,sV qa ql.length qc]⟩)])
   (fun j u' m'=>j.1<=ql.length/\j.2.length=n/\(∀ r∈R.take i,∀ q∈r.2.1,j.2[q]?=some true)/\(∀ q∈ql.take j.1,j.2[q]?=some true)/\Bag m' [Aja g n j.2,Acm (some ⟨b4,0,none⟩) c4 N']) (fun j=>ql.length-j.1) (0,L)
   ⟨mV,hL,hall,mV,hbag4⟩ ?_
  rintro J2 ⟨j,L2⟩ hJ2 u6 m6 l6 ⟨hj,hL2,hall2,hrow2,hbag6⟩;simp only at hj hL2 hall2 hrow2 hbag6 hJ2;have hqat6:=hqat.mono ((l3.trans l5).trans l6);by_cases hltj:j<ql.length
  ·refine G.lT (j:Int) (ql.length:Int) ?_;have hqj:ql[j]?=some ql[j]:=A0n hltj;have hpn:ql[j]<n:=hlq _ (A04 hltj);have htkj:ql.take (j+1)=ql.take j++[ql[j]]:=by rw[A1c,hqj];rfl
   obtain⟨bq,oq,rfl,eq⟩:=Ab.at' hqat6 (j:=j) (e:=.int .i64 (ql[j]:Int)) (by simp[Ag,hqj]);generalize ql[j]=p at eq hpn htkj;refine G.a bq oq ql.length qc j 1 hltj ?_;refine G.lU none bq (oq+j*1) (.int .i64 (p:Int)) eq ?_;refine G.lF (p:Int) 0 ?_;refine G.hF (p:Int) (n:Int) ?_;refine G.a g 0 n n p 1 hpn ?_;obtain⟨mm2,hx2,hput2⟩:=hbag6.focus 0 rfl;rw[Adh]at hx2;refine G.storeA 1 mm2 (L2.map A6a) g n n p (.bool true) kV hx2 (by rw[A0p];omega) rfl rfl ?_;intro m7 hA7;rw[Ow]at hA7;have hbag7:=hput2 (Aja g n (L2.set p true)) m7 hA7;simp only[A2k]at hbag7;refine G.i j ?_;have hkeep:∀ q,L2[q]?=some true->(L2.set p true)[q]?=some true:=fun q hq=>by
    rw[A25];split
    ·subst_vars;rw[if_pos oV]
    ·exact hq
   exact G.b (hJ2 (j+1,L2.set p true) _ _ _ cV l6 ⟨dV,by simp[hL2],fun r hr q hq=>hkeep q (hall2 r hr q hq),by
    intro q hq;dsimp only at hq⊢;rw[htkj,A01,A1t]at hq;rcases hq with hq|rfl
    ·exact hkeep q (hrow2 q hq)
    ·rw[A25];simp;omega,hbag7⟩ dV)
  ·obtain rfl:j=ql.length:=oV
   refine G.lF (ql.length:Int) (ql.length:Int) ?_;rw[A1k]at hrow2;refine G.l (ι:=Nat) (fun k=>[(3,sV (some ⟨b4,0,none⟩) N'.length c4),(4,sV (some ⟨g,0,none⟩) n n),(6,.p 5003 0),(10,iV (k+1:Nat)),(16,sV (some ⟨ba,oa,none⟩) R.length c),(17,iV R.length),(18,iV i)])
    (fun _=>[(5003,⟨94,[tV qs,sV qa ql.length qc]⟩)])
    (fun k u' m'=>k+1<=ql.length/\m'=m6) (fun k=>ql.length-k) 0
    ⟨oV,rfl⟩ ?_
   rintro J3 k hJ3 u8 m8 l8 ⟨hk,rfl⟩;have hqat8:=hqat6.mono l8;by_cases hltk:k+1<ql.length
   ·refine G.lT ((k+1:Nat):Int) (ql.length:Int) ?_;have hq1:ql[k]?=some ql[k]:=A0n oV;have hq2:ql[k+1]?=some ql[k+1]:=A0n hltk;have hlt3:=hasc k _ _ hq1 hq2;obtain⟨bq,oq,rfl,eq2⟩:=Ab.at' hqat8 (j:=k+1) (e:=.int .i64 (ql[k+1]:Int)) (by simp[Ag,hq2]);obtain⟨_,_,e',eq1⟩:=Ab.at' hqat8 (j:=k) (e:=.int .i64 (ql[k]:Int)) (by simp[Ag,hq1]);cases e';generalize ql[k]=p1 at eq1 hlt3;generalize ql[k+1]=p2 at eq2 hlt3;refine G.a bq oq ql.length qc (k+1) 1 hltk ?_;refine G.lU none bq (oq+(k+1)*1) (.int .i64 (p2:Int)) eq2 ?_;refine G.s ((k+1:Nat):Int) 1 (k:Int) ?_;refine G.a bq oq ql.length qc k 1 oV ?_;refine G.lU none bq (oq+k*1) (.int .i64 (p1:Int)) eq1 ?_;refine G.kF (p2:Int) (p1:Int) ?_;refine G.p ((k+1:Nat):Int) 1 ((k+1+1:Nat):Int) ?_;exact G.b (hJ3 (k+1) _ _ _ cV l8 ⟨oV,rfl⟩ oV)
   ·refine G.lF ((k+1:Nat):Int) (ql.length:Int) ?_;refine G.i i ?_;exact G.b (hJ (i+1,L2,N',(some ⟨b4,0,none⟩,c4)) _ _ _ cV ((((l2.trans l3).trans l5).trans l6).trans l8) ⟨dV,hL2,htk.symm,by
     intro r hr q hq;dsimp only at hr hq⊢;rw[htk2,A01,A1t]at hr;rcases hr with hr|rfl
     ·exact hall2 r hr q hq
     ·exact hrow2 q hq,hbag6⟩ dV)
 ·obtain rfl:i=R.length:=oV
  refine G.lF (R.length:Int) (R.length:Int) ?_;rw[A1k]at hall;refine G.callK _ _ kV call255 (Acg (b:=g) (c:=n) (L:=L) hL.symm oV (fun j s hs=>hbag.el 0 rfl (x:=Aja g n L) rfl (by show (L.map A6a)[j]?=_;rw[A0v,hs];rfl)) fun s hs=>by
   obtain⟨j,hj,rfl⟩:=A19 hs;obtain⟨r,hr,hq⟩:=ok.all j oV;have:=hall r hr j hq;rw[A0n hj]at this;exact A2d this) ?_
  rintro v3 u3 l3 rfl;refine G.drop PH.mt kV (PH.mt_le _) ?_;exact G.r (.int .i64 0) ⟨rfl,rfl⟩
end
section
structure Bn (u:PH)(T:List (List UInt8×Nat))(R:List Bk)(F:List Ao)(lab:Int):Prop where
 att:Ah7 T
 rel:Mh u T.length R
 feat:Dk T F lab
 t1:0<T.length
 t2:T.length<=12
 r1:0<R.length
 r2:R.length<=6
 f2:F.length<=8
 l1:-1<=lab
 l2:∀ l:Nat,lab=(l:Int)->∃ n,T[l]?=some (n,2)
theorem Mh.mono {u u':PH}{n:Nat}{R:List Bk}(h:Mh u n R)(hl:PH.le u u'):Mh u' n R:=⟨h.names,h.ne,h.lt,h.len,h.asc,h.all,fun r hr=>(h.at' r hr).mono hl⟩
theorem Bn.mono {u u':PH}{T:List (List UInt8×Nat)}{R:List Bk}{F:List Ao}{lab:Int}(h:Bn u T R F lab)(hl:PH.le u u'):Bn u' T R F lab:=⟨h.att,h.rel.mono hl,h.feat,h.t1,h.t2,h.r1,h.r2,h.f2,h.l1,h.l2⟩
def F1 (u:PH)(v:Value)(T:List (List UInt8×Nat))(R:List Bk)(F:List Ao)(lab:Int):Prop :=
 ∃ a c b d e f,v=.agg #[.slice a T.length c,.slice b R.length d,.slice e F.length f,.int .i64 lab]/\Ab u (.slice a T.length c) 2 (T.map D0)/\Ab u (.slice b R.length d) 2 (R.map Gb)/\Ab u (.slice e F.length f) 3 (F.map B6)
theorem F1.mono {u u':PH}{v:Value}{T:List (List UInt8×Nat)}{R:List Bk}{F:List Ao}{lab:Int}(h:F1 u v T R F lab)(hl:PH.le u u'):F1 u' v T R F lab:=by
 obtain⟨a,c,b,d,e,f,hv,h1,h2,h3⟩:=h;exact⟨a,c,b,d,e,f,hv,h1.mono hl,h2.mono hl,h3.mono hl⟩
theorem Abk {u:PH}{v:Value}{T:List (List UInt8×Nat)}{R:List Bk}{F:List Ao}{lab:Int}(h:F1 u v T R F lab)(ok:Bn u T R F lab) :
 Fn0 prog 129 [v] u fun r _=>r=.int .i64 0:=by
 obtain⟨a,c,b,d,e,f,rfl,hT,hR,hF⟩:=h;have t1:=ok.t1;have t2:=ok.t2;have r1:=ok.r1;have r2:=ok.r2;have f2:=ok.f2;have lo:=ok.l1;have hi:lab<T.length:=by
  rcases A5n lab 0 with hlt|hge
  ·omega
  ·obtain⟨n,hn⟩:=ok.l2 lab.toNat oV;obtain⟨hk,_⟩:=A0s.1 hn;omega
 refine Fn0.o func129 ?_;refine G.eF (T.length:Int) 0 ?_;refine G.gF (T.length:Int) 12 ?_;refine G.eF (R.length:Int) 0 ?_;refine G.gF (R.length:Int) 6 ?_;refine G.gF (F.length:Int) 8 ?_;refine G.buildU 132 1 8 (.nilFunc) [.func (.func 202) #[] #[],.func (.func 203) #[] #[],.func (.func 204) #[] #[]] kV (fun x hx=>by
  simp only[A02,A14,or_false]at hx;rcases hx with rfl|rfl|rfl<;>exact⟨rfl,A08.1 rfl⟩) rfl oV mV mV ?_
 intro g u1 l1 e1;refine G.l (ι:=Nat) (fun i=>[(1,.p 0 0),(34,sV (some ⟨g,0,none⟩) 3 3),(35,iV (3:Nat)),(36,iV i)])
  (fun _=>[(0,⟨31,[sV a T.length c,sV b R.length d,sV e F.length f,iV lab]⟩)])
  (fun i u' m'=>i<=3/\m'=PH.mt) (fun i=>3-i) 0 ⟨oV,rfl⟩ ?_
 rintro J i hJ u2 m2 l2 ⟨hi3,rfl⟩;have le2:=l1.trans l2;have e2:=e1.mono l2;by_cases hlt:i<3
 ·refine G.lT (i:Int) ((3:Nat):Int) ?_;refine G.a g 0 3 3 i 1 hlt ?_;rcases (by omega:i=0\/i=1\/i=2) with rfl|rfl|rfl
  ·refine G.lU none g (0+0*1) (.func (.func 202) #[] #[]) (e2 0 _ rfl) ?_;refine G.c call202 (X7 (w:=.slice b R.length d) (x:=.slice e F.length f) (y:=.int .i64 lab) (hT.mono le2) ok.att oV ⟨_,_,_,rfl⟩ ⟨_,_,_,rfl⟩ ⟨_,rfl⟩) ?_;rintro v3 u3 l3 rfl;refine G.nF 0 0 ?_;refine G.p ((0:Nat):Int) 1 ((0+1:Nat):Int) ?_;exact G.b (hJ (0+1) _ _ _ cV (l2.trans l3) ⟨oV,rfl⟩ oV)
  ·refine G.lU none g (0+1*1) (.func (.func 203) #[] #[]) (e2 1 _ rfl) ?_;refine G.c call203 (Abp (a0:=a) (c0:=c) (x:=.slice e F.length f) (y:=.int .i64 lab) (hR.mono le2) (ok.rel.mono le2) oV oV oV ⟨_,_,_,rfl⟩ ⟨_,rfl⟩) ?_;rintro v3 u3 l3 rfl;refine G.nF 0 0 ?_;refine G.p ((1:Nat):Int) 1 ((1+1:Nat):Int) ?_;exact G.b (hJ (1+1) _ _ _ cV (l2.trans l3) ⟨oV,rfl⟩ oV)
  ·refine G.lU none g (0+2*1) (.func (.func 204) #[] #[]) (e2 2 _ rfl) ?_;refine G.c call204 (Afk (w:=.slice b R.length d) (hT.mono le2) (hF.mono le2) ok.feat oV oV ⟨_,_,_,rfl⟩) ?_;rintro v3 u3 l3 rfl;refine G.nF 0 0 ?_;refine G.p ((2:Nat):Int) 1 ((2+1:Nat):Int) ?_;exact G.b (hJ (2+1) _ _ _ cV (l2.trans l3) ⟨oV,rfl⟩ oV)
 ·obtain rfl:i=3:=oV
  refine G.lF ((3:Nat):Int) ((3:Nat):Int) ?_;refine G.lF lab (-1) ?_;refine G.hF lab (T.length:Int) ?_;rcases A5n lab 0 with hneg|hge
  ·refine G.hF lab 0 ?_;exact G.r (.int .i64 0) ⟨rfl,rfl⟩
  ·refine G.hT lab 0 ?_;obtain⟨l,rfl⟩:∃ l:Nat,lab=(l:Int):=⟨lab.toNat,oV⟩;obtain⟨n,hn⟩:=ok.l2 l rfl;obtain⟨bb,ob,rfl,eb⟩:=Ab.at' (hT.mono le2) (j:=l) (e:=D0 (n,2)) (by simp[hn]);refine G.a bb ob T.length c l 2 oV ?_;refine G.f 92 bb (ob+l*2) 1 1 ?_;refine G.lU none bb (ob+l*2+1) (.int .i64 ((2:Nat):Int)) (I6 eb) ?_;refine G.nF ((2:Nat):Int) 2 ?_;exact G.r (.int .i64 0) ⟨rfl,rfl⟩
end
section
variable {n:Nat}{v:Value}{z:Int}
theorem A0c (n:Nat):(Aa n).getD 0 0=n%1000000000:=by
 by_cases h:n=0
 ·subst h;rw[Bd];rfl
 ·rw[Ex h];rfl
theorem A0d (n:Nat):(Aa n).getD 1 0=n/1000000000%1000000000:=by
 by_cases h:n=0
 ·subst h;rw[Bd];rfl
 ·rw[Ex h];show (Aa (n/1000000000)).getD 0 0=_;rw[A0c]
theorem Av9 (h:n<1000000000000000000):(Aa n).length<=2:=by
 by_cases h0:n=0
 ·subst h0;rw[Bd];simp
 ·rw[Ex h0];by_cases h1:n/1000000000=0
  ·rw[h1,Bd];simp
  ·rw[Ex h1,show n/1000000000/1000000000=0 by omega,Bd];simp
theorem Ato (h1:0<=z)(h2:z<18446744073709551616):IntKind.u64.wrap z=z:=by
 simp only[IntKind.wrap,IntKind.signed,IntKind.bits];simp;omega
section rules
variable {P:Program} [Ba P] {fn:Func} {Post:B0} {st:List KI×S} {u m:PH}
theorem G.mul64 (x y z:Int)(h:Al P (adv P st)=.bin .mul (.int .u64 x) (.int .u64 y))(hz:x*y=z)(h1:0<=z)(h2:z<18446744073709551616)
 (k:G P fn Post (nx (adv P st) (.int .u64 z)) u m):G P fn Post st u m :=
 G.bin _ h Cy (fun t w=>by simp[binOp,Op.intArith,hz,Ato h1 h2]) k
theorem G.add64 (x y z:Int)(h:Al P (adv P st)=.bin .add (.int .u64 x) (.int .u64 y))(hz:x+y=z)(h1:0<=z)(h2:z<18446744073709551616)
 (k:G P fn Post (nx (adv P st) (.int .u64 z)) u m):G P fn Post st u m :=
 G.bin _ h Cy (fun t w=>by simp[binOp,Op.intArith,hz,Ato h1 h2]) k
end rules
theorem Atu {u:PH}(h:Cm u v n)(hn:n<1000000000000000000)(i:Nat):Fn0 prog 267 [v,.int .i64 (i:Int)] u fun r _=>r=.int .u64 (((Aa n).getD i 0:Nat):Int):=by
 have hl:=Av9 hn;obtain⟨a,c,rfl,_⟩:=id h;refine Fn0.o func267 ?_;by_cases hlt:i<(Aa n).length
 ·refine G.lT (i:Int) ((Aa n).length:Int) ?_;obtain⟨b,off,rfl,e⟩:=h.at hlt;refine G.a b off (Aa n).length c i 1 hlt ?_;refine G.lU none b (off+i*1) _ e ?_;exact G.r _ ⟨rfl,rfl⟩
 ·refine G.lF (i:Int) ((Aa n).length:Int) ?_;rw[Hh hlt];exact G.r (.int .u64 0) ⟨rfl,rfl⟩
theorem Awu {u:PH}(h:Cm u v n)(hn:n<1000000000000000000):Fn0 prog 291 [v] u fun r _=>r=.int .u64 (n:Int):=by
 obtain⟨a,c,rfl,_⟩:=id h;refine Fn0.o func291 ?_;refine G.c call267 (Atu h hn 1) ?_;rintro v1 u1 l1 rfl;rw[A0d];refine G.mul64 ((n/1000000000%1000000000:Nat):Int) 1000000000 _ kV rfl oV oV ?_;refine G.c call267 (Atu (h.mono l1) hn 0) ?_;rintro v2 u2 l2 rfl;rw[A0c];refine G.add64 (((n/1000000000%1000000000:Nat):Int)*1000000000) ((n%1000000000:Nat):Int) (n:Int) kV oV oV oV ?_;exact G.r _ ⟨rfl,rfl⟩
theorem Aw0 {u:PH}(h:Cb u v z)(hz:z.natAbs<1000000000000000000):Fn0 prog 319 [v] u fun r _=>r=.tuple #[.int .i64 z,.bool true]:=by
 obtain⟨a,n',c,rfl,hN⟩:=h;obtain⟨a,c,e,_⟩:=id hN;cases e;have hl:=Av9 hz;generalize hn:z.natAbs=n at hN hz hl⊢;refine Fn0.o func319 ?_;refine G.gF ((Aa n).length:Int) 3 ?_;refine G.c call267 (Atu hN hz 2) ?_;rintro v1 u1 l1 rfl;rw[Hh (k:=2) oV];refine G.cmpG .gtr .u64 ((0:Nat):Int) 4 false kV rfl (by simp[B4]) ?_;refine G.c call267 (Atu (hN.mono l1) hz 2) ?_;rintro v2 u2 l2 rfl;rw[Hh (k:=2) oV];refine G.mul64 ((0:Nat):Int) 1000000000 0 kV oV oV oV ?_;refine G.mul64 0 1000000000 0 kV oV oV oV ?_;refine G.c call291 (Awu (hN.mono (l1.trans l2)) hz) ?_;rintro v3 u3 l3 rfl;refine G.add64 0 (n:Int) (n:Int) kV oV oV oV ?_;refine G.cmpG .gtr .u64 (n:Int) 4611686018427387904 false kV rfl (by simp[B4];omega) ?_;by_cases hneg:z<0
 ·rw[decide_eq_true hneg];refine G.convI .u64 .i64 .u64 (n:Int) (n:Int) kV ?_ ?_
  ·simp only[IntKind.wrap,IntKind.signed,IntKind.bits];simp;omega
  refine G.neg (n:Int) z kV oV oV oV ?_;exact G.r (.tuple #[.int .i64 z,.bool true]) ⟨rfl,rfl⟩
 ·rw[decide_eq_false hneg];refine G.convI .u64 .i64 .u64 (n:Int) (n:Int) kV ?_ ?_
  ·simp only[IntKind.wrap,IntKind.signed,IntKind.bits];simp;omega
  obtain rfl:z=(n:Int):=oV
  exact G.r (.tuple #[.int .i64 (n:Int),.bool true]) ⟨rfl,rfl⟩
end
section
variable {q:Rat}{u:PH}{z:Int}
theorem Me (h:z.natAbs<1000000000000000000):Lib.nDigits z.natAbs<=400:=A0q (Ed (k:=18) oV oV) oV
theorem Atn (h:z.natAbs<1000000000000000000):Fn0 prog 275 [.string (mkS (A1a z))] u fun v _=>v=.tuple #[.int .i64 z,.bool true]:=by
 refine Fn0.o func275 ?_;refine G.c call220 (I1 (Me h)) ?_;rintro v1 u1 l1 rfl;refine G.c call266 (Aab (Me h)) ?_;intro v2 u2 l2 k2;obtain⟨b2,a2,n2,c2,rfl⟩:=k2.opn;refine G.c call319 (Aw0 k2 h) ?_;rintro v3 u3 l3 rfl;exact G.r (.tuple #[.int .i64 z,.bool true]) ⟨rfl,rfl⟩
theorem Azq (h:Tx q):Fn0 prog 274 [.string (mkS (Af q))] u fun v _=>v=.tuple #[.string (mkS (A1a q.num)),.string (mkS (A1a (q.den:Int))),.bool true]:=by
 refine Fn0.o func274 ?_;refine G.c call154 (Aqm h) ?_;rintro v1 u1 l1 rfl;refine G.c call162 (App h) ?_;rintro v2 u2 l2 rfl;by_cases hd:q.den=1
 ·rw[if_pos hd,decide_eq_false (by simp[hd]),hd,show ((1:Nat):Int)=1 from rfl,Gu];exact G.r (.tuple #[.string (mkS (A1a q.num)),.string (mkS [49]),.bool true]) ⟨rfl,rfl⟩
 ·rw[if_neg hd,decide_eq_true hd];exact G.r (.tuple #[.string (mkS (A1a q.num)),.string (mkS (A1a (q.den:Int))),.bool true]) ⟨rfl,rfl⟩
theorem Aud (h:z.natAbs<=1000000000):Fn0 prog 273 [.string (mkS (A1a z))] u fun v _=>v=.bool true:=by
 refine Fn0.o func273 ?_;refine G.c call275 (Atn (z:=z) oV) ?_;rintro v1 u1 l1 rfl;refine G.hT z (-1000000000) ?_;refine G.kT z 1000000000 ?_;exact G.r (.bool true) ⟨rfl,rfl⟩
structure Dat (q:Rat):Prop where
 num:q.num.natAbs<=1000000000
 den:q.den<=12
theorem Dat.tx (h:Dat q):Tx q:=⟨Me (by have:=h.num;omega),by have:=Me (z:=(q.den:Int)) (by have:=h.den;omega);simpa using this⟩
theorem Ax3 :Af q≠[]:=by
 intro e;unfold Af at e;split at e
 ·by_cases h:q.num<0
  ·rw[Ts h]at e;cases e
  ·rw[A1a,if_neg h]at e;exact Hy _ e
 ·simp at e
theorem Ayz {s:List UInt8}(h:Dat q):Fn0 prog 229 [D0 (s,2),.string (mkS (Af q))] u fun v _=>v=.bool true:=by
 have hd:=h.den;have hp:=q.den_pos;refine Fn0.o func229 ?_;refine G.eF ((2:Nat):Int) 1 ?_;refine G.eT ((2:Nat):Int) 2 ?_;refine G.c call274 (Azq h.tx) ?_;rintro v1 u1 l1 rfl;refine G.c call275 (Atn (z:=(q.den:Int)) oV) ?_;rintro v2 u2 l2 rfl;refine G.w (Af q) [] Ax3 ?_;refine G.c call273 (Aud h.num) ?_;rintro v3 u3 l3 rfl;refine G.hT (q.den:Int) 1 ?_;refine G.kT (q.den:Int) 12 ?_;exact G.r (.bool true) ⟨rfl,rfl⟩
end
section
def CF.one1 (p:Par)(q:Rat):CF:=⟨1,Hb (fun _=>0) p q,Hb (fun _=>0) (p,p) (q*q)⟩
end
section
end
section
variable {F:CF}{K:Nat}{u:PH}{v:Value}
theorem A0g (p:Par)(h:H7 u v F K)(hK:K<=1000000):Fn0 prog 258 [v,An p] u fun r _=>r=.string (mkS (Af (F.s p))):=by
 obtain⟨T,Q,a1,c1,a2,c2,rfl,hT,hQ,cT,cQ,kT,kQ⟩:=h;refine Fn0.o func258 ?_;refine G.l (ι:=Nat) (fun i=>[(3,.p 1 0),(8,sV a1 T.length c1),(9,iV T.length),(10,iV i)]) (fun _=>[(1,⟨79,[iV p.1,tV p.2]⟩)])
  (fun i u' m'=>i<=T.length/\(∀ j (hj:j<T.length),j<i->(T[j]'hj).1≠p)/\m'=PH.mt) (fun i=>T.length-i) 0 ⟨oV,fun j hj h=>oV,rfl⟩ ?_
 rintro J i hJ u1 m1 l1 ⟨hi,h0,rfl⟩;by_cases hlt:i<T.length
 ·refine G.lT (i:Int) (T.length:Int) ?_;have hTi:T[i]?=some T[i]:=A0n hlt;have hval:=(cT.val _ (A04 hlt)).1;obtain⟨ba,oa,rfl,ea⟩:=Ab.at' (hT.mono l1) (j:=i) (e:=A5 T[i]) (by simp[hTi]);refine G.a ba oa T.length c1 i 3 oV ?_;refine G.lU (some 3) ba (oa+i*3) (.agg #[.int .i64 T[i].1.1,.string (mkS T[i].1.2),.string (mkS (Af T[i].2))]) ea ?_;by_cases he:T[i].1=p
  ·refine G.eqAgg 79 #[.int .i64 T[i].1.1,.string (mkS T[i].1.2)] #[.int .i64 p.1,.string (mkS p.2)] true kV kV kV (fun w=>by rw[<-decide_eq_true he];exact Bt.eq T[i].1 p w) ?_;exact G.r (.string (mkS (Af T[i].2))) ⟨rfl,by rw[hval,he]⟩
  ·refine G.eqAgg 79 #[.int .i64 T[i].1.1,.string (mkS T[i].1.2)] #[.int .i64 p.1,.string (mkS p.2)] false kV kV kV (fun w=>by rw[<-decide_eq_false he];exact Bt.eq T[i].1 p w) ?_;refine G.i i ?_;exact G.b (hJ (i+1) _ _ _ cV l1 ⟨oV,fun j hj h=>by
    rcases (by omega:j<i\/j=i) with e|rfl
    ·exact h0 j hj e
    ·exact he,rfl⟩ oV)
 ·obtain rfl:i=T.length:=oV
  refine G.lF (T.length:Int) (T.length:Int) ?_;have hz:F.s p=0:=cT.out p fun hm=>by
   obtain⟨x,hx,e⟩:=A0u.1 hm;obtain⟨j,hj,rfl⟩:=A19 hx;exact h0 j hj hj e
  exact G.r (.string (mkS [48])) ⟨rfl,by rw[hz,Hf]⟩
theorem Aw9 (p q:Par)(h:H7 u v F K)(hK:K<=1000000):Fn0 prog 259 [v,An p,An q] u fun r _=>r=.string (mkS (Af (F.t (Ap p q)))):=by
 obtain⟨T,Q,a1,c1,a2,c2,rfl,hT,hQ,cT,cQ,kT,kQ⟩:=h;refine Fn0.o func259 ?_;by_cases hsw:A8 q p<0
 ·rw[show Ap p q=(q,p) by unfold Ap;rw[if_pos ((Dp.sym _ _).1 hsw)]];refine G.c call206 (U5 q p true (decide_eq_true hsw)) ?_;rintro v0 u0 l0 rfl;refine G.l (ι:=Nat) (fun i=>[(4,.p 1 0),(5,.p 2 0),(15,sV a2 Q.length c2),(16,iV Q.length),(17,iV i)]) (fun _=>[(1,⟨79,[iV q.1,tV q.2]⟩),(2,⟨79,[iV p.1,tV p.2]⟩)])
   (fun i u' m'=>i<=Q.length/\(∀ j (hj:j<Q.length),j<i->(Q[j]'hj).1≠(q,p))/\m'=PH.mt) (fun i=>Q.length-i) 0 ⟨oV,fun j hj h=>oV,rfl⟩ ?_
  rintro J i hJ u1 m1 l1 ⟨hi,h0,rfl⟩;by_cases hlt:i<Q.length
  ·refine G.lT (i:Int) (Q.length:Int) ?_;have hTi:Q[i]?=some Q[i]:=A0n hlt;have hval:=(cQ.val _ (A04 hlt)).1;obtain⟨ba,oa,rfl,ea⟩:=Ab.at' (hQ.mono (l0.trans l1)) (j:=i) (e:=Da Q[i]) (by simp[hTi]);have hback:Q[i].1≠(q,p)->∀ j (hj:j<Q.length),j<i+1->(Q[j]'hj).1≠(q,p):=fun hne j hj h=>by
    rcases (by omega:j<i\/j=i) with e|rfl
    ·exact h0 j hj e
    ·exact hne
   refine G.a ba oa Q.length c2 i 5 oV ?_;refine G.lU (some 5) ba (oa+i*5) (.agg #[.int .i64 Q[i].1.1.1,.string (mkS Q[i].1.1.2),.int .i64 Q[i].1.2.1,.string (mkS Q[i].1.2.2),.string (mkS (Af Q[i].2))]) ea ?_;by_cases he:Q[i].1.1=q
   ·refine G.eqAgg 79 #[.int .i64 Q[i].1.1.1,.string (mkS Q[i].1.1.2)] #[.int .i64 q.1,.string (mkS q.2)] true kV kV kV (fun w=>by rw[<-decide_eq_true he];exact Bt.eq Q[i].1.1 q w) ?_;by_cases he2:Q[i].1.2=p
    ·refine G.eqAgg 79 #[.int .i64 Q[i].1.2.1,.string (mkS Q[i].1.2.2)] #[.int .i64 p.1,.string (mkS p.2)] true kV kV kV (fun w=>by rw[<-decide_eq_true he2];exact Bt.eq Q[i].1.2 p w) ?_;exact G.r (.string (mkS (Af Q[i].2))) ⟨rfl,by rw[hval,show Q[i].1=(q,p) from Prod.ext he he2]⟩
    ·refine G.eqAgg 79 #[.int .i64 Q[i].1.2.1,.string (mkS Q[i].1.2.2)] #[.int .i64 p.1,.string (mkS p.2)] false kV kV kV (fun w=>by rw[<-decide_eq_false he2];exact Bt.eq Q[i].1.2 p w) ?_;refine G.i i ?_;exact G.b (hJ (i+1) _ _ _ cV l1 ⟨oV,hback fun e=>he2 (congrArg Prod.snd e),rfl⟩ oV)
   ·refine G.eqAgg 79 #[.int .i64 Q[i].1.1.1,.string (mkS Q[i].1.1.2)] #[.int .i64 q.1,.string (mkS q.2)] false kV kV kV (fun w=>by rw[<-decide_eq_false he];exact Bt.eq Q[i].1.1 q w) ?_;refine G.i i ?_;exact G.b (hJ (i+1) _ _ _ cV l1 ⟨oV,hback fun e=>he (congrArg Prod.fst e),rfl⟩ oV)
  ·obtain rfl:i=Q.length:=oV
   refine G.lF (Q.length:Int) (Q.length:Int) ?_;have hz:F.t (q,p)=0:=cQ.out (q,p) fun hm=>by
    obtain⟨x,hx,e⟩:=A0u.1 hm;obtain⟨j,hj,rfl⟩:=A19 hx;exact h0 j hj hj e
   exact G.r (.string (mkS [48])) ⟨rfl,by rw[hz,Hf]⟩
 ·rw[show Ap p q=(p,q) by unfold Ap;rw[if_neg fun e=>hsw ((Dp.sym _ _).2 e)]];refine G.c call206 (U5 q p false (decide_eq_false hsw)) ?_;rintro v0 u0 l0 rfl;refine G.l (ι:=Nat) (fun i=>[(4,.p 1 0),(5,.p 2 0),(15,sV a2 Q.length c2),(16,iV Q.length),(17,iV i)]) (fun _=>[(1,⟨79,[iV p.1,tV p.2]⟩),(2,⟨79,[iV q.1,tV q.2]⟩)])
   (fun i u' m'=>i<=Q.length/\(∀ j (hj:j<Q.length),j<i->(Q[j]'hj).1≠(p,q))/\m'=PH.mt) (fun i=>Q.length-i) 0 ⟨oV,fun j hj h=>oV,rfl⟩ ?_
  rintro J i hJ u1 m1 l1 ⟨hi,h0,rfl⟩;by_cases hlt:i<Q.length
  ·refine G.lT (i:Int) (Q.length:Int) ?_;have hTi:Q[i]?=some Q[i]:=A0n hlt;have hval:=(cQ.val _ (A04 hlt)).1;obtain⟨ba,oa,rfl,ea⟩:=Ab.at' (hQ.mono (l0.trans l1)) (j:=i) (e:=Da Q[i]) (by simp[hTi]);have hback:Q[i].1≠(p,q)->∀ j (hj:j<Q.length),j<i+1->(Q[j]'hj).1≠(p,q):=fun hne j hj h=>by
    rcases (by omega:j<i\/j=i) with e|rfl
    ·exact h0 j hj e
    ·exact hne
   refine G.a ba oa Q.length c2 i 5 oV ?_;refine G.lU (some 5) ba (oa+i*5) (.agg #[.int .i64 Q[i].1.1.1,.string (mkS Q[i].1.1.2),.int .i64 Q[i].1.2.1,.string (mkS Q[i].1.2.2),.string (mkS (Af Q[i].2))]) ea ?_;by_cases he:Q[i].1.1=p
   ·refine G.eqAgg 79 #[.int .i64 Q[i].1.1.1,.string (mkS Q[i].1.1.2)] #[.int .i64 p.1,.string (mkS p.2)] true kV kV kV (fun w=>by rw[<-decide_eq_true he];exact Bt.eq Q[i].1.1 p w) ?_;by_cases he2:Q[i].1.2=q
    ·refine G.eqAgg 79 #[.int .i64 Q[i].1.2.1,.string (mkS Q[i].1.2.2)] #[.int .i64 q.1,.string (mkS q.2)] true kV kV kV (fun w=>by rw[<-decide_eq_true he2];exact Bt.eq Q[i].1.2 q w) ?_;exact G.r (.string (mkS (Af Q[i].2))) ⟨rfl,by rw[hval,show Q[i].1=(p,q) from Prod.ext he he2]⟩
    ·refine G.eqAgg 79 #[.int .i64 Q[i].1.2.1,.string (mkS Q[i].1.2.2)] #[.int .i64 q.1,.string (mkS q.2)] false kV kV kV (fun w=>by rw[<-decide_eq_false he2];exact Bt.eq Q[i].1.2 q w) ?_;refine G.i i ?_;exact G.b (hJ (i+1) _ _ _ cV l1 ⟨oV,hback fun e=>he2 (congrArg Prod.snd e),rfl⟩ oV)
   ·refine G.eqAgg 79 #[.int .i64 Q[i].1.1.1,.string (mkS Q[i].1.1.2)] #[.int .i64 p.1,.string (mkS p.2)] false kV kV kV (fun w=>by rw[<-decide_eq_false he];exact Bt.eq Q[i].1.1 p w) ?_;refine G.i i ?_;exact G.b (hJ (i+1) _ _ _ cV l1 ⟨oV,hback fun e=>he (congrArg Prod.fst e),rfl⟩ oV)
  ·obtain rfl:i=Q.length:=oV
   refine G.lF (Q.length:Int) (Q.length:Int) ?_;have hz:F.t (p,q)=0:=cQ.out (p,q) fun hm=>by
    obtain⟨x,hx,e⟩:=A0u.1 hm;obtain⟨j,hj,rfl⟩:=A19 hx;exact h0 j hj hj e
   exact G.r (.string (mkS [48])) ⟨rfl,by rw[hz,Hf]⟩
end
section
variable {p:Par}{q:Rat}
theorem Agu {d N:Nat}(h1:Dn d N 1)(hq:Dn d N q)(h2:Dn d N (q*q)):CFD d N (CF.one1 p q) :=
 ⟨h1,fun k=>by
  show Dn d N (Hb (fun _=>(0:Rat)) p q k);unfold Hb;split
  ·exact hq
  ·exact Dn.zero _ _,fun k=>by
  show Dn d N (Hb (fun _=>(0:Rat)) (p,p) (q*q) k);unfold Hb;split
  ·exact h2
  ·exact Dn.zero _ _⟩
theorem Ajh (hp:PV p):CFV (CF.one1 p q) :=
 ⟨fun k hk=>by
  have hk:Hb (fun _=>(0:Rat)) p q k≠0:=hk;unfold Hb at hk;split at hk
  ·subst_vars;exact hp
  ·exact absurd rfl hk,fun k hk=>by
  have hk:Hb (fun _=>(0:Rat)) (p,p) (q*q) k≠0:=hk;unfold Hb at hk;split at hk
  ·subst_vars
   exact⟨hp,hp,fun e=>by
   have e:0<A8 p p:=e;have:=(Dp.sym _ _).2 e;omega⟩
  ·exact absurd rfl hk⟩
theorem El.listP {u:PH}{g sz:Nat}{es:List Value}(h:El u g 0 sz es):Ab u (.slice (some ⟨g,0,none⟩) es.length es.length) sz es:=⟨_,_,rfl,A0w _,fun j e hj=>⟨g,0,rfl,h j e hj⟩⟩
theorem Nw {L:List (List UInt8)}(h:(L.all Gw&&decide L.Nodup)=true):Oh L:=by
 rw[A05,A08,decide_eq_true_iff]at h;exact⟨h.1,h.2⟩
end
section
end
section
variable {s:List UInt8}{u:PH}{z:Int}
theorem Asd :Fn0 prog 220 [.string (mkS [])] u fun v _=>v=.bool false:=by
 refine Fn0.o func220 ?_;refine G.w [] [48] fV ?_;refine G.c call265 (Z7 (s:=[]) (p:=[45])) ?_;rintro v1 u1 l1 rfl;refine G.q (Lib.trimPrefix [] [45]) [] rfl ?_;exact G.r (.bool false) ⟨rfl,rfl⟩
theorem Au7 :Fn0 prog 154 [.string (mkS [])] u fun v _=>v=.bool false:=by
 refine Fn0.o func154 ?_;refine G.c call162 (Ap7 (T:=[]) mV) ?_;rintro v1 u1 l1 rfl;refine G.c call220 Asd ?_;rintro v2 u2 l2 rfl;refine G.c call220 Asd ?_;rintro v3 u3 l3 rfl;exact G.r (.bool false) ⟨rfl,rfl⟩
theorem Ay3 :Fn0 prog 274 [.string (mkS [])] u fun v _=>v=.tuple #[.string (mkS []),.string (mkS []),.bool false]:=by
 refine Fn0.o func274 ?_;refine G.c call154 Au7 ?_;rintro v1 u1 l1 rfl;exact G.r (.tuple #[.string (mkS []),.string (mkS []),.bool false]) ⟨rfl,rfl⟩
theorem Avl :Fn0 prog 275 [.string (mkS [])] u fun v _=>v=.tuple #[.int .i64 0,.bool false]:=by
 refine Fn0.o func275 ?_;refine G.c call220 Asd ?_;rintro v1 u1 l1 rfl;exact G.r (.tuple #[.int .i64 0,.bool false]) ⟨rfl,rfl⟩
theorem Ayr {x:List UInt8×Nat}(h1:1<=x.2)(h3:x.2<=3):Fn0 prog 229 [D0 x,.string (mkS [])] u fun v _=>v=.bool true:=by
 obtain⟨s,k⟩:=x;simp only at h1 h3;refine Fn0.o func229 ?_;rcases (by omega:k=1\/k=2\/k=3) with rfl|rfl|rfl
 ·refine G.eT ((1:Nat):Int) 1 ?_;refine G.q [] [] rfl ?_;exact G.r (.bool true) ⟨rfl,rfl⟩
 ·refine G.eF ((2:Nat):Int) 1 ?_;refine G.eT ((2:Nat):Int) 2 ?_;refine G.c call274 Ay3 ?_;rintro v1 u1 l1 rfl;refine G.c call275 Avl ?_;rintro v2 u2 l2 rfl;refine G.q [] [] rfl ?_;exact G.r (.bool true) ⟨rfl,rfl⟩
 ·refine G.eF ((3:Nat):Int) 1 ?_;refine G.eF ((3:Nat):Int) 2 ?_;refine G.eT ((3:Nat):Int) 3 ?_;refine G.q [] [] rfl ?_;exact G.r (.bool true) ⟨rfl,rfl⟩
theorem Auh :A1a z≠[]:=by
 by_cases h:z<0
 ·rw[Ts h];simp
 ·rw[A1a,if_neg h];exact Hy _
theorem Ay0 (h:z.natAbs<=1000000000):Fn0 prog 229 [D0 (s,1),.string (mkS (A1a z))] u fun v _=>v=.bool true:=by
 refine Fn0.o func229 ?_;refine G.eT ((1:Nat):Int) 1 ?_;refine G.w (A1a z) [] Auh ?_;refine G.c call273 (Aud h) ?_;rintro v1 u1 l1 rfl;exact G.r (.bool true) ⟨rfl,rfl⟩
theorem Ayn {s t:List UInt8}(h:Gw t=true):Fn0 prog 229 [D0 (s,3),.string (mkS t)] u fun v _=>v=.bool true:=by
 refine Fn0.o func229 ?_;refine G.eF ((3:Nat):Int) 1 ?_;refine G.eF ((3:Nat):Int) 2 ?_;refine G.eT ((3:Nat):Int) 3 ?_;refine G.w t [] (fun e=>by rw[e]at h;cases h) ?_;refine G.c call208 (Ajx h) ?_;rintro v1 u1 l1 rfl;exact G.r (.bool true) ⟨rfl,rfl⟩
end
section
def Bdv (a:Option Addr)(c:Nat)(T:List (Par×Rat)):Arr:=⟨.slice a T.length c,81,3,T.map A5⟩
end
section
variable {i:Nat}{s:List UInt8}
section rules
variable {P:Program} [Ba P] {fn:Func} {Post:B0} {st:List KI×S} {u m:PH}
theorem G.convBU (e:TypeId)(l:List UInt8)(b n c:Nat)(h:Al P (adv P st)=.conv (some (.slice e)) (some .string) (.slice (some ⟨b,0,none⟩) n c))(he:P.underlying e=some (.int .u8))(hn:n=l.length)
 (ha:El u b 0 1 (Bc l)) (k:G P fn Post (nx (adv P st) (.string (mkS l))) u m):G P fn Post st u m:=by
 refine G.ask h mV (fun env o hview w hp=>?_) k;obtain⟨s,d,X,e1,e2,e3,e4⟩:=Ja hview;obtain⟨dst,opp,type,pos,after,guard⟩:=o;simp only at e1;subst e1;have hm:=(hp (by simp[F2,V1 e4 mV])).1;subst hn;have:=run_convert_bytes_back (P:=P) w s d e ⟨b,0,none⟩ c l e3 he e4 (fun j hj=>by
  have h1:=ha j (.int .u8 (l[j].toNat:Int)) (by simp[Bc,hj]);have h2:=(h1 0 (.int .u8 (l[j].toNat:Int)) (by simp[A1e])).cell hm;rw[Db];simpa using h2)
 simp[execOp,e2,this]
end rules
def Uj (i:Nat):UInt8:=UInt8.ofNat (97+i)
theorem Rk (h:i<26):(Uj i).toNat=97+i:=by
 unfold Uj;rw[UInt8.toNat_ofNat'];omega
theorem N9 {u:PH}{p:List UInt8}(hi:i<26)(hp:p.length<=1000):Fn0 prog 179 [.string (mkS p),.int .i64 (i:Int)] u fun v _=>v=.string (mkS (p++[Uj i])):=by
 refine Fn0.o func179 ?_;refine G.remZ (i:Int) 26 (i:Int) kV oV oV (by rw[A4c oV];omega) ?_;refine G.p 97 (i:Int) ((97+i:Nat):Int) ?_;refine G.convI .i64 .u8 .i64 ((97+i:Nat):Int) ((97+i:Nat):Int) kV ?_ ?_
 ·simp only[IntKind.wrap,IntKind.signed,IntKind.bits];simp;omega
 have hb : [A15 .u8 ((97+i:Nat):Int)]=Bc [Uj i]:=by unfold Bc;rw[List.map_cons,Rk hi];rfl
 refine G.B 5 1 1 (.int .u8 0) [.int .u8 ((97+i:Nat):Int)] (by rw[hb];exact Jh _) ?_;intro g u1 l1 e1;rw[hb]at e1;refine G.convBU 5 [Uj i] g 1 1 kV kV rfl e1 ?_;refine G.addS p [Uj i] kV gV ?_;exact G.r _ ⟨rfl,rfl⟩
def Ack:List UInt8:=[114,101,100]
def M0:List UInt8:=[103,114,101,101,110]
def Tg:List UInt8:=[98,108,117,101]
def Ac1 (s:List UInt8):Bool:=Gw s&&(s==Ack||s==M0||s==Tg)
theorem Ag0 (h:Ac1 s=true):Gw s=true:=by
 unfold Ac1 at h;rw[A05]at h;exact h.1
theorem Alx (h:Ac1 s=true):s=Ack\/s=M0\/s=Tg:=by
 unfold Ac1 at h;simp only[A05,A3o,beq_iff_eq]at h;rcases h.2 with (h|h)|h
 ·exact .inl h
 ·exact .inr (.inl h)
 ·exact .inr (.inr h)
def Ii (k:Nat)(s:List UInt8):Prop:=s = []\/(k=3/\Ac1 s=true)\/(k=1/\∃ z:Int,z.natAbs<=1000000000/\s=A1a z)\/(k=2/\∃ q,SmR q/\s=Af q)
theorem Eu {q:Rat}(h:Af q=s)(hq:SmR q):Ii 2 s:=.inr (.inr (.inr ⟨rfl,q,hq,h.symm⟩))
theorem P0 {z:Int}(h:A1a z=s)(hz:z.natAbs<=1000000000):Ii 1 s:=.inr (.inr (.inl ⟨rfl,z,hz,h.symm⟩))
theorem Aga {u:PH}{s:Src}{ts:List Int}{k:Nat}{x:List UInt8×Nat}(h:Aq7 u s ts)(hk:k<=s.n)(h1:1<=x.2)(h3:x.2<=3) :
 Ai prog 180 [s.ptr,D0 x] u (s.M k) fun v _ m'=>∃ (t:List UInt8) (k':Nat),v=.string (mkS t)/\Ii x.2 t/\k'<=s.n/\m'=s.M k':=by
 obtain⟨nm,kd⟩:=x;simp only at h1 h3⊢;refine Ai.o func180 ?_;refine G.A call73 (Ia (n:=9) h hk oV oV) ?_;rintro v1 u1 m1 l1 ⟨r,k1,rfl,hr,hk1,rfl⟩ _;rw[C2];by_cases h8:r=8
 ·refine G.eT (r:Int) 8 ?_;exact G.r (.string (mkS [])) ⟨[],k1,rfl,.inl rfl,hk1,rfl⟩
 refine G.eF (r:Int) 8 ?_;by_cases hk3:kd=3
 ·subst hk3;refine G.eT ((3:Nat):Int) 3 ?_;refine G.B 9 1 16 (.string (mkS [])) [.string (mkS Ack),.string (mkS M0),.string (mkS Tg)] (G4 [Ack,M0,Tg]) ?_;intro g u2 l2 e2;obtain⟨i,hi⟩:∃ i,i=r%3:=⟨_,rfl⟩;have hi3:i<3:=oV
  refine G.remZ (r:Int) 3 (i:Int) kV oV oV (by rw[A4c oV];omega) ?_;refine G.a g 0 3 3 i 1 hi3 ?_;obtain⟨t,ht,hw⟩:∃ t,ElP u2 g (0+i*1) (.string (mkS t))/\Ac1 t=true:=by
   rcases (by omega:i=0\/i=1\/i=2) with h|h|h
   ·rw[h];exact⟨Ack,e2 0 _ rfl,jV⟩
   ·rw[h];exact⟨M0,e2 1 _ rfl,jV⟩
   ·rw[h];exact⟨Tg,e2 2 _ rfl,jV⟩
  refine G.lU none g (0+i*1) (.string (mkS t)) ht ?_;exact G.r (.string (mkS t)) ⟨t,k1,rfl,.inr (.inl ⟨rfl,hw⟩),hk1,rfl⟩
 refine G.eF (kd:Int) 3 ?_;by_cases hk2:kd=1
 ·subst hk2;refine G.eT ((1:Nat):Int) 1 ?_;refine G.B 9 1 16 (.string (mkS [])) [.string (mkS [49]),.string (mkS [50]),.string (mkS [49,48])] (G4 [[49],[50],[49,48]]) ?_;intro g u2 l2 e2;obtain⟨i,hi⟩:∃ i,i=r%3:=⟨_,rfl⟩;have hi3:i<3:=oV
  refine G.remZ (r:Int) 3 (i:Int) kV oV oV (by rw[A4c oV];omega) ?_;refine G.a g 0 3 3 i 1 hi3 ?_;obtain⟨t,ht,hw⟩:∃ t,ElP u2 g (0+i*1) (.string (mkS t))/\Ii 1 t:=by
   rcases (by omega:i=0\/i=1\/i=2) with h|h|h
   ·rw[h];exact⟨[49],e2 0 _ rfl,P0 (z:=1) jV fV⟩
   ·rw[h];exact⟨[50],e2 1 _ rfl,P0 (z:=2) jV fV⟩
   ·rw[h];exact⟨[49,48],e2 2 _ rfl,P0 (z:=10) jV fV⟩
  refine G.lU none g (0+i*1) (.string (mkS t)) ht ?_;exact G.r (.string (mkS t)) ⟨t,k1,rfl,hw,hk1,rfl⟩
 refine G.eF (kd:Int) 1 ?_;obtain rfl:kd=2:=oV
 refine G.B 9 1 16 (.string (mkS [])) [.string (mkS [48]),.string (mkS [49]),.string (mkS [45,50]),.string (mkS [49,47,50]),.string (mkS [51]),.string (mkS [53,47,51]),.string (mkS [49]),.string (mkS [50])] (G4 [[48],[49],[45,50],[49,47,50],[51],[53,47,51],[49],[50]]) ?_;intro g u2 l2 e2;refine G.a g 0 8 8 r 1 oV ?_;obtain⟨t,ht,hw⟩:∃ t,ElP u2 g (0+r*1) (.string (mkS t))/\Ii 2 t:=by
  rcases (by omega:r=0\/r=1\/r=2\/r=3\/r=4\/r=5\/r=6\/r=7) with h|h|h|h|h|h|h|h
  ·rw[h];exact⟨_,e2 0 _ rfl,Eu (q:=0) jV ⟨jV,jV⟩⟩
  ·rw[h];exact⟨_,e2 1 _ rfl,Eu (q:=1) jV ⟨jV,jV⟩⟩
  ·rw[h];exact⟨_,e2 2 _ rfl,Eu (q:=-2) jV ⟨jV,jV⟩⟩
  ·rw[h];exact⟨_,e2 3 _ rfl,Eu (q:=1/2) jV ⟨jV,jV⟩⟩
  ·rw[h];exact⟨_,e2 4 _ rfl,Eu (q:=3) jV ⟨jV,jV⟩⟩
  ·rw[h];exact⟨_,e2 5 _ rfl,Eu (q:=5/3) jV ⟨jV,jV⟩⟩
  ·rw[h];exact⟨_,e2 6 _ rfl,Eu (q:=1) jV ⟨jV,jV⟩⟩
  ·rw[h];exact⟨_,e2 7 _ rfl,Eu (q:=2) jV ⟨jV,jV⟩⟩
 refine G.lU none g (0+r*1) (.string (mkS t)) ht ?_;exact G.r (.string (mkS t)) ⟨t,k1,rfl,hw,hk1,rfl⟩
end
section
theorem Af2 {u:PH}{s:Src}{ts:List Int}{k:Nat}{v w x y:Value}{T:List (List UInt8×Nat)}(h:Aq7 u s ts)(hk:k<=s.n)(hT:Ab u v 2 (T.map D0))(hl:T.length<=1000)(hkd:∀ a∈T,1<=a.2/\a.2<=3)(hw:∃ a n c,w=.slice a n c)(hx:∃ a n c,x=.slice a n c)(hy:∃ z:Int,y=.int .i64 z) :
 Ai prog 103 [s.ptr,.agg #[v,w,x,y]] u (s.M k) fun r u' m'=>∃ (ss:List (List UInt8)) (k':Nat),Ab u' r 1 (ss.map nmV)/\ss.length=T.length/\(∀ (i:Nat) (x:List UInt8×Nat) (t:List UInt8),T[i]?=some x->ss[i]?=some t->Ii x.2 t)/\k'<=s.n/\m'=s.M k':=by
 obtain⟨a,c,rfl⟩:=hT.opn;obtain⟨wa,wn,wc,rfl⟩:=hw;obtain⟨xa,xn,xc,rfl⟩:=hx;obtain⟨z,rfl⟩:=hy;rw[A0p]at hT⊢;refine Ai.o func103 ?_;refine G.l (ι:=Nat×Nat×List (List UInt8)×(Option Addr×Nat)) (fun i=>[(0,.v s.ptr),(5,sV i.2.2.2.1 i.2.2.1.length i.2.2.2.2),(9,sV a T.length c),(10,iV T.length),(11,iV i.1)]) (fun _=>[])
  (fun i u' m'=>i.1<=T.length/\i.2.1<=s.n/\i.2.2.1.length=i.1/\(∀ (j:Nat) (x:List UInt8×Nat) (t:List UInt8),T[j]?=some x->i.2.2.1[j]?=some t->Ii x.2 t)/\Bag m' [s.arr i.2.1,Acm i.2.2.2.1 i.2.2.2.2 i.2.2.1])
  (fun i=>T.length-i.1) (0,k,[],(none,0))
  ⟨A1m _,hk,rfl,fun j x t _ ht=>by simp at ht,s.bag0 k ⟨PH.mt,Ae.nil _ _ _,trivial⟩⟩ ?_
 rintro J ⟨i,k1,ss,⟨na,nc⟩⟩ hJ u1 m1 l1 ⟨hi,hk1,hsl,hss,hbag⟩;simp only at hi hk1 hsl hss hbag hJ;obtain⟨m0,hsrc,hL⟩:=hbag;obtain⟨rfl,hg0⟩:=Src.split hsrc;by_cases hlt:i<T.length
 ·refine G.lT (i:Int) (T.length:Int) ?_;have hTi:T[i]?=some T[i]:=A0n hlt;obtain⟨hk1',hk3'⟩:=hkd T[i] (A04 hlt);obtain⟨ba,oa,rfl,ea⟩:=Ab.at' (hT.mono l1) (j:=i) (e:=D0 T[i]) (by simp[hTi]);generalize T[i]=q at ea hTi hk1' hk3';refine G.a ba oa T.length c i 2 hlt ?_;refine G.lU (some 2) ba (oa+i*2) (.agg #[.string (mkS q.1),.int .i64 (q.2:Int)]) ea ?_;refine G.D call180 (Src.apart hg0) (Aga (x:=q) (h.mono l1) hk1 hk1' hk3') ?_;rintro v2 u2 m2 l2 ⟨t,k2,rfl,hv,hk2,rfl⟩ _;refine G.B 9 1 16 (.string (mkS [])) [.string (mkS t)] (G4 [t]) ?_;intro g3 u3 l3 e3;have hbag2:Bag (m0.or (s.M k2)) [s.arr k2,Acm na nc ss]:=⟨m0,Src.at hg0,hL⟩;obtain⟨mm,hx0,hput⟩:=hbag2.focus 1 rfl;rw[Aeg]at hx0;refine G.k 9 1 16 (.string (mkS [])) mm (ss.map nmV) [.string (mkS t)] (.slice na ss.length nc) g3 0 1 1 hx0 e3 (G4 [t]) ?_;intro v4 m4 hx4;rw[show ss.map nmV++[.string (mkS t)]=(ss++[t]).map nmV by rw[A07];rfl]at hx4;obtain⟨a4,c4,rfl⟩:=hx4.shape;rw[A0p]at hx4⊢;have hbag3:=hput (Acm a4 c4 (ss++[t])) m4 hx4;refine G.i i ?_;refine G.b (hJ (i+1,k2,ss++[t],(a4,c4)) _ _ _ cV ((l1.trans l2).trans l3) ⟨dV,hk2,by dsimp only;simp[hsl],?_,hbag3⟩ dV);intro j x' t' hx' ht';dsimp only at ht';rcases A11 j ss.length with hj|hj
  ·rw[A1d hj]at ht';exact hss j x' t' hx' ht'
  ·rw[A1s hj]at ht';have hj0:j-ss.length=0:=by
    obtain⟨h',_⟩:=A0s.1 ht';simp at h';omega
   rw[hj0]at ht';obtain rfl:j=i:=oV
   rw[hTi]at hx';cases hx';simp at ht';subst ht';exact hv
 ·obtain rfl:i=T.length:=oV
  refine G.lF (T.length:Int) (T.length:Int) ?_;refine G.giveP (ma:=m0) (sm:=s.M k1) kV rfl (Src.apart hg0) (s.h0 k k1) ?_;intro u2 l2 hm;exact G.r (.slice na ss.length nc) ⟨ss,k1,hL.list hm 0 rfl,hsl,hss,hk1,rfl⟩
end
section
variable {F:List Ao}{R:List Bk}{T:List (List UInt8×Nat)}{a:Option Addr}{c k n:Nat}{l:List Nat}{m m0 u:PH}
def nmA (j:Nat):List UInt8:=[97]++[Uj j]
def nmR (j:Nat):List UInt8:=[114]++[Uj j]
theorem Aoy (h:n<=6):Oh ((A1q n).map nmA):=by
 have h2:∀ n:Fin 7,(((A1q n.val).map nmA).all Gw&&decide ((A1q n.val).map nmA).Nodup)=true:=jV
 exact Nw (h2 ⟨n,oV⟩)
theorem Ant (h:n<=6):Oh ((A1q n).map nmR):=by
 have h2:∀ n:Fin 7,(((A1q n.val).map nmR).all Gw&&decide ((A1q n.val).map nmR).Nodup)=true:=jV
 exact Nw (h2 ⟨n,oV⟩)
structure TOK (T:List (List UInt8×Nat)):Prop where
 nm:T.map (·.1)=(A1q T.length).map nmA
 kd:∀ a∈T,1<=a.2/\a.2<=3
 le:T.length<=6
theorem TOK.nil:TOK []:=⟨rfl,fun a ha=>by simp at ha,mV⟩
theorem TOK.snoc (h:TOK T)(h1:1<=k)(h3:k<=3)(hl:T.length<6):TOK (T++[(nmA T.length,k)]):=by
 refine⟨?_,fun a ha=>?_,gV⟩
 ·rw[A07,h.nm,A0z,A2o,A6y,A07];rfl
 ·rcases A01.1 ha with e|e
  ·exact h.kd a e
  ·obtain rfl:=A1t.1 e;exact⟨h1,h3⟩
structure TOM (N:Nat)(T:List (List UInt8×Nat)):Prop extends TOK T where
 lem:T.length<=N
theorem TOM.nil (N:Nat):TOM N []:=⟨TOK.nil,A1m _⟩
theorem TOM.snocm {N:Nat}(h:TOM N T)(h1:1<=k)(h3:k<=3)(hl:T.length<N)(hN:N<=6):TOM N (T++[(nmA T.length,k)]) :=
 ⟨h.toTOK.snoc h1 h3 oV,by rw[A0z,A2o];omega⟩
theorem TOK.att (h:TOK T):Ah7 T:=⟨by rw[h.nm];exact Aoy h.le,h.kd⟩
structure LOK (l:List Nat)(n:Nat):Prop where
 asc:l.Pairwise (· < ·)
 lt:∀ a∈l,a<n
 len:l.length<=n
theorem LOK.nil:LOK [] 0:=⟨List.Pairwise.nil,fun a ha=>by simp at ha,mV⟩
theorem LOK.up (h:LOK l n):LOK l (n+1):=⟨h.asc,fun a ha=>by have:=h.lt a ha;omega,by have:=h.len;omega⟩
theorem LOK.snoc (h:LOK l n):LOK (l++[n]) (n+1):=by
 refine⟨A3a.2 ⟨h.asc,A7c _ _,fun a ha b hb=>?_⟩,fun a ha=>?_,by simp;have:=h.len;omega⟩
 ·obtain rfl:=A1t.1 hb;exact h.lt a ha
 ·rcases A01.1 ha with e|e
  ·have:=h.lt a e;omega
  ·obtain rfl:=A1t.1 e;omega
theorem LOK.zero (h:0<n):LOK [0] n:=⟨A7c _ _,fun a ha=>by
 obtain rfl:=A1t.1 ha;exact h,gV⟩
structure ROK (u:PH)(n:Nat)(R:List Bk):Prop where
 nm:R.map (·.1)=(A1q R.length).map nmR
 ne:∀ r∈R,r.2.1≠[]
 ok:∀ r∈R,LOK r.2.1 n
 all:∀ a<n,∃ r∈R,a∈r.2.1
 at':∀ r∈R,Ab u (.slice r.2.2.1 r.2.1.length r.2.2.2) 1 (Ag r.2.1)
theorem ROK.nil :ROK u 0 []:=⟨rfl,fun a ha=>by simp at ha,fun a ha=>by simp at ha,fun a ha=>oV,fun a ha=>by simp at ha⟩
theorem ROK.mono {u u':PH}{n:Nat}{R:List Bk}(h:ROK u n R)(hl:PH.le u u'):ROK u' n R:=⟨h.nm,h.ne,h.ok,h.all,fun r hr=>(h.at' r hr).mono hl⟩
theorem ROK.snoc {n n':Nat}(h:ROK u n R)(hn:n<=n')(hl:LOK l n')(hne:l≠[])(hall:∀ a,n<=a->a<n'->a∈l)(hat:Ab u (.slice a l.length c) 1 (Ag l)):ROK u n' (R++[(nmR R.length,l,(a,c))]):=by
 refine⟨?_,fun r hr=>?_,fun r hr=>?_,fun a ha=>?_,fun r hr=>?_⟩
 ·rw[A07,h.nm,A0z,A2o,A6y,A07];rfl
 ·rcases A01.1 hr with e|e
  ·exact h.ne r e
  ·obtain rfl:=A1t.1 e;exact hne
 ·rcases A01.1 hr with e|e
  ·have:=h.ok r e;exact⟨this.asc,fun a ha=>by have:=this.lt a ha;omega,by have:=this.len;omega⟩
  ·obtain rfl:=A1t.1 e;exact hl
 ·rcases A11 a n with e|e
  ·obtain⟨r,hr,hm⟩:=h.all a e;exact⟨r,List.mem_append_left _ hr,hm⟩
  ·exact⟨_,List.mem_append_right _ (A1t.2 rfl),hall a e ha⟩
 ·rcases A01.1 hr with e|e
  ·exact h.at' r e
  ·obtain rfl:=A1t.1 e;exact hat
theorem ROK.rel (h:ROK u n R)(hn:n<=6)(hR:R.length<=6):Mh u n R:=by
 refine⟨by rw[h.nm];exact Ant hR,h.ne,fun r hr=>(h.ok r hr).lt,fun r hr=>by have:=(h.ok r hr).len;omega,fun r hr k x y hx hy=>?_,h.all,h.at'⟩;obtain⟨h1,rfl⟩:=A0s.1 hx;obtain⟨h2,rfl⟩:=A0s.1 hy;exact List.pairwise_iff_getElem.1 (h.ok r hr).asc k (k+1) h1 h2 oV
structure FOK (T:List (List UInt8×Nat))(F:List Ao)(lab:Int)(a:Nat):Prop where
 feat:Dk T F lab
 lt:∀ f∈F,f.1<a
 len:F.length<=a
 l1:-1<=lab
 l2:∀ l:Nat,lab=(l:Int)->l<a/\∃ n,T[l]?=some (n,2)
theorem FOK.nil :FOK T [] (-1) 0:=⟨⟨fun f hf=>by simp at hf,mV⟩,fun f hf=>by simp at hf,mV,oV,fun l hl=>oV⟩
theorem FOK.skip {lab:Int}{a:Nat}(h:FOK T F lab a):FOK T F lab (a+1):=⟨h.feat,fun f hf=>by have:=h.lt f hf;omega,by have:=h.len;omega,h.l1,fun l hl=>by
 obtain⟨h1,h2⟩:=h.l2 l hl;exact⟨oV,h2⟩⟩
theorem FOK.lab {lab:Int}{a:Nat}{n:List UInt8}(h:FOK T F lab a)(ha:T[a]?=some (n,2)):FOK T F (a:Int) (a+1):=by
 refine⟨⟨fun f hf=>?_,h.feat.nodup⟩,fun f hf=>by have:=h.lt f hf;omega,by have:=h.len;omega,oV,fun l hl=>?_⟩
 ·obtain⟨n,k,h1,h2,h3⟩:=h.feat.ok f hf;exact⟨n,k,h1,h2,by have:=h.lt f hf;omega⟩
 ·obtain rfl:l=a:=oV
  exact⟨oV,n,ha⟩
theorem FOK.put {lab:Int}{a k:Nat}{n:List UInt8}{g:Nat×Nat}(h:FOK T F lab a)(ha:T[a]?=some (n,k))(hg:(g.1=1/\k=2/\g.2<=1)\/(g.1=2/\k=3/\g.2=0)):FOK T (F++[(a,g)]) lab (a+1):=by
 refine⟨⟨fun f hf=>?_,?_⟩,fun f hf=>?_,by simp;have:=h.len;omega,h.l1,fun l hl=>?_⟩
 ·rcases A01.1 hf with e|e
  ·exact h.feat.ok f e
  ·obtain rfl:=A1t.1 e;refine⟨n,k,ha,hg,fun e=>?_⟩;have:=(h.l2 a e.symm).1;omega
 ·rw[A07];refine A3w.2 ⟨h.feat.nodup,mV,fun x hx y hy=>?_⟩;obtain⟨f,hf,rfl⟩:=A0u.1 hx;have:=h.lt f hf;simp at hy;omega
 ·rcases A01.1 hf with e|e
  ·have:=h.lt f e;omega
  ·obtain rfl:=A1t.1 e;show a<a+1;omega
 ·obtain⟨h1,h2⟩:=h.l2 l hl;exact⟨oV,h2⟩
theorem Aow {lab:Int}(hT:TOK T)(hR:ROK u T.length R)(hF:FOK T F lab T.length)(h0:0<T.length)(h1:0<R.length)(h2:R.length<=6):Bn u T R F lab :=
 ⟨hT.att,hR.rel hT.le h2,hF.feat,h0,by have:=hT.le;omega,h1,h2,by have:=hF.len;have:=hT.le;omega,hF.l1,fun l hl=>(hF.l2 l hl).2⟩
def Xo (a:Option Addr)(c:Nat)(T:List (List UInt8×Nat)):Arr:=⟨.slice a T.length c,92,2,T.map D0⟩
def Uf (a:Option Addr)(c:Nat)(R:List Bk):Arr:=⟨.slice a R.length c,94,2,R.map Gb⟩
def Sr (a:Option Addr)(c:Nat)(F:List Ao):Arr:=⟨.slice a F.length c,144,3,F.map B6⟩
def Z9 (a:Option Addr)(c:Nat)(l:List Nat):Arr:=⟨.slice a l.length c,3,1,Ag l⟩
theorem Amn :(Xo a c T).At m0 m=Ae m0 m (.slice a T.length c) 92 2 (T.map D0):=rfl
theorem Aee :(Uf a c R).At m0 m=Ae m0 m (.slice a R.length c) 94 2 (R.map Gb):=rfl
theorem Xa :(Sr a c F).At m0 m=Ae m0 m (.slice a F.length c) 144 3 (F.map B6):=rfl
theorem Xf :(Z9 a c l).At m0 m=Ae m0 m (.slice a l.length c) 3 1 (Ag l):=rfl
theorem Adt (x:List UInt8×Nat):A3 2 [D0 x]:=by
 intro e he;simp at he;subst he;exact⟨rfl,fun y hy=>by simp[D0,A1e]at hy;rcases hy with rfl|rfl<;>rfl⟩
theorem Nk (x:Bk):A3 2 [Gb x]:=by
 intro e he;simp at he;subst he;exact⟨rfl,fun y hy=>by simp[Gb,A1e]at hy;rcases hy with rfl|rfl<;>rfl⟩
theorem Hu (x:Ao):A3 3 [B6 x]:=by
 intro e he;simp at he;subst he;exact⟨rfl,fun y hy=>by simp[B6,A1e]at hy;rcases hy with rfl|rfl|rfl<;>rfl⟩
end
section
variable {A T:List Nat}{i x:Nat}{listed:Array Bool}{o:Oper}{s0:S}
variable [Cc] [Dy]
section
variable {P:Program} {id:Nat} {ops:Array Oper} {dr:Bool} {Fin:S->PH->PH->Prop} {c:Cx} {Q:Exit->Act->World->Prop}
theorem Ob.append {l2:List Nat}:∀ {l1:List Nat} {s:S} {u m:PH},Ob P id ops dr (fun s u m=>Ob P id ops dr Fin l2 s u m) l1 s u m->Ob P id ops dr Fin (l1++l2) s u m
 |[],s,u,m,h=>by
  cases h with
  |nil h=>exact h
 |i::l1,s,u,m,h=>by
  cases h with
  |auto ho hg hd he hl=>exact .auto ho hg hd he hl.append
  |skip ho hg hd hl=>exact .skip ho hg hd hl.append
  |ask ho hg hd hv hs hal hw hl=>exact .ask ho hg hd hv hs hal hw hl.append
  |big ho hg hd hv hs hf hk hw hl=>exact .big ho hg hd hv hs hf hk hw fun v u' m' h1 h2=>(hl v u' m' h1 h2).append
theorem Ob.fin {Fin':S->PH->PH->Prop}(hf:∀ s u m,Fin s u m->Fin' s u m):∀ {l:List Nat} {s:S} {u m:PH},Ob P id ops dr Fin l s u m->Ob P id ops dr Fin' l s u m
 |[],s,u,m,h=>by
  cases h with
  |nil h=>exact .nil (hf _ _ _ h)
 |i::l1,s,u,m,h=>by
  cases h with
  |auto ho hg hd he hl=>exact .auto ho hg hd he (hl.fin hf)
  |skip ho hg hd hl=>exact .skip ho hg hd (hl.fin hf)
  |ask ho hg hd hv hs hal hw hl=>exact .ask ho hg hd hv hs hal hw (hl.fin hf)
  |big ho hg hd hv hs hf' hk hw hl=>exact .big ho hg hd hv hs hf' hk hw fun v u' m' h1 h2=>(hl v u' m' h1 h2).fin hf
structure H8 (ops:Array Oper)(listed:Array Bool)(T:List Nat):Prop where
 sz:listed.size=ops.size
 mem:∀ i,i<ops.size->(listed.getD i true=false↔i∈T)
 lt:∀ i∈T,i<ops.size
 nd:T.Nodup
 cl:Aco ops listed
theorem O5 :i∈Region.ready .any ops listed↔i<ops.size/\listed.getD i true=false/\∃ o,ops[i]?=some o/\∀ e∈o.after,Region.binds .any e=true->listed.getD e.on false=true:=by
 simp only[Region.ready,List.mem_filter,List.mem_range,A05,A21];refine and_congr_right fun hi=>and_congr_right fun _=>?_;have ho:ops[i]?=some ops[i]:=A2g hi;rw[ho];simp only[Option.map_some,A2y,Array.all_eq_true',A0t,exists_eq_left',A3o,A21];constructor
 ·intro h e he hb;rcases h e he with h|h
  ·rw[hb]at h;cases h
  ·exact h
 ·intro h e he;cases hb:Region.binds .any e with
  |false=>exact .inl rfl
  |true=>exact .inr (h e he hb)
theorem H8.no (h:H8 ops listed T)(hx:x∈T):listed.getD x false=true->False:=by
 intro hl;have hxl:=h.lt x hx;have:=(h.mem x hxl).2 hx;have h3:x<listed.size:=by have:=h.sz;omega
 simp only[A1f,A2g h3,A2y]at hl this;rw[this]at hl;cases hl
theorem H8.next {A B:List Nat}(h:H8 ops listed (A++i::B))(ho:ops[i]?=some o)(hpre:∀ e∈o.after,Region.binds .any e=true->listed.getD e.on false=true):H8 ops (listed.setIfInBounds i true) (A++B):=by
 obtain⟨hsz,hT,hTl,hnd,hcl⟩:=h;have hlt:i<listed.size:=by rw[hsz];exact hTl i mV
 have hnd':(A++B).Nodup/\i∉A++B:=by
  rw[A3w]at hnd⊢;simp only[A3p,A02,A01]at hnd⊢;obtain⟨n1,⟨n2,n3⟩,n4⟩:=hnd;exact⟨⟨n1,n3,fun x hx y hy=>n4 x hx y (.inr hy)⟩,fun h=>h.elim (fun h=>n4 i h i (.inl rfl) rfl) n2⟩
 refine⟨by simpa using hsz,fun j hj=>?_,fun j hj=>hTl j ?_,hnd'.1,?_⟩
 ·by_cases hji:j=i
  ·subst hji;simp only[A1f,A4b hlt,A2y];exact⟨fun h=>absurd h mV,fun h=>absurd h hnd'.2⟩
  ·have:=hT j hj;simp only[A1f,A2l (fun h=>hji h.symm)]at this⊢;rw[this];simp[hji]
 ·simp only[A01,A02]at hj⊢;rcases hj with h|h
  ·exact .inl h
  ·exact .inr (.inr h)
 ·intro j hj o' ho' e he hb;have keep:∀ k,listed.getD k false=true->(listed.setIfInBounds i true).getD k false=true:=by
   intro k hk;by_cases hki:k=i
   ·subst hki;simp only[A1f,A4b hlt,A2y]
   ·simp only[A1f,A2l (fun h=>hki h.symm)]at hk⊢;exact hk
  by_cases hji:j=i
  ·subst hji;rw[ho]at ho';obtain rfl:=A2d ho';exact keep _ (hpre e he hb)
  ·refine keep _ (hcl j ?_ o' ho' e he hb);simp only[A1f,A2l (fun h=>hji h.symm)]at hj⊢;exact hj
theorem H8.swaps (h:H8 ops listed T)(hA:∀ x∈A,x∈T)(ho:ops[i]?=some o)(hpre:∀ e∈o.after,Region.binds .any e=true->listed.getD e.on false=true)(hP:∀ x∈A,Eg ops s0 x i=true):∀ x∈A,Yv ops s0 x i=true:=by
 intro x hx;have hp:=hP x hx;unfold Eg at hp;simp only[A05,A3o]at hp;have hpi:∀ o',ops[i]?=some o'->∀ e∈o'.after,Region.binds .any e=true->listed.getD e.on false=true:=fun o' ho'=>by rw[ho]at ho';obtain rfl:=A2d ho';exact hpre
 rcases hp.2 with (h'|h')|h'
 ·exact (h.no (hA x hx) (Tn hpi h')).elim
 ·exact h'
 ·exact (h.no (hA x hx) (Aqq h.cl ops.size i hpi h')).elim
theorem H8.any {s0:S}(hL0:La s0)(hE:(A1q ops.size).all (Hq ops)=true)(hF:∀ s u m ρ a w,Fin s u m->Rel c s u m ρ a w->Q .normal a w){n:Nat}{T:List Nat}{listed:Array Bool}{s:S}{u m:PH}{ρ:Nat->Nat}{a:Act}{w:World}(h:H8 ops listed T)(hn:T.length=n)
 (hP:T.Pairwise (fun x y=>Eg ops s0 x y=true)) (hag:Ei ops s0 s) (hO:Ob P id ops true Fin T s u m) (hr:Rel c s u m ρ a w):Go.wpAny P .any ops Q n listed a w :=
 Ob.wpAny hL0 hE hF n T listed hn h.sz h.mem h.lt h.nd h.cl hP hag hO hr
theorem H8.perm {T T':List Nat}(h:H8 ops listed T)(hp:T.Perm T'):H8 ops listed T' :=
 ⟨h.sz,fun i hi=>(h.mem i hi).trans hp.mem_iff,fun i hi=>h.lt i (hp.mem_iff.2 hi),hp.nodup_iff.1 h.nd,h.cl⟩
theorem H8.first {t:Nat}(h:H8 ops listed (t::T))(hE:(A1q ops.size).all (Hq ops)=true)(hd:∀ x∈T,dir ops t x=false):t∈Region.ready .any ops listed:=by
 have hp:=h.lt t mV;refine O5.2 ⟨hp,(h.mem t hp).2 mV,ops[t],A2g hp,fun e he hb=>?_⟩;rw[A08]at hE;have hed:=hE t (by simpa using hp);unfold Hq at hed;rw[A2g hp]at hed;simp only[A08]at hed;have:=hed e (by simpa using he);simp only[hb,Bool.not_true,Bool.false_or,A05,A21]at this;have hlt:e.on<ops.size:=A68▸this.1;have hne:e.on≠t:=fun h=>by rw[h]at this;simp at this
 have hdir:dir ops t e.on=true:=by
  unfold dir;rw[A2g hp];simp only[List.any_eq_true,A05];exact⟨e,by simpa using he,hb,mV⟩
 cases hl:listed.getD e.on true with
 |true =>
  have h1:e.on<listed.size:=by have:=h.sz;omega
  simp only[A1f,A2g h1,A2y]at hl⊢;exact hl
 |false =>
  have hm:=(h.mem e.on hlt).1 hl;rcases A02.1 hm with hm|hm
  ·exact absurd hm hne
  ·rw[hd _ hm]at hdir;cases hdir
theorem Dc {x y:Nat}(h:Eg ops s0 x y=true):dir ops x y=false:=by
 unfold Eg at h;simp only[A05,A21]at h;exact h.1.1
theorem Ob.wpAny2 (hL0:La s0)(hE:(A1q ops.size).all (Hq ops)=true)(hF:∀ s u m ρ a w,Fin s u m->Rel c s u m ρ a w->Q .normal a w){p q:Nat}{post:List Nat}(hpost:∀ y∈post,bef ops ops.size y p=true)(hpq:dir ops p q=false) :
 ∀ (n:Nat) (pre:List Nat) (listed:Array Bool) {s:S} {u m:PH} {ρ:Nat->Nat} {a:Act} {w:World},pre.length+(post.length+2)=n->H8 ops listed (pre++p::q::post) ->
  (pre++p::post).Pairwise (fun x y=>Eg ops s0 x y=true)->(pre++q::post).Pairwise (fun x y=>Eg ops s0 x y=true)->Ei ops s0 s ->
  Ob P id ops true (fun s u m=>Ob P id ops true Fin (p::q::post) s u m/\Ob P id ops true Fin (q::p::post) s u m) pre s u m->Rel c s u m ρ a w->Go.wpAny P .any ops Q n listed a w:=by
 intro n;induction n with
 |zero=>intro pre listed s u m ρ a w hlen;omega
 |succ n ih =>
  intro pre listed s u m ρ a w hlen hLeft hP1 hP2 hag hO hr;refine⟨fun hnil=>?_,fun i hi=>?_⟩
  ·exfalso;cases pre with
   |nil =>
    have:=hLeft.first hE fun x hx=>by
     rcases A02.1 hx with rfl|hx
     ·exact hpq
     ·exact Dc (A2h hP1 hx)
    rw[hnil]at this;cases this
   |cons t T' =>
    have:=H8.first (t:=t) (T:=T'++p::q::post) hLeft hE fun x hx=>by
     simp only[A01,A02]at hx;rcases hx with hx|rfl|rfl|hx
     ·exact Dc (A2h hP1 (by simp[hx]))
     ·exact Dc (A2h hP1 mV)
     ·exact Dc (A2h hP2 mV)
     ·exact Dc (A2h hP1 (by simp[hx]))
    rw[hnil]at this;cases this
  ·obtain⟨h1,h2,o,ho,hpre⟩:=O5.1 hi;have hm:=(hLeft.mem i h1).1 h2;simp only[A01,A02]at hm;rcases hm with hm|hm|hm|hm
   ·obtain⟨A,B,rfl⟩:=List.append_of_mem hm;have hLeft':H8 ops listed (A++i::(B++p::q::post)):=by
     rw[A1j]at hLeft;exact hLeft
    have hP1':(A++i::(B++p::post)).Pairwise (fun x y=>Eg ops s0 x y=true):=by
     rw[A1j]at hP1;exact hP1
    have hP2':(A++i::(B++q::post)).Pairwise (fun x y=>Eg ops s0 x y=true):=by
     rw[A1j]at hP2;exact hP2
    have hsw:=hLeft'.swaps (A:=A) (s0:=s0) (fun x hx=>by simp[hx]) ho hpre fun x hx=>(A3a.1 hP1').2.2 x hx i mV;have hO':=Ob.bubble hL0 A hsw hr.lv hag hO;refine wpOp_mono (fun a' w' ⟨s',u',m',ρ',r1,ra,r2⟩=>?_) (hO'.step (Q:=Q) hr);refine ih (A++B) _ (by simp at hlen⊢;omega) (by rw[A1j];exact hLeft'.next ho hpre) ?_ ?_ (hag.trans ra) r2 r1
    ·rw[A1j];exact hP1'.sublist (A36 (A4d i _) A)
    ·rw[A1j];exact hP2'.sublist (A36 (A4d i _) A)
   ·subst hm;have hsw:=hLeft.swaps (A:=pre) (s0:=s0) (fun x hx=>by simp[hx]) ho hpre fun x hx=>(A3a.1 hP1).2.2 x hx i mV;have hO':=Ob.bubble hL0 pre hsw hr.lv hag (Ob.append (l2:=i::q::post) (hO.fin fun s u m h=>h.1));refine wpOp_mono (fun a' w' ⟨s',u',m',ρ',r1,ra,r2⟩=>?_) (hO'.step (Q:=Q) hr);exact (hLeft.next ho hpre).any hL0 hE hF gV hP2 (hag.trans ra) r2 r1
   ·subst hm;have hLeft':H8 ops listed (pre++i::p::post):=hLeft.perm ((List.Perm.swap i p post).append_left pre);have hsw:=hLeft'.swaps (A:=pre) (s0:=s0) (fun x hx=>by simp[hx]) ho hpre fun x hx=>(A3a.1 hP2).2.2 x hx i mV;have hO':=Ob.bubble hL0 pre hsw hr.lv hag (Ob.append (l2:=i::p::post) (hO.fin fun s u m h=>h.2));refine wpOp_mono (fun a' w' ⟨s',u',m',ρ',r1,ra,r2⟩=>?_) (hO'.step (Q:=Q) hr);exact (hLeft'.next ho hpre).any hL0 hE hF gV hP1 (hag.trans ra) r2 r1
   ·exfalso;exact hLeft.no (x:=p) mV (Aqq hLeft.cl ops.size i (fun o' ho'=>by rw[ho]at ho';obtain rfl:=A2d ho';exact hpre) (hpost i hm))
def Qi (P:Program)(id:Nat)(ops:Array Oper):List Nat->S->Option S
 |[],s=>some s
 |i::l,s=>match ops[i]? with
  |some o=>match Fw s o with
   |true=>match gv s ops o with
    |some true=>match eff P (id*1000+i) s o.op with
     |some (x,hw)=>Qi P id ops l ((s.put o.dst x).setb hw)
     |none=>none
    |some false=>Qi P id ops l (s.put o.dst (.v undef))
    |none=>none
   |false=>none
  |none=>none
theorem Ob.autos:∀ {l:List Nat} {s s':S} {u m:PH},Qi P id ops l s=some s'->Fin s' u m->Ob P id ops dr Fin l s u m
 |[],s,s',u,m,h,hf=>by
  unfold Qi at h;cases h;exact .nil hf
 |i::l,s,s',u,m,h,hf=>by
  unfold Qi at h;split at h
  ·rename_i o ho;split at h
   ·rename_i hd;split at h
    ·rename_i hg;split at h
     ·rename_i x hw he;exact .auto ho hg hd he (Ob.autos h hf)
     ·cases h
    ·rename_i hg;exact .skip ho hg hd (Ob.autos h hf)
    ·cases h
   ·cases h
  ·cases h
def Ajo (ops:Array Oper)(s:S)(pre:List Nat)(p q:Nat)(post:List Nat):Bool :=
 A17 (pre.length+(post.length+2)) ops.size&&(A1q ops.size).all (fun i=>(pre++p::q::post).contains i)&&(pre++p::q::post).all (fun i=>A8g i ops.size)&&Lk ops s (pre++p::post)&&Lk ops s (pre++q::post) &&
  (A1q ops.size).all (Hq ops)&&post.all (fun y=>bef ops ops.size y p) && !dir ops p q && !A17 p q
end
section
variable {P:Program} {fn:Func} {Post:B0}
theorem Fb {ops:Array Oper}{s:S}(h:T.Pairwise (fun x y=>Eg ops s x y=true)):T.Nodup:=by
 refine h.imp fun {x y} hxy e=>?_;unfold Eg at hxy;subst e;simp at hxy
theorem Sym.reg_two (hm:P.follows .mixedOrders=true){id:Nat}{ops:Array Oper}{pre post:List Nat}{p q:Nat}{s:S}(hB:Ajo ops s pre p q post=true){k:List KI}{u m:PH}
 (h:Ob P id ops true (fun s u m=>Ob P id ops true (Oq P fn Post k) (p::q::post) s u m/\Ob P id ops true (Oq P fn Post k) (q::p::post) s u m) pre s u m):Oq P fn Post (.code (.region id ops true)::k) s u m:=by
 intro c ρ a w hm0 hr;simp only[Hs,Exit.then];unfold Ajo at hB;simp only[A05,A21]at hB;obtain⟨⟨⟨⟨⟨⟨⟨⟨b1,b2⟩,b3⟩,b4⟩,b5⟩,b6⟩,b7⟩,b8⟩,b9⟩:=hB;have b1:=A1h b1;rw[A08]at b2 b3 b7;have P1:=D4 b4;have P2:=D4 b5;have n1:=Fb P1;have n2:=Fb P2;have hne:p≠q:=fun e=>by rw[e]at b9;simp at b9
 refine wp_region_any hm ?_;refine Ob.wpAny2 (c:=c) hr.lv b6 (fun s u m ρ a w hf hr=>hf c ρ a w hm0 hr) b7 b8 _ pre _ b1 ⟨mV,fun i hi=>?_,fun i hi=>A68▸b3 i hi,?_,fun i hi=>?_⟩ P1 P2 (Ei.refl _ _) h hr.drew
 ·have:=b2 i (by simpa using hi);rw[List.contains_iff_mem]at this;simp only[A1f,Array.getElem?_replicate,hi,if_true,A2y];exact⟨fun _=>this,fun _=>trivial⟩
 ·rw[A3w]at n1 n2⊢;simp only[A3p,A02]at n1 n2⊢;obtain⟨a1,⟨a2,a3⟩,a4⟩:=n1;obtain⟨c1,⟨c2,c3⟩,c4⟩:=n2;refine⟨a1,⟨fun e=>e.elim hne a2,c2,c3⟩,fun x hx y hy=>?_⟩;rcases hy with rfl|rfl|hy
  ·exact a4 x hx _ (.inl rfl)
  ·exact c4 x hx _ (.inl rfl)
  ·exact a4 x hx _ (.inr hy)
 ·exfalso;simp only[A1f]at hi;by_cases hlt:i<ops.size
  ·simp[hlt]at hi
  ·rw[Array.getElem?_eq_none gV]at hi;simp at hi
def Am8 (P:Program)(pre:List Nat)(p q:Nat)(post:List Nat)(st:List KI×S):Bool:=match st with
 |(.code (.region id ops true)::k,s)=>Ajo ops s pre p q post&&(Qi P id ops pre s).isSome
 |_=>false
def Kz (P:Program)(pre l:List Nat)(st:List KI×S):List KI×S:=match st with
 |(.code (.region id ops true)::k,s)=>match Qi P id ops pre s with
  |some s'=>(.reg id ops true l::k,s')
  |none=>st
 |_=>st
end
section rules
variable {P:Program} [Ba P] {fn:Func} {Post:B0} {st:List KI×S} {u m:PH}
theorem G.both (pre:List Nat)(p q:Nat)(post:List Nat)(h:Am8 P pre p q post (adv P st)=true)(k1:G P fn Post (Kz P pre (p::q::post) (adv P st)) u m)(k2:G P fn Post (Kz P pre (q::p::post) (adv P st)) u m):G P fn Post st u m:=by
 refine G.stp ⟨?_⟩;generalize adv P st=st' at h k1 k2;unfold Am8 at h;split at h
 ·rename_i id ops k s;rw[A05]at h;obtain⟨h1,h2⟩:=h;obtain⟨s',hs'⟩:=Option.isSome_iff_exists.1 h2;have e:∀ l,Kz P pre l (.code (.region id ops true)::k,s)=(.reg id ops true l::k,s'):=fun l=>by unfold Kz;simp only[hs']
  rw[e]at k1 k2;exact Sym.reg_two Ba.mx h1 (Ob.autos hs' ⟨k1.out,k2.out⟩)
 ·cases h
end rules
end
section
variable {a:Act}{i:Nat}{o:Oper}{s:S}{w w':World}
structure Awz (F:Fence):Prop where
 fn:∀ f,F.fn f
 dep:F.depth.isSome=false
 calls:∀ {P:Program} {f:FuncId} {args:Array Value} {w:World} {R:Ending->World->Prop},Calls P f args w R->CallsIn F 0 P f args w R
theorem Asm:Awz Fence.wide:=⟨fun _=>trivial,rfl,fun h=>callsIn_wide.2 h⟩
theorem Avo (l:Nat):Awz (Fence.wide.inRound l):=⟨fun _=>trivial,rfl,fun h=>(callsIn_wide (n:=0)).2 h⟩
def Av8:Op->Bool
 |.defer _=>true
 |_=>false
def Arq (ops:Array Oper):Bool:=ops.toList.all fun o=>!Av8 o.op
theorem Art {ops:Array Oper}(h:Arq ops=true)(ho:ops[i]?=some o):∀ c,o.op≠.defer c:=fun c e=>by
 unfold Arq at h;rw[A08]at h;have:=h o (Array.mem_toList_iff.2 (Array.mem_of_getElem? ho));rw[e]at this;simp[Av8]at this
section
variable {P:Program} {id:Nat} {ops:Array Oper} {dr:Bool} {Fin:S->PH->PH->Prop} {c:Cx} {Q:Exit->Act->World->Prop} {F:Fence}
theorem Ati {y:Value}{K:Act->World->Prop}(hF:Awz F)(hn:∀ c,o.op≠.defer c)(h:Aph P a o w y w')(hk:K (a.put o.dst y) w'):o.wpIn F 0 P a w K Q:=by
 unfold Oper.wpIn;refine⟨fun f _=>hF.fn f,?_⟩;rw[Oper.semAt_plain F _ _ hn];rcases h with h|⟨h,rfl⟩<;>rw[h]<;>exact hk
theorem Aw8 {a:Act}{o:Oper}{w:World}{s:S}{u m:PH}{ρ:Nat->Nat}{K:Value->World->Prop}{K':Act->World->Prop}(hF:Awz F)(hn:∀ c,o.op≠.defer c)(hr:Rel c s u m ρ a w)(hv:Ko s o.op=true)(hs:Ls o.op=true)
 (h:D3 P (Kg s) o w K) (hk:∀ v w',K v w'->K' (a.put o.dst v) w'):o.wpIn F 0 P a w K' Q:=by
 unfold Oper.wpIn;refine⟨fun f _=>hF.fn f,?_⟩;rw[Oper.semAt_plain F _ _ hn,Nc hr (I0 hs) hv];unfold D3 at h;split at h
 ·rename_i v w' e;rw[e];exact hk _ _ h
 ·rename_i w' e;rw[e];exact hk _ _ h
 ·rename_i f args w' e;rw[e];refine⟨fun hh=>(by rw[hF.dep]at hh;cases hh),hF.calls (Calls.mono h fun e' w'' he=>?_)⟩;obtain⟨v,rfl,h2⟩:=he;exact hk _ _ h2
 ·exact h.elim
theorem Rel.after {u m u' m':PH}{ρ:Nat->Nat}(hr:Rel c s u m ρ a w)(g1:Bx u' m' w')(g2:Bz u m w u' m' w'){d:Option Nat}(hd:∀ e,d=some e->e<s.n)(v:Value):Rel c (s.put d (.v v)) u' m' ρ (a.put d v) w':=by
 refine Rel.put (x:=.v v) ?_ (fun _=>rfl) mV hd;refine⟨hr.sz,hr.tm,hr.df.of fun r e _ hu hm=>⟨by rw[g2.old _ (Bw e) hm];exact e,by rw[g2.us _ (Bw e)];exact hu,g2.ms _ (Bw e) hm⟩,fun k b hb=>?_,hr.inj,hr.lv,g1,hr.gr.trans g2⟩;obtain⟨e1,e2,e3,e4⟩:=hr.box k b hb;have hlt:ρ k<w.heap.size:=by obtain⟨cs,e,_⟩:=e1;exact Bw e
 refine⟨?_,e2,?_,?_⟩
 ·rw[g2.old _ hlt e4];exact e1
 ·rw[g2.us _ hlt];exact e3
 ·exact g2.ms _ hlt e4
theorem Ob.wpOpsIn (hF:Awz F)(hnd:Arq ops=true){rest:List Nat}(hfin:∀ s u m ρ a w,Fin s u m->Rel c s u m ρ a w->Go.wpOpsIn F 0 P ops Q rest a w) :
 ∀ {l:List Nat} {s:S} {u m:PH} {ρ:Nat->Nat} {a:Act} {w:World},Ob P id ops dr Fin l s u m->Rel c s u m ρ a w->Go.wpOpsIn F 0 P ops Q (l++rest) a w
 |[],s,u,m,ρ,a,w,h,hr=>by
  cases h with
  |nil h=>exact hfin _ _ _ _ _ _ h hr
 |i::l,s,u,m,ρ,a,w,h,hr=>by
  rw[List.cons_append,wpOpsIn_cons];cases h with
  |auto ho hg hd he hl =>
   simp only[wpOpIn,ho,L0 hr hg,if_true];obtain⟨ρ',w',y,h1,h2⟩:=Afa (P:=P) hr he (Wt hd);exact Ati hF (Art hnd ho) h1 (Ob.wpOpsIn hF hnd hfin hl h2)
  |skip ho hg hd hl =>
   simp only[wpOpIn,ho,L0 hr hg,if_false,A3c];exact⟨fun f _=>hF.fn f,Ob.wpOpsIn hF hnd hfin hl (hr.put (x:=.v undef) (fun _=>rfl) mV (Wt hd))⟩
  |ask ho hg hd hv hs hal hw hl =>
   simp only[wpOpIn,ho,L0 hr hg,if_true];refine Ati hF (Art hnd ho) (.inl ?_) (Ob.wpOpsIn hF hnd hfin hl (hr.put (fun _=>rfl) mV (Wt hd)));rw[Nc hr (I0 hs) hv];exact hw w (fun _=>⟨hr.gd.pu,hr.gd.pm⟩)
  |big ho hg hd hv hs hf hk hw hl =>
   simp only[wpOpIn,ho,L0 hr hg,if_true];refine Aw8 hF (Art hnd ho) hr hv hs (hw w hr.gd) fun v w' ⟨u',m',g1,g2,g3⟩=>?_;exact Ob.wpOpsIn hF hnd hfin (hl v u' m' (g2.le hr.gd.pu) g3) (hr.after g1 g2 (Wt hd) v)
end
def yv (s:S)(ops:Array Oper)(i:Nat):Option (Nat×List Value):=match ops[i]? with
 |some o=>match Fw s o&&(Ko s o.op&&Ls o.op) with
  |true=>match gv s ops o with
   |some true=>match o.op with
    |.call c=>match c.callee with
     |.value f=>match Kg s f with
      |.func (.yield l) first cap=>some (l,first.toList++c.args.toList.map (Kg s))
      |_=>none
     |_=>none
    |_=>none
   |_=>none
  |false=>none
 |none=>none
def ysk (s:S)(ops:Array Oper)(i:Nat):Bool:=match ops[i]? with
 |some o=>match Fw s o with
  |true=>match gv s ops o with
   |some false=>true
   |_=>false
  |false=>false
 |none=>false
def At1 (P:Program)(l:Nat)(args:List Value)(u m:PH)(K:Value->PH->PH->Prop):Prop :=
 ∀ w,Bx u m w->YieldAt Fence.wide 0 P l args.toArray w fun e w'=>∃ v u' m',e=.returned v/\Bx u' m' w'/\Bz u m w u' m' w'/\K v u' m'
theorem Ayd {ops:Array Oper}{i l:Nat}{args:List Value}(h:yv s ops i=some (l,args)):∃ o,ops[i]?=some o/\gv s ops o=some true/\Fw s o=true/\Ko s o.op=true/\Ls o.op=true /\
 ∀ (P:Program) (w:World),(execOp (Kg s) o).run P w=(Bcx l args.toArray).run P w:=by
 unfold yv at h;split at h
 ·rename_i o ho;split at h
  ·rename_i hc;simp only[A05]at hc;split at h
   ·rename_i hg;split at h
    ·rename_i c hop;split at h
     ·rename_i f hcal;split at h
      ·rename_i l' first cap he
       simp only[A0t,A1r]at h;obtain⟨rfl,rfl⟩:=h;refine⟨o,ho,hg,hc.1,hc.2.1,hc.2.2,fun P w=>?_⟩;obtain⟨dst,opp,type,pos,after,guard⟩:=o;simp only at hop;subst hop;have ea:(first.toList++c.args.toList.map (Kg s)).toArray=first++c.args.map (Kg s):=by apply A4i;simp
       rw[ea];simp[execOp,resolve,hcal,he,Deferred.ofValue,invoke]
      ·cases h
     ·cases h
    ·cases h
   ·cases h
  ·cases h
 ·cases h
theorem Axn {ops:Array Oper}(h:ysk s ops i=true):∃ o,ops[i]?=some o/\gv s ops o=some false/\Fw s o=true:=by
 unfold ysk at h;split at h
 ·rename_i o ho;split at h
  ·rename_i hd;split at h
   ·rename_i hg;exact⟨o,ho,hg,hd⟩
   ·cases h
  ·cases h
 ·cases h
def yB (pre:List Nat)(i:Nat)(post:List Nat)(st:List KI×S):Bool:=match st.1 with
 |.code (.region _ ops false)::_=>A17 ops.size (pre.length+1+post.length)&&(A1q ops.size).zipIdx.all (fun x=>(pre++i::post)[x.2]? == some x.1)&&Arq ops
 |_=>false
def A0b (st:List KI×S):Array Oper:=match st.1 with
 |.code (.region _ ops false)::_=>ops
 |_=>#[]
def yS (pre:List Nat)(J:S->PH->PH->Prop)(st:List KI×S):List KI×S:=match st.1 with
 |.code (.region id ops false)::k=>(.reg id ops false pre::.lp J::k,st.2)
 |_=>st
def Avv (i:Nat)(post:List Nat)(st:List KI×S)(s:S)(v:Value):List KI×S:=match st.1 with
 |.code (.region id ops false)::k=>match ops[i]? with
  |some o=>(.reg id ops false post::k,s.put o.dst (.v v))
  |none=>st
 |_=>st
section rules
variable {P:Program} [Ba P] {fn:Func} {Post:B0} {st:List KI×S} {u m:PH}
theorem G.yreg (pre:List Nat)(i:Nat)(post:List Nat)(h:yB pre i post (Aqo P 200 st)=true)
 (kk:∀ J:S->PH->PH->Prop,
  (∀ s' u' m',ysk s' (A0b (Aqo P 200 st)) i=true->G P fn Post (Avv i post (Aqo P 200 st) s' undef) u' m'->J s' u' m') ->
  (∀ s' u' m' l args (K:Value->PH->PH->Prop),yv s' (A0b (Aqo P 200 st)) i=some (l,args)->At1 P l args u' m' K->(∀ v u'' m'',PH.le u' u''->K v u'' m''->G P fn Post (Avv i post (Aqo P 200 st) s' v) u'' m'')->J s' u' m') ->
  G P fn Post (yS pre J (Aqo P 200 st)) u m):G P fn Post st u m:=by
 refine⟨Nf 200 st ?_⟩;generalize Aqo P 200 st=st' at h kk;obtain⟨ks,s⟩:=st';unfold yB at h;simp only at h;split at h
 ·rename_i id ops k;simp only[A05]at h;obtain⟨⟨h1,h2⟩,hnd⟩:=h;have hl:A1q ops.size=pre++i::post:=by
   refine List.ext_getElem? fun j=>?_;rw[A08]at h2;by_cases hj:j<ops.size
   ·have:=h2 (j,j) (by
     refine List.mem_of_getElem? (i:=j) ?_;rw[List.getElem?_zipIdx];simp[hj])
    simp only[beq_iff_eq]at this;rw[this];simp[hj]
   ·have e1:=A1h h1;rw[A1g gV,A1g gV]
  intro c ρ a w hm0 hr;simp only[Hs,Exit.then];refine (wpIn_wide (n:=0)).1 (wpIn_region ?_);rw[hl];have hob:=(kk (fun s' u' m'=>(∃ o,ops[i]?=some o/\gv s' ops o=some false/\Fw s' o=true/\Ob P id ops false (Oq P fn Post k) post (s'.put o.dst (.v undef)) u' m') \/
   ∃ (o:Oper) (l:Nat) (args:List Value) (K:Value->PH->PH->Prop),ops[i]?=some o/\gv s' ops o=some true/\Fw s' o=true/\Ko s' o.op=true/\Ls o.op=true/\(∀ (P:Program) (w:World),(execOp (Kg s') o).run P w=(Bcx l args.toArray).run P w)/\At1 P l args u' m' K /\
    ∀ v u'' m'',PH.le u' u''->K v u'' m''->Ob P id ops false (Oq P fn Post k) post (s'.put o.dst (.v v)) u'' m'')
   (fun s' u' m' hs hg=>by
    obtain⟨o,ho,e1,e2⟩:=Axn hs;have ho:ops[i]?=some o:=ho;have:=hg.out;simp only[Avv]at this;rw[ho]at this;exact .inl ⟨o,ho,e1,e2,this⟩)
   (fun s' u' m' l args K hy hc hg=>by
    obtain⟨o,ho,e1,e2,e3,e4,e5⟩:=Ayd hy;have ho:ops[i]?=some o:=ho;refine .inr ⟨o,l,args,K,ho,e1,e2,e3,e4,e5,hc,fun v u'' m'' h1 h2=>?_⟩;have:=(hg v u'' m'' h1 h2).out;simp only[Avv]at this;rw[ho]at this;exact this)).out
  refine Ob.wpOpsIn Asm hnd (fun s1 u1 m1 ρ1 a1 w1 hf hr1=>?_) hob hr;obtain⟨s2,u2,m2,ρ2,hr2,hJ⟩:=hf c ρ1 a1 w1 hm0 hr1;rw[wpOpsIn_cons];have fin:∀ (s u m ρ a w),Oq P fn Post k s u m->Rel c s u m ρ a w->Go.wpOpsIn Fence.wide 0 P ops (Hs P fn Post c k) [] a w:=fun s u m ρ a w hf hr=>hf c ρ a w hm0 hr;rcases hJ with ⟨o,ho,e1,e2,e3⟩|⟨o,l,args,K,ho,e1,e2,e3,e4,e5,e6,e7⟩
  ·simp only[wpOpIn,ho,L0 hr2 e1,if_false,A3c];refine⟨fun f _=>trivial,?_⟩;have:=Ob.wpOpsIn Asm hnd fin e3 (hr2.put (x:=.v undef) (fun _=>rfl) mV (Wt e2));rwa[A1i]at this
  ·simp only[wpOpIn,ho,L0 hr2 e1,if_true];unfold Oper.wpIn;refine⟨fun f _=>trivial,?_⟩;rw[Oper.semAt_plain _ _ _ (Art hnd ho),Nc hr2 (I0 e4) e3,e5];obtain⟨fn',tmps,assign,body,hy,hR⟩:=e6 w1 hr2.gd;rw[hy];refine⟨fun hh=>(by cases hh),hR.mono fun e w' he=>?_⟩;obtain⟨v,u',m',rfl,g1,g2,g3⟩:=he;have:=Ob.wpOpsIn Asm hnd fin (e7 v u' m' (g2.le hr2.gd.pu) g3) (hr2.after g1 g2 (Wt e2) v);rwa[A1i]at this
 ·cases h
theorem Az6 {F:Fence}(hF:Awz F){id:Nat}{ops:Array Oper}(hnd:Arq ops=true){J:S->PH->PH->Prop}{s:S}{c:Cx}{ρ:Nat->Nat}{a:Act}{w:World}{Q:Exit->Act->World->Prop}
 (h:G P fn Post ([.reg id ops false (A1q ops.size),.lp J],s) u m) (hr:Rel c s u m ρ a w) (hm0:c.m0=Post.m0) (hQ:∀ s u m ρ a w,Rel c s u m ρ a w->J s u m->Q .normal a w):(Code.region id ops false).wpIn F 0 P Q a w:=by
 refine wpIn_region ?_;have:=Ob.wpOpsIn (rest:=[]) hF hnd (Q:=Q) (fun s1 u1 m1 ρ1 a1 w1 hf hr1=>by
  obtain⟨s2,u2,m2,ρ2,hr2,hJ⟩:=hf c ρ1 a1 w1 hm0 hr1;exact hQ _ _ _ _ _ _ hr2 hJ) h.out hr
 rwa[A1i]at this
end rules
def S.ofT (n:Nat)(T:List (Nat×Value)):S:={ n:=n,tm:=fun d=>match T.find? (fun x=>A17 x.1 d) with|some x=>.v x.2|none=>.junk,hp:=fun _=>none }
theorem Rel.start {u m:PH}(h:Bx u m w){tmps:Array Value}{T:List (Nat×Value)}(hT:∀ x∈T,tmps[x.1]?=some x.2):Rel ⟨w,u,m⟩ (S.ofT tmps.size T) u m (fun _=>0) { tmps:=tmps,defers:=[] } w:=by
 refine⟨rfl,fun d hd=>?_,Aa9.nil _ _ _ _,fun k b hb=>(by cases hb),fun k j hk=>absurd rfl hk,⟨fun d k off hd=>?_,fun j b k off hb=>(by cases hb)⟩,h,⟨A0w _,fun _ _ _=>rfl,fun _ _=>rfl,fun _ _ h=>h,⟨rfl,rfl⟩,fun _=>⟨rfl,A0w _⟩⟩⟩
 ·unfold S.ofT at hd⊢;simp only at hd⊢;split
  ·rename_i x hx;have:=hT x (List.mem_of_find?_eq_some hx);have e:=List.find?_some hx;rw[<-A1h e];exact this
  ·rename_i hx;rw[hx]at hd;exact absurd rfl hd
 ·unfold S.ofT at hd;simp only at hd;split at hd<;>cases hd
theorem Bx.putO {u m:PH}(h:Bx u m w){g:Nat}{o o':Obj}(hg:m g=some o)(hn:R8 o'=true):Bx u (m.upd g o') (w.putObj g o')/\Bz u m w u (m.upd g o') (w.putObj g o'):=by
 have:=h.setO hg hn;rwa[show Qu w g o'=w.putObj g o' from rfl]at this
end
section
variable {a:Act}{d0:Deferred}{dl:List Deferred}{t:Array Value}
section
variable [Fl:Cc] {P:Program} {c:Cx} {s:S} {u m u' m':PH} {ρ:Nat->Nat} {w w':World}
theorem Rel.grow [Dy](hr:Rel c s u m ρ a w)(g1:Bx u' m' w')(g2:Bz u m w u' m' w'):Rel c s u' m' ρ a w':=by
 refine⟨hr.sz,hr.tm,hr.df.of fun r e _ hu hm=>⟨by rw[g2.old _ (Bw e) hm];exact e,by rw[g2.us _ (Bw e)];exact hu,g2.ms _ (Bw e) hm⟩,fun k b hb=>?_,hr.inj,hr.lv,g1,hr.gr.trans g2⟩;obtain⟨e1,e2,e3,e4⟩:=hr.box k b hb;have hlt:ρ k<w.heap.size:=by obtain⟨cs,e,_⟩:=e1;exact Bw e
 refine⟨?_,e2,?_,?_⟩
 ·rw[g2.old _ hlt e4];exact e1
 ·rw[g2.us _ hlt];exact e3
 ·exact g2.ms _ hlt e4
theorem Rel.grow0 (hr:Rel c s u m ρ a w)(g1:Bx u' m' w')(g2:Bz u m w u' m' w'):Rel c s u' m' ρ a w':=hr.grow g1 g2
theorem Rel.unbase [Bs:Dy](hr:Rel c s u m ρ { tmps:=t,defers:=d0::dl } w)(hb:Bs.dl = [d0])(hm:Zu d0=false):@Rel Fl Dy.no c s u m ρ { tmps:=t,defers:=dl } w:=by
 refine @Rel.mk Fl Dy.no c s u m ρ { tmps:=t,defers:=dl } w hr.sz hr.tm ?_ hr.box hr.inj hr.lv hr.gd hr.gr;obtain⟨ds,h1,h2,h2',h3⟩:=hr.df;rw[A40,if_neg (by simp[hm])]at h2;rw[A40,if_pos (by simp[hm]),hb]at h2';exact⟨ds,h1,h2,(A8w h2').2,h3⟩
theorem Rel.rebase (hr:Rel c s u m ρ { tmps:=t,defers:=dl } w)(hm:Zu d0=false):@Rel Fl ⟨[d0]⟩ c s u m ρ { tmps:=t,defers:=d0::dl } w:=by
 refine @Rel.mk Fl ⟨[d0]⟩ c s u m ρ { tmps:=t,defers:=d0::dl } w hr.sz hr.tm ?_ hr.box hr.inj hr.lv hr.gd hr.gr;obtain⟨ds,h1,h2,h2',h3⟩:=hr.df;refine⟨ds,h1,?_,?_,h3⟩
 ·rw[A40,if_neg (by simp[hm])];exact h2
 ·rw[A40,if_pos (by simp[hm]),h2'];rfl
theorem Rel.leavesV {fn:Func}{R:Ending->World->Prop}{t:Array Value}:∀ {dl:List Deferred} {w':World},Rel c s u m ρ { tmps:=t,defers:=dl } w' ->
 (∀ w'',Rel c s u m ρ { tmps:=t,defers:=[] } w''->∃ v,(results fn t).run P w''=.ok v w''/\R (.returned v) w'')->LeavesInM Fence.wide 1 P fn t R dl .returning w'
 |[],w',hr,hv=>by
  obtain⟨v,h1,h2⟩:=hv w' hr;exact⟨v,h1,h2⟩
 |d::dl,w',hr,hv=>by
  obtain⟨r,w1,h1,h2,h3⟩:=hr.shut (P:=P) hr.marks;exact⟨mV,.inl ⟨r,w1,h1,h2,Rel.leavesV h3 hv⟩⟩
theorem Rel.fin0 [Ba P]{fn:Func}{Post:B0}{l:List Value}{m'':PH}(h:Rel c s u m ρ a w)(e1:Asn P s m fn.results.toList l)(e2:PH.le m'' m)(e3:Post.post (Ad5 l) u m''):∃ v,(results fn a.tmps).run P w=.ok v w/\Alp c Post.post (.returned v) w :=
 ⟨_,Ar8 h e1,_,_,_,rfl,(h.less e2).gd,(h.less e2).gr,e3⟩
def Avc (P:Program)(f:FuncId)(args:List Value)(u m:PH)(K:PH->PH->Prop):Prop:=∀ w,Bx u m w->CallsDIn Fence.wide 0 P f args.toArray .returning w fun e md w'=>md=.returning/\∃ v u' m',e=.returned v/\Bx u' m' w'/\Bz u m w u' m' w'/\K u' m'
theorem Rel.leavesD [Bs:Dy]{fn:Func}{R:Ending->World->Prop}{t:Array Value}{d0:Deferred}(hb:Bs.dl = [d0]){fv:Fn}{cap:Array Value}{f:FuncId}{args:List Value}{K:PH->PH->Prop}(ht:d0.target=.fn fv cap)
 (hi:∀ w,(invoke d0.target d0.args).run P w=.ok (.enter f args.toArray) w) (hc:Avc P f args u m K)
 (hk:∀ u' m' w',PH.le u u'->K u' m'->@Rel Fl Dy.no c s u' m' ρ { tmps:=t,defers:=[] } w'->∃ v,(results fn t).run P w'=.ok v w'/\R (.returned v) w') :
 ∀ {dl:List Deferred} {w:World},Rel c s u m ρ { tmps:=t,defers:=dl } w->LeavesInM Fence.wide 1 P fn t R dl .returning w
 |[],w,hr=>by
  obtain⟨_,_,_,h,_⟩:=hr.df;rw[hb]at h;cases h
 |d::dl,w,hr=>by
  cases hm:Zu d with
  |true =>
   obtain⟨r,w',h1,h2,h3⟩:=hr.shut (P:=P) hm;exact⟨mV,.inl ⟨r,w',h1,h2,Rel.leavesD hb ht hi hc hk h3⟩⟩
  |false =>
   have hd:d=d0:=by
    obtain⟨_,_,_,h,_⟩:=hr.df;rw[A40,if_pos (by simp[hm]),hb]at h;exact (A8w h).1
   subst hd;refine⟨mV,.inr ⟨(fun h=>by cases h),fv,cap,f,args.toArray,ht,hi w,fun _ _=>trivial,?_⟩⟩;refine (hc w hr.gd).mono ?_;rintro e md w' ⟨rfl,v,u',m',rfl,g1,g2,g3⟩;have hr':=Rel.grow0 (hr.unbase hb hm) g1 g2;exact Rel.leavesV hr' fun w'' h''=>hk u' m' w'' (g2.le hr.gd.pu) g3 h''
end
section
variable [Fl:Cc] {P:Program} [Ba P] {fn:Func} {Post:B0} {st:List KI×S} {u m:PH}
theorem G.retD [Bs:Dy]{d0:Deferred}(hb:Bs.dl = [d0]){fv:Fn}{cap:Array Value}{f:FuncId}{args:List Value}{K:PH->PH->Prop}(ht:d0.target=.fn fv cap)
 (hi:∀ w,(invoke d0.target d0.args).run P w=.ok (.enter f args.toArray) w) (h:Av7 (adv P st)=true) (hc:Avc P f args u m K)
 (hk:∀ u' m',PH.le u u'->K u' m'->∃ l m'',Asn P (adv P st).2 m' fn.results.toList l/\PH.le m'' m'/\Post.post (Ad5 l) u' m''):G P fn Post st u m:=by
 refine G.stp ?_;generalize adv P st=st' at h hk;obtain⟨ks,s⟩:=st';have key:∀ c ρ a w,Rel c s u m ρ a w->Amj P fn (Alp c Post.post) .ret a w/\Amj P fn (Alp c Post.post) .normal a w:=by
  intro c ρ a w hrel;have:=Rel.leavesD (fn:=fn) (R:=Alp c Post.post) (t:=a.tmps) hb ht hi hc (fun u' m' w' hl hK h'=>by
   obtain⟨l,m'',e1,e2,e3⟩:=hk u' m' hl hK;exact Rel.fin0 (a:=⟨a.tmps,[]⟩) h' e1 e2 e3) (dl:=a.defers) hrel
  exact⟨this,this⟩
 unfold Av7 at h;simp only at h;split at h
 ·refine⟨?_⟩;intro c ρ a w hm0 hrel;exact wp_ret (K5 (key c ρ a w hrel).1 _)
 ·refine⟨?_⟩;intro c ρ a w hm0 hrel;exact (key c ρ a w hrel).2
 ·cases h
end
def Az5 (s:S)(l:List KI):Option (Nat×Fn×List Value):=match l with
 |.code (.region _ ops false)::_=>match ops.toList with
  |[⟨some d,.makeFunc fn first caps,_,_,_,none⟩,⟨none,.defer c,_,_,_,none⟩]=>match c.callee with
   |.value (.tmp e)=>cond (A17 d e&&A17 first.size 0&&A17 c.args.size 0&&A8g d s.n&&caps.toList.all fun x=>isV (s.ev x)) (some (d,fn,caps.toList.map (Kg s))) none
   |_=>none
  |_=>none
 |_=>none
def Azj (l:List KI):List KI:=match l with|_::k=>k|[]=>[]
def Ath (fn:Fn)(vs:List Value):Deferred:={ target:=.fn fn vs.toArray,args:=#[] }
section
variable [Fl:Cc] {P:Program} [Ba P] {fnc:Func} {Post:B0} {st:List KI×S} {u m:PH}
def Aze:List KI->Bool
 |[]=>true
 |.lp _::_=>false
 |_::k=>Aze k
theorem Ar3 (B1 B2:Dy)(c:Cx):∀ kk:List KI,Aze kk=true->@Hs Fl B1 P fnc Post c kk=@Hs Fl B2 P fnc Post c kk
 |[],_=>rfl
 |.code x::k,h=>by simp only[Hs];rw[Ar3 B1 B2 c k h]
 |.blk id::k,h=>by simp only[Hs];rw[Ar3 B1 B2 c k h]
 |.reg _ _ _ _::k,h=>by simp only[Hs];rw[Ar3 B1 B2 c k h]
 |.lp _::_,h=>by cases h
theorem G.outC [Bs:Dy]{ks:List KI}{s:S}(h:G P fnc Post (ks,s) u m)(hn:Fd ks=true):Oq P fnc Post ks s u m:=by
 have:=h.out;rwa[Sym.ofNo hn]at this
theorem G.go (n:Nat)(k:G P fnc Post (run P n st) u m):G P fnc Post st u m:=⟨V0 Ba.mx n st k.out⟩
theorem G.off {d:Nat}{fn:Fn}{vs:List Value}(h:Az5 st.2 st.1=some (d,fn,vs))(hn:Fd (Azj st.1)=true)(hlp:Aze (Azj st.1)=true)(k:@G Fl ⟨[Ath fn vs]⟩ P fnc Post (Azj st.1,st.2.put (some d) (.v (.func fn #[] vs.toArray))) u m):G P fnc Post st u m:=by
 obtain⟨ks,s⟩:=st;unfold Az5 at h;simp only at h;split at h
 ·rename_i id ops kk;split at h
  ·rename_i d' fn' first caps ty pos af c ty2 pos2 af2 hops
   split at h
   ·rename_i e hc;cases hb:(A17 d' e&&A17 first.size 0&&A17 c.args.size 0&&A8g d' s.n&&caps.toList.all fun x=>isV (s.ev x)) with
    |false=>rw[hb]at h;cases h
    |true =>
     rw[hb]at h;simp only[cond_true,A0t,A1r]at h;obtain⟨rfl,rfl,rfl⟩:=h;simp only[A05]at hb;obtain⟨⟨⟨⟨h1,h2⟩,h3⟩,h4⟩,h5⟩:=hb;have h1:=A1h h1;subst h1;have h2:first = #[]:=A47 (A1h h2)
     subst h2;have h3:c.args = #[]:=A47 (A1h h3);have h4:d' < s.n:=by simpa using h4
     rw[A08]at h5;have hk:=G.outC (Bs:=⟨[Ath fn' (caps.toList.map (Kg s))]⟩) k hn;refine⟨?_⟩;rw[Sym.ofNo rfl];intro cx ρ a w hm0 hr;simp only[Hs,Exit.then];refine wp_region ?_;have ho:ops = #[⟨some d',.makeFunc fn' #[] caps,ty,pos,af,none⟩,⟨none,.defer c,ty2,pos2,af2,none⟩]:=by
      apply A4i;rw[hops]
     subst ho;have hev:caps.map a.eval=(caps.toList.map (Kg s)).toArray:=by
      apply A4i;simp only[Array.toList_map,List.toList_toArray];refine List.map_congr_left fun x hx=>?_;have hv:=h5 x hx;unfold Kg;cases e:s.ev x with
      |v y=>rw[hr.eval x (by rw[e];simp),e];rfl
      |junk=>rw[e]at hv;cases hv
      |p i o=>rw[e]at hv;cases hv
     have hput:=Rel.put (x:=.v (.func fn' #[] (caps.toList.map (Kg s)).toArray)) (d:=some d') (y:=.func fn' #[] (caps.toList.map (Kg s)).toArray) hr (fun _=>rfl) mV (fun e he=>by cases he;exact h4);have e0:(execOp a.eval ⟨some d',.makeFunc fn' #[] caps,ty,pos,af,none⟩).run P w=.ok (.value (.func fn' #[] (caps.toList.map (Kg s)).toArray)) w:=by
      have:(execOp a.eval ⟨some d',.makeFunc fn' #[] caps,ty,pos,af,none⟩).run P w=.ok (.value (.func fn' #[] (caps.map a.eval))) w:=by
       have hmf:∀ (fn:Fn) (first cap:Array Value) (w:World),(Instr.makeFunc fn first cap).run P w=.ok (.func fn first cap) w:=fun _ _ _ _=>rfl
       simp[execOp,hmf]
      rw[this,hev]
     have e1:(execOp (a.put (some d') (.func fn' #[] (caps.toList.map (Kg s)).toArray)).eval ⟨none,.defer c,ty2,pos2,af2,none⟩).run P w=.ok (.defer (Ath fn' (caps.toList.map (Kg s)))) w:=by
      have hv:=hput.eval (.tmp d') (by show (s.put (some d') _).tm d'≠_;rw[B5];simp);rw[show (s.put (some d') (.v (.func fn' #[] (caps.toList.map (Kg s)).toArray))).ev (.tmp d')=.v (.func fn' #[] (caps.toList.map (Kg s)).toArray) from B5 _ _ _]at hv;simp[execOp,resolve,hc,hv,h3,SV.den,Deferred.ofValue,Ath]
     have hr2:=Rel.rebase (t:=(a.put (some d') (.func fn' #[] (caps.toList.map (Kg s)).toArray)).tmps) (dl:=(a.put (some d') (.func fn' #[] (caps.toList.map (Kg s)).toArray)).defers) hput (d0:=Ath fn' (caps.toList.map (Kg s))) rfl;refine .inl ?_;show Oper.upon P ⟨some d',.makeFunc fn' #[] caps,ty,pos,af,none⟩ a _ _ ((execOp a.eval ⟨some d',.makeFunc fn' #[] caps,ty,pos,af,none⟩).run P w);rw[e0,Oper.upon_value];show wpOps P _ _ [1] (a.put (some d') (.func fn' #[] (caps.toList.map (Kg s)).toArray)) w;refine .inl ?_;show Oper.upon P ⟨none,.defer c,ty2,pos2,af2,none⟩ (a.put (some d') (.func fn' #[] (caps.toList.map (Kg s)).toArray)) _ _ ((execOp (a.put (some d') (.func fn' #[] (caps.toList.map (Kg s)).toArray)).eval ⟨none,.defer c,ty2,pos2,af2,none⟩).run P w);rw[e1,Oper.upon_defer];have:=hk cx ρ _ w hm0 hr2;rw[Ar3 _ Dy.no cx _ hlp]at this;exact this
   ·cases h
  ·cases h
 ·cases h
end
end
section
variable {E c c' i k n n' w:Nat}{R Y q:List Int}{X:List (List Int)}{a a':Option Addr}{cs es:List Value}{o p s:Arr}{r:Value×List Value}{rows:List (Value×List Value)}{u:PH}{v:Value}
def Aqj (r:Value×List Value):Arr:=⟨r.1,114,2,r.2⟩
def oN (v:Value)(rows:List (Value×List Value)):Arr:=⟨v,220,1,rows.map (·.1)⟩
theorem Avy {m0 m:PH}:(Aqj r).At m0 m=Ae m0 m r.1 114 2 r.2:=rfl
theorem Aup {m0 m:PH}:(oN v rows).At m0 m=Ae m0 m v 220 1 (rows.map (·.1)):=rfl
theorem Azh {x:Value}{es es':List Value}(h:rows[i]?=some (x,es)):oN v (rows.set i (x,es'))=oN v rows:=by
 unfold oN;rw[Zc (r':=(x,es')) h rfl]
theorem Arl (h:rows[i]?=some r):(s::p::o::rows.map Aqj)[i+3]?=some (Aqj r):=by simp[h]
theorem Ax2 :(s::p::o::rows.map Aqj).set (i+3) (Aqj r)=s::p::o::(rows.set i r).map Aqj:=by
 rw[A2c,A2c,A2c,A27]
structure N3 where
 b:Bool
 a:Option Addr
 n:Nat
 c:Nat
def nv (f:N3):Value:=.agg #[.bool f.b,.slice f.a f.n f.c]
def Azx (f:N3):List SV:=[.v (.bool f.b),.v (.slice f.a f.n f.c)]
theorem Cb.opN {z:Int}(h:Cb u v z):∃ f,v=nv f:=by
 obtain⟨b,a,n,c,rfl⟩:=h.opn;exact⟨⟨b,a,n,c⟩,rfl⟩
def NAt (u:PH)(rows:List (Value×List Value))(X:List (List Int)):Prop:=rows.length=X.length/\∀ (i:Nat) (r:Value×List Value),rows[i]?=some r->AtP Cb u r.2 (gMZ X i)
theorem NAt.mono {u u':PH}{rows:List (Value×List Value)}{X:List (List Int)}(h:NAt u rows X)(hl:PH.le u u'):NAt u' rows X:=⟨h.1,fun i r hr=>(h.2 i r hr).mono (fun _ _ k=>k.mono hl)⟩
theorem NAt.set (h:NAt u rows X)(hi:i<rows.length)(hr:AtP Cb u r.2 q):NAt u (rows.set i r) (X.set i q):=by
 refine⟨by simp[h.1],fun j r' hj=>?_⟩;rw[Arp (by rw[<-h.1];exact hi)];rw[A25]at hj;by_cases e:i=j
 ·subst e;rw[if_pos rfl,if_pos hi]at hj;simp only[A0t]at hj;rw[if_pos rfl,<-hj];exact hr
 ·rw[if_neg e]at hj⊢;exact h.2 j r' hj
theorem Axx (i:Nat):gMZ (X++[q]) i=if i<X.length then gMZ X i else if i=X.length then q else []:=by
 unfold gMZ;rw[A0o,A0o];by_cases h:i<X.length
 ·rw[A1d h,if_pos h]
 ·rw[if_neg h];by_cases e:i=X.length
  ·subst e;rw[if_pos rfl];simp
  ·rw[if_neg e,A1g gV];rfl
theorem NAt.snoc (h:NAt u rows X)(hr:AtP Cb u r.2 q):NAt u (rows++[r]) (X++[q]):=by
 refine⟨by simp[h.1],fun i r' hi=>?_⟩;rw[Axx];by_cases e:i<rows.length
 ·rw[A1d e]at hi;rw[if_pos (by rw[<-h.1];exact e)];exact h.2 i r' hi
 ·rw[A1s oV]at hi;have hz:i-rows.length=0:=by
   rcases Nat.eq_zero_or_pos (i-rows.length) with h0|h0
   ·exact h0
   ·rw[A1g gV]at hi;cases hi
  rw[hz]at hi;simp at hi;subst hi;rw[if_neg (by rw[<-h.1];omega),if_pos (by rw[<-h.1];omega)];exact hr
def Aqn (rv pv:Value)(f:N3)(odd:Bool):List Value:=[rv,pv,.bool f.b,.slice f.a f.n f.c,.bool odd]
def Aq4 (g:Nat)(cs:List Value):Arr:=⟨.slice (some ⟨g,0,none⟩) 5 5,222,1,cs⟩
theorem Asz {g:Nat}{m0 m:PH}:(Aq4 g cs).At m0 m=Ae m0 m (.slice (some ⟨g,0,none⟩) 5 5) 222 1 cs:=rfl
theorem Axp (h:∀ x∈es,Be x=true/\x.cells = #[x]):A3 1 es:=fun x hx=>by
 obtain⟨h1,h2⟩:=h x hx;rw[h2];exact⟨rfl,fun y hy=>by simp at hy;subst hy;exact h1⟩
theorem Av2 {f:N3}{odd:Bool}:A3 1 (Aqn (.slice a n c) (.slice a' n' c') f odd):=Axp (by
 intro x hx;simp only[Aqn,A02,A14,or_false]at hx;rcases hx with rfl|rfl|rfl|rfl|rfl<;>exact⟨rfl,rfl⟩)
theorem Ark (h:∀ x∈es,x.cells = #[x]):Az es=es:=by
 induction es with
 |nil=>rfl
 |cons e es ih =>
  unfold Az at ih⊢;rw[List.flatMap_cons,ih (fun x hx=>h x (List.mem_cons_of_mem _ hx)),h e mV];rfl
theorem Ash {f:N3}{odd:Bool}:∀ x∈Aqn (.slice a n c) (.slice a' n' c') f odd,x.cells = #[x]:=by
 intro x hx;simp only[Aqn,A02,A14,or_false]at hx;rcases hx with rfl|rfl|rfl|rfl|rfl<;>rfl
theorem Auk {m:PH}{g:Nat}{f:N3}{odd:Bool}(hg:m g=none):(Aq4 g (Aqn (.slice a n c) (.slice a' n' c') f odd)).At m (m.upd g (.cells (Aqn (.slice a n c) (.slice a' n' c') f odd).toArray 222 (0,0))):=by
 rw[Asz];refine⟨Av2,.inr ⟨g,5,[],hg,?_,rfl,by simp[Aqn],by rw[Ark Ash];simp[Aqn],mV⟩⟩;rw[Ark Ash,A1i]
theorem Axd {m0 m:PH}{g:Nat}(h:(Aq4 g cs).At m0 m)(h1:∀ x∈cs,x.cells = #[x])(h5:cs.length=5):m0 g=none/\m=m0.upd g (.cells cs.toArray 222 (0,0)):=by
 rw[Asz]at h;rcases h.2 with ⟨h,_,_⟩|⟨g',cap,rest,e1,e2,e3,e4,e5,_⟩
 ·cases h
 ·simp only[Value.slice.injEq,A0t,Addr.mk.injEq]at e3;obtain⟨⟨rfl,_,_⟩,_,rfl⟩:=e3;rw[Ark h1]at e2 e5;have:rest = []:=by
   refine List.eq_nil_of_length_eq_zero ?_;rw[A0z]at e5;omega
  subst this;rw[A1i]at e2;exact⟨e1,e2⟩
section
variable {m:PH} {g:Nat} {l:List Arr} {rv pv:Value} {f:N3} {odd:Bool}
theorem Aql (h:Bag m (Aq4 g (Aqn rv pv f odd)::l)):ElP m g (0+0) rv:=h.el (j:=0) 0 (x:=Aq4 g (Aqn rv pv f odd)) rfl rfl rfl
theorem Atv (h:Bag m (Aq4 g (Aqn rv pv f odd)::l)):ElP m g (0+1) pv:=h.el (j:=1) 0 (x:=Aq4 g (Aqn rv pv f odd)) rfl rfl rfl
theorem Avw (h:Bag m (Aq4 g (Aqn rv pv f odd)::l)):ElP m g (0+4) (.bool odd):=h.el (j:=4) 0 (x:=Aq4 g (Aqn rv pv f odd)) rfl rfl rfl
theorem Awm (h:Bag m (Aq4 g (Aqn rv pv f odd)::l)):ElP m g (0+2) (nv f):=by
 have h2:ElP m g (0+2*1) (.bool f.b):=h.el (j:=2) 0 (x:=Aq4 g (Aqn rv pv f odd)) rfl rfl rfl;have h3:ElP m g (0+3*1) (.slice f.a f.n f.c):=h.el (j:=3) 0 (x:=Aq4 g (Aqn rv pv f odd)) rfl rfl rfl;intro i x hi
 match i,hi with
 |0,hi=>exact h2 0 x hi
 |1,hi=>exact h3 0 x hi
end
theorem Aur {u m:PH}{g n c w i:Nat}(hbag:Bag m (s::p::oN (.slice (some ⟨g,0,none⟩) n c) rows::rows.map Aqj))(hQ:NAt u rows X)(hX:Aqv n w X)(hi:i<n)(hw:0<w) :
 ∃ gi ci ei,rows[i]?=some (.slice (some ⟨gi,0,none⟩) w ci,ei)/\ei.length=w/\AtP Cb u ei (gMZ X i)/\ElP m g (0+i*1) (.slice (some ⟨gi,0,none⟩) w ci)/\∀ j,j<w->∃ f,ei[j]?=some (nv f)/\Cb u (nv f) (enZ X i j)/\ElP m gi (0+j*2) (nv f):=by
 have hrl:rows.length=n:=by rw[hQ.1,hX.1]
 have hri:rows[i]?=some rows[i]:=A0n oV;have hAt:=hQ.2 i _ hri;obtain⟨⟨vi,ei⟩,he⟩:∃ x,rows[i]=x:=⟨_,rfl⟩;rw[he]at hri hAt;simp only at hAt;have hel:ei.length=w:=by rw[hAt.1,hX.2 i hi]
 obtain⟨gi,ci,e⟩:=hbag.ptr (i+3) (Arl hri) (by intro e;simp only[Aqj]at e;rw[e]at hel;simp at hel;omega);simp only[Aqj]at e;rw[hel]at e;subst e;refine⟨gi,ci,ei,hri,hel,hAt,hbag.el 2 (x:=oN _ rows) rfl rfl (by show (rows.map (·.1))[i]?=_;rw[A0v,hri];rfl),fun j hj=>?_⟩;have hjl:j<(gMZ X i).length:=by rw[hX.2 i hi];exact hj
 obtain⟨e,e1,e2⟩:=hAt.at hjl;obtain⟨f,rfl⟩:=e2.opN;rw[<-Atp hjl]at e2;exact⟨f,e1,e2,hbag.el (i+3) (x:=Aqj _) (Arl hri) rfl e1⟩
def Asx (Y R:List Int)(k:Nat):List Int:=Y.take k++R.drop k
theorem Aww (Y R:List Int):Asx Y R 0=R:=by simp[Asx]
theorem Axi (h:Y.length=k)(h2:R.length=k):Asx Y R k=Y:=by
 unfold Asx;rw[List.take_of_length_le oV,List.drop_of_length_le oV,A1i]
theorem Axc (h:Y.length=R.length)(hk:k<=R.length):(Asx Y R k).length=R.length:=by simp[Asx];omega
theorem Axb (h:Y.length=R.length)(hk:k<R.length):(Asx Y R k).set k (gZ Y k)=Asx Y R (k+1):=by
 unfold Asx;rw[List.set_append_right _ _ gV];simp only[A00];rw[show k-min k Y.length=0 by omega,List.drop_eq_getElem_cons hk,A2k,Mx oV,A1j,Atp oV];rfl
theorem Aye (h:Y.length=R.length)(hk:k<R.length):gZ (Asx Y R k) k=gZ R k:=by
 unfold Asx gZ;rw[A0o,A1s gV,A0o];simp only[A00];rw[show k-min k Y.length=0 by omega,List.getElem?_drop];rfl
def SzZ (X:List (List Int))(E:Nat):Prop:=∀ i j,nl (enZ X i j).natAbs<=E
theorem SzZ.mono {E E':Nat}(h:SzZ X E)(hl:E<=E'):SzZ X E':=fun i j=>A0q (h i j) hl
theorem At0 {v a g x y:Int}(ha:nl a.natAbs<=E)(hg:nl g.natAbs<=E)(hx:nl x.natAbs<=E)(hy:nl y.natAbs<=E):nl (x*a).natAbs<=2*E/\nl (g*y).natAbs<=2*E/\nl (x*a-g*y).natAbs<=2*E+1/\nl ((x*a-g*y)/v).natAbs<=2*E+1:=by
 have h1:=Bl hx ha;have h2:=Bl hg hy;have h3:=Ac9 h1 h2;exact⟨h1,h2,h3,A0q (C6 (Int.natAbs_ediv_le_natAbs _ _)) h3⟩
theorem SzZ.swap {n w p r E:Nat}(h:SzZ X E)(hX:Aqv n w X)(hp:p<n)(hr:r<n):SzZ (Ara X p r) E:=fun i j=>by
 unfold enZ;rw[As6 hX hp hr];split
 ·exact h p j
 ·split
  ·exact h r j
  ·exact h i j
theorem SzZ.row {n w r c i E:Nat}{v:Int}(h:SzZ X E)(hX:Aqv n w X)(hr:r<n)(hi:i<n)(j:Nat):nl (gZ (Ar6 v (enZ X r c) (enZ X i c) (gMZ X r) (gMZ X i)) j).natAbs<=2*E+1:=by
 rw[Aty _ _ _ _ _ (by rw[hX.2 r hr,hX.2 i hi])];exact (At0 (h r c) (h i c) (h i j) (h r j)).2.2.2
theorem SzZ.clr {n w r c E:Nat}{v:Int}(h:SzZ X E)(hX:Aqv n w X)(hr:r<n):SzZ (Arv r c v n 0 X) (2*E+1):=fun i j=>by
 unfold enZ;rw[Asf hr n 0 X oV hX];split
 ·rename_i h1;exact h.row hX hr oV j
 ·exact A0q (h i j) oV
theorem Av5 {s:BZ}(h:SzZ s.X E)(hv:nl s.v.natAbs<=E)(hX:Aqv n w s.X)(hP:s.P.length<=n):SzZ (Aq1 n c s).X (2*E+1)/\nl (Aq1 n c s).v.natAbs<=2*E+1/\Aqv n w (Aq1 n c s).X/\(Aq1 n c s).P.length<=n/\(s.v≠0->(Aq1 n c s).v≠0):=by
 obtain⟨p1,p2⟩:=At4 s.X c (n-s.P.length) s.P.length;have p4:=At6 s.X c (n-s.P.length) s.P.length;unfold Aq1;generalize Aqz s.X c (n-s.P.length) s.P.length=p at *
 split
 ·exact⟨h.mono oV,A0q hv oV,hX,hP,id⟩
 ·rename_i e;have hp:p<n:=oV
  have hr:s.P.length<n:=oV
  have hX1:Aqv n w (if p=s.P.length then s.X else Ara s.X p s.P.length):=by
   split
   ·exact hX
   ·exact Aso hX hp hr
  have h1:SzZ (if p=s.P.length then s.X else Ara s.X p s.P.length) E:=by
   split
   ·exact h
   ·exact h.swap hX hp hr
  exact⟨h1.clr hX1 hr,A0q (h p c) oV,As5 hr n 0 _ oV hX1,gV,fun _=>p4 oV⟩
end
section
structure E3 where
 rows:List (Value×List Value)
 X:List (List Int)
 odd:Bool
theorem Ay6 {z:Int}:sgn z=0↔z=0:=by unfold sgn;split<;>(try split)<;>omega
theorem Aza {u m:PH}{g go co n w c E:Nat}{rows0:List (Value×List Value)}{X0:List (List Int)}{P:List Nat}{pa:Option Addr}{pc:Nat}{f0:N3}{odd0:Bool}{v:Int}
 (hX0:Aqv n w X0) (hn:n<=100) (hw:w<=100) (hc:c<w) (hP:P.length<=n) (h0:0<n) (hsz0:SzZ X0 E) (hv:Cb u (nv f0) v) (hvE:nl v.natAbs<=E) (hv0:v≠0) (hE:E<=1000000000) (hQ0:NAt u rows0 X0)
 (hbag0:Bag m (Aq4 g (Aqn (.slice (some ⟨go,0,none⟩) n co) (.slice pa P.length pc) f0 odd0)::Xz (.slice pa P.length pc) P::oN (.slice (some ⟨go,0,none⟩) n co) rows0::rows0.map Aqj)) :
 Ai prog 218 [.pointer (some ⟨g,0,none⟩),.int .i64 (c:Int)] u m fun r u' m'=>r=.tuple #[]/\∃ pa' pc' f' rows',NAt u' rows' (Aq1 n c ⟨X0,P,v,odd0⟩).X/\Cb u' (nv f') (Aq1 n c ⟨X0,P,v,odd0⟩).v /\
  Bag m' (Aq4 g (Aqn (.slice (some ⟨go,0,none⟩) n co) (.slice pa' (Aq1 n c ⟨X0,P,v,odd0⟩).P.length pc') f' (Aq1 n c ⟨X0,P,v,odd0⟩).odd)::Xz (.slice pa' (Aq1 n c ⟨X0,P,v,odd0⟩).P.length pc') (Aq1 n c ⟨X0,P,v,odd0⟩).P::oN (.slice (some ⟨go,0,none⟩) n co) rows'::rows'.map Aqj):=by
 have hw0:0<w:=oV
 refine Ai.o func218 ?_;refine G.f 222 g 0 1 1 ?_;refine G.lM none g (0+1) (.slice pa P.length pc) (Atv hbag0) ?_;refine G.l (ι:=Nat) (fun p=>[(0,.v (.pointer (some ⟨g,0,none⟩))),(1,iV c),(4,iV P.length),(5,iV p)]) (fun _=>[])
  (fun p u' m'=>P.length<=p/\p<=n/\Aqz X0 c (n-p) p=Aqz X0 c (n-P.length) P.length/\m'=m) (fun p=>n-p) P.length ⟨A0w _,hP,rfl,rfl⟩ ?_
 rintro J2 p hJ2 u3 m3 l3 ⟨hp1,hp2,hpv,rfl⟩;have hQ3:=hQ0.mono l3;refine G.f 222 g 0 0 0 ?_;refine G.lM none g (0+0) (.slice (some ⟨go,0,none⟩) n co) (Aql hbag0) ?_;by_cases hpn:n<=p
 ·obtain rfl:p=n:=oV
  refine G.lF (p:Int) (p:Int) ?_;refine G.f 222 g 0 0 0 ?_;refine G.lM none g (0+0) (.slice (some ⟨go,0,none⟩) p co) (Aql hbag0) ?_;refine G.hT (p:Int) (p:Int) ?_;have e:Aq1 p c ⟨X0,P,v,odd0⟩=⟨X0,P,v,odd0⟩:=by
   unfold Aq1;rw[if_pos];show Aqz X0 c (p-P.length) P.length=p;rw[<-hpv,A45];rfl
  refine G.r (.tuple #[]) ?_;rw[e];exact⟨rfl,pa,pc,f0,rows0,hQ3,hv.mono l3,hbag0⟩
 have hpn:p<n:=oV
 refine G.lT (p:Int) (n:Int) ?_;obtain⟨K2,hK2⟩:∃ K2,n-p=K2+1:=⟨n-p-1,oV⟩;obtain⟨gp,cp,ep,hrp,hpl,hAp,hop,hcp⟩:=Aur hbag0 hQ3 hX0 hpn hw0;obtain⟨fp,hp5,hp6,hp7⟩:=hcp c hc;refine G.f 222 g 0 0 0 ?_;refine G.lM none g (0+0) (.slice (some ⟨go,0,none⟩) n co) (Aql hbag0) ?_;refine G.a go 0 n co p 1 hpn ?_;refine G.lM none go (0+p*1) _ hop ?_;refine G.a gp 0 w cp c 2 hc ?_;refine G.lM (some 2) gp (0+c*2) (nv fp) hp7 ?_;refine G.c call176 (Rx hp6 (A0q (hsz0 p c) oV)) ?_;rintro v4 u4 l4 rfl;by_cases hz:enZ X0 p c=0
 ·refine G.eT' (sgn (enZ X0 p c)) 0 (Ay6.2 hz) ?_;refine G.i p ?_;refine G.b (hJ2 (p+1) _ _ _ cV (l3.trans l4) ⟨oV,oV,?_,rfl⟩ oV);rw[<-hpv,hK2,Aqz,if_pos hz,show n-(p+1)=K2 by omega]
 refine G.eF' (sgn (enZ X0 p c)) 0 (fun e=>hz (Ay6.1 e)) ?_;rw[hK2,Aqz,if_neg hz]at hpv;clear hJ2;have hPn:P.length<n:=oV
 refine G.f 222 g 0 0 0 ?_;refine G.lM none g (0+0) (.slice (some ⟨go,0,none⟩) n co) (Aql hbag0) ?_;refine G.hF (p:Int) (n:Int) ?_;refine G.join (ι:=E3) (.bool false) (fun i=>[(0,.v (.pointer (some ⟨g,0,none⟩))),(1,iV c),(4,iV P.length)]) (fun i=>[])
  (fun i u' m'=>i.X=(if p=P.length then X0 else Ara X0 p P.length)/\i.odd=(if p=P.length then odd0 else !odd0)/\NAt u' i.rows i.X/\Bag m' (Aq4 g (Aqn (.slice (some ⟨go,0,none⟩) n co) (.slice pa P.length pc) f0 i.odd)::Xz (.slice pa P.length pc) P::oN (.slice (some ⟨go,0,none⟩) n co) i.rows::i.rows.map Aqj)) (fun _=>kV) kV ?tail ?way
 case way =>
  intro hjoin;by_cases hpr:p=P.length
  ·refine G.nF (p:Int) (P.length:Int) ?_;exact hjoin ⟨rows0,X0,odd0⟩ _ _ _ kV cV (PH.le_refl _) ⟨by rw[if_pos hpr],by rw[if_pos hpr],hQ3.mono l4,hbag0⟩
  ·refine G.nT (p:Int) (P.length:Int) ?_;obtain⟨gr,cr,er,hrr,hrl2,hAr,hor,hcr⟩:=Aur hbag0 hQ3 hX0 hPn hw0;refine G.f 222 g 0 0 0 ?_;refine G.lM none g (0+0) (.slice (some ⟨go,0,none⟩) n co) (Aql hbag0) ?_;refine G.f 222 g 0 0 0 ?_;refine G.lM none g (0+0) (.slice (some ⟨go,0,none⟩) n co) (Aql hbag0) ?_;refine G.f 222 g 0 0 0 ?_;refine G.lM none g (0+0) (.slice (some ⟨go,0,none⟩) n co) (Aql hbag0) ?_;refine G.a go 0 n co P.length 1 hPn ?_;refine G.lM none go (0+P.length*1) _ hor ?_;refine G.f 222 g 0 0 0 ?_;refine G.lM none g (0+0) (.slice (some ⟨go,0,none⟩) n co) (Aql hbag0) ?_;refine G.a go 0 n co p 1 hpn ?_;refine G.lM none go (0+p*1) _ hop ?_;obtain⟨m0,hx0,hput⟩:=hbag0.focus 2 rfl;rw[Aup]at hx0;have hrl0:rows0.length=n:=by rw[hQ0.1,hX0.1]
   refine G.a go 0 n co p 1 hpn ?_;refine G.storeA 1 m0 _ go n co p (.slice (some ⟨gr,0,none⟩) w cr) kV hx0 gV rfl rfl ?_;intro m5 hx5;refine G.a go 0 n co P.length 1 hPn ?_;refine G.storeA 1 m0 _ go n co P.length (.slice (some ⟨gp,0,none⟩) w cp) kV hx5 gV rfl rfl ?_;intro m6 hx6;have hrows:((rows0.map (·.1)).set p (A06 (some ⟨gr,0,none⟩) w cr)).set P.length (A06 (some ⟨gp,0,none⟩) w cp)=((rows0.set p (A06 (some ⟨gr,0,none⟩) w cr,er)).set P.length (A06 (some ⟨gp,0,none⟩) w cp,ep)).map (·.1):=by rw[A27,A27]
   rw[hrows]at hx6;have hb6:=hput (oN (.slice (some ⟨go,0,none⟩) n co) ((rows0.set p (A06 (some ⟨gr,0,none⟩) w cr,er)).set P.length (A06 (some ⟨gp,0,none⟩) w cp,ep))) m6 hx6;have hperm:((rows0.set p (A06 (some ⟨gr,0,none⟩) w cr,er)).set P.length (A06 (some ⟨gp,0,none⟩) w cp,ep)).Perm rows0:=by
    obtain⟨q1,q2⟩:=A0s.1 hrp;obtain⟨q3,q4⟩:=A0s.1 hrr;rw[<-q2,<-q4];exact List.set_set_perm q1 q3
   have hb7:=Bag.perm (A42 _ (A42 _ (A42 _ (hperm.symm.map Aqj)))) hb6;have hQ1:=(hQ3.set (i:=p) (r:=(A06 (some ⟨gr,0,none⟩) w cr,er)) oV hAr).set (i:=P.length) (r:=(A06 (some ⟨gp,0,none⟩) w cp,ep)) gV hAp;refine G.f 222 g 0 3 4 ?_;refine G.lM none g (0+4) (.bool odd0) (Avw hb7) ?_;refine G.f 222 g 0 3 4 ?_;obtain⟨m7,hx7,hput7⟩:=hb7.focus 0 rfl;rw[Asz]at hx7;refine G.storeA 1 m7 _ g 5 5 4 (.bool !odd0) kV hx7 (by simp[Aqn]) rfl rfl ?_;intro m8 hx8;have hb8:=hput7 (Aq4 g (Aqn (.slice (some ⟨go,0,none⟩) n co) (.slice pa P.length pc) f0 (!odd0))) m8 hx8;exact hjoin ⟨(rows0.set p (A06 (some ⟨gr,0,none⟩) w cr,er)).set P.length (A06 (some ⟨gp,0,none⟩) w cp,ep),Ara X0 p P.length,!odd0⟩ _ _ _ kV cV (PH.le_refl _) ⟨by rw[if_neg hpr],by rw[if_neg hpr],hQ1.mono l4,hb8⟩
 rintro⟨rows1,X1,odd1⟩ u5 m5 l5 ⟨hX1e,hod,hQ1,hbag1⟩;simp only at hX1e hod hQ1 hbag1;have hX1:Aqv n w X1:=by
  rw[hX1e];split
  ·exact hX0
  ·exact Aso hX0 hpn hPn
 have hsz1:SzZ X1 E:=by
  rw[hX1e];split
  ·exact hsz0
  ·exact hsz0.swap hX0 hpn hPn
 have hX1r:enZ X1 P.length c=enZ X0 p c:=by
  rw[hX1e];split
  ·rename_i e;rw[e]
  ·unfold enZ;rw[As6 hX0 hpn hPn,if_pos rfl]
 have hstep:Aq1 n c ⟨X0,P,v,odd0⟩=⟨Arv P.length c v n 0 X1,P++[c],enZ X1 P.length c,odd1⟩:=by
  unfold Aq1;rw[if_neg (by show ¬ Aqz X0 c (n-P.length) P.length=n;rw[<-hpv];omega),hX1r,hod,hX1e];show BZ.mk _ _ _ _=_;simp only[<-hpv]
 rw[hstep];clear hstep hX1e hbag0 hQ0 hQ3 hrp hpl hAp hop hcp hp5 hp6 hp7 hpv hsz0 hX0;have hv5:=hv.mono ((l3.trans l4).trans l5);have hr1:rows1.length=n:=by rw[hQ1.1,hX1.1]
 obtain⟨gr,cr,er,hrr,hrl2,hAr,hor,hcr⟩:=Aur hbag1 hQ1 hX1 hPn hw0;obtain⟨fr,h5,h6,h7⟩:=hcr c hc;obtain⟨R,hR⟩:∃ R,R=gMZ X1 P.length:=⟨_,rfl⟩;have hRl:R.length=w:=by rw[hR];exact hX1.2 _ hPn
 obtain⟨F,hF⟩:∃ F,F=enZ X1 P.length c:=⟨_,rfl⟩;have hFz:nl F.natAbs<=E:=by rw[hF];exact hsz1 _ _
 have hRz:∀ j,nl (gZ R j).natAbs<=E:=fun j=>by rw[hR];exact hsz1 _ j
 rw[<-hF]at h6⊢;have hRc:gZ R c=F:=by rw[hR,hF];rfl
 refine G.f 222 g 0 0 0 ?_;refine G.lM none g (0+0) (.slice (some ⟨go,0,none⟩) n co) (Aql hbag1) ?_;refine G.a go 0 n co P.length 1 hPn ?_;refine G.lM none go (0+P.length*1) _ hor ?_;refine G.a gr 0 w cr c 2 hc ?_;refine G.lM (some 2) gr (0+c*2) (nv fr) h7 ?_;refine G.f 222 g 0 0 0 ?_;refine G.lM none g (0+0) (.slice (some ⟨go,0,none⟩) n co) (Aql hbag1) ?_;refine G.l (ι:=Nat×List (Value×List Value)×List (List Int)) (fun i=>[(0,.v (.pointer (some ⟨g,0,none⟩))),(1,iV c),(4,iV P.length),(6,.p 8010 0),(97,sV (some ⟨go,0,none⟩) n co),(98,iV n),(99,iV i.1)]) (fun i=>[(8010,⟨114,Azx fr⟩)])
  (fun i u' m'=>i.1<=n/\Arv P.length c v (n-i.1) i.1 i.2.2=Arv P.length c v n 0 X1/\Aqv n w i.2.2/\gMZ i.2.2 P.length=R/\(∀ x j,i.1<=x->nl (enZ i.2.2 x j).natAbs<=E)/\NAt u' i.2.1 i.2.2 /\
   Bag m' (Aq4 g (Aqn (.slice (some ⟨go,0,none⟩) n co) (.slice pa P.length pc) f0 odd1)::Xz (.slice pa P.length pc) P::oN (.slice (some ⟨go,0,none⟩) n co) i.2.1::i.2.1.map Aqj))
  (fun i=>n-i.1) (0,rows1,X1) ⟨A1m _,rfl,hX1,hR.symm,fun x j _=>hsz1 x j,hQ1,hbag1⟩ ?_
 clear hQ1 hbag1 hrr hrl2 hAr hor hcr h5 h7;rintro J4 ⟨i,rows3,X3⟩ hJ4 u8 m8 l8 ⟨hi,hcl,hX3,hrr3,hszi,hQ3,hbag3⟩;simp only at hi hcl hX3 hrr3 hszi hQ3 hbag3 hJ4;have hr3:rows3.length=n:=by rw[hQ3.1,hX3.1]
 by_cases hin:i<n
 ·refine G.lT (i:Int) (n:Int) ?_;obtain⟨K3,hK3⟩:∃ K3,n-i=K3+1:=⟨n-i-1,oV⟩;obtain⟨gi,ci,ei,hri,hil,hAi,hoi,hci⟩:=Aur hbag3 hQ3 hX3 hin hw0;refine G.a go 0 n co i 1 hin ?_;refine G.lM none go (0+i*1) _ hoi ?_;by_cases hir:i=P.length
  ·refine G.eT (i:Int) (P.length:Int) ?_;refine G.i i ?_;refine G.b (hJ4 (i+1,rows3,X3) _ _ _ cV l8 ⟨dV,?_,hX3,hrr3,fun x j h1=>hszi x j (by dsimp only at h1;omega),hQ3,hbag3⟩ dV);dsimp only;rw[<-hcl,hK3,Arv,if_pos hir,show n-(i+1)=K3 by omega]
  refine G.eF (i:Int) (P.length:Int) ?_;obtain⟨fg,g5,g6,g7⟩:=hci c hc;have hgz:=hszi i c (A0w _);refine G.a gi 0 w ci c 2 hc ?_;refine G.lM (some 2) gi (0+c*2) (nv fg) g7 ?_;obtain⟨S,hS⟩:∃ S,S=gMZ X3 i:=⟨_,rfl⟩;have hSl:S.length=w:=by rw[hS];exact hX3.2 i hin
  have hSz:∀ j,nl (gZ S j).natAbs<=E:=fun j=>by rw[hS];exact hszi i j (A0w _)
  have hFr:enZ X3 P.length c=F:=by unfold enZ;rw[hrr3];exact hRc
  have hcl2:Arv P.length c v (n-(i+1)) (i+1) (X3.set i (Ar6 v F (enZ X3 i c) R S))=Arv P.length c v n 0 X1:=by
   rw[<-hcl,hK3,Arv,if_neg hir,show n-(i+1)=K3 by omega,hS,hrr3,hFr]
  generalize hg:enZ X3 i c=gg at *
  rw[<-hS]at hAi;have hsl:=Ask v F gg R S;have hYz:∀ j,nl (gZ (Ar6 v F gg R S) j).natAbs<=2*E+1:=fun j=>by
   rw[Aty _ _ _ _ _ oV];exact (At0 hFz hgz (hSz j) (hRz j)).2.2.2
  obtain⟨gs,cs,er3,hrs,hsl3,hAs,hos,hcs⟩:=Aur hbag3 hQ3 hX3 hPn hw0;refine G.l (ι:=Nat×List Value) (fun y=>[(0,.v (.pointer (some ⟨g,0,none⟩))),(1,iV c),(4,iV P.length),(6,.p 8010 0),(97,sV (some ⟨go,0,none⟩) n co),(98,iV n),(99,iV i),(8,sV (some ⟨gi,0,none⟩) w ci),(9,.p 13004 0),(112,iV w),(113,iV y.1)]) (fun y=>[(8010,⟨114,Azx fr⟩),(13004,⟨114,Azx fg⟩)])
   (fun y u' m'=>y.1<=w/\AtP Cb u' y.2 (Asx (Ar6 v F gg R S) S y.1)/\Bag m' (Aq4 g (Aqn (.slice (some ⟨go,0,none⟩) n co) (.slice pa P.length pc) f0 odd1)::Xz (.slice pa P.length pc) P::oN (.slice (some ⟨go,0,none⟩) n co) rows3::(rows3.set i ((A06 (some ⟨gi,0,none⟩) w ci),y.2)).map Aqj)) (fun y=>w-y.1) (0,ei)
   ⟨A1m _,by rw[Aww];exact hAi,by rw[Ti hri];exact hbag3⟩ ?_
  rintro J5 ⟨y,es2⟩ hJ5 u10 m10 l10 ⟨hy,hAt,hbk⟩;simp only at hy hAt hbk hJ5;have hml:=Axc (k:=y) hsl oV;have hel:es2.length=w:=by rw[hAt.1,hml,hSl]
  have hget:(rows3.set i ((A06 (some ⟨gi,0,none⟩) w ci),es2))[i]?=some ((A06 (some ⟨gi,0,none⟩) w ci),es2):=by rw[A25];simp[hr3,hin]
  have hgets:(rows3.set i ((A06 (some ⟨gi,0,none⟩) w ci),es2))[P.length]?=some (A06 (some ⟨gs,0,none⟩) w cs,er3):=by rw[A25,if_neg hir];exact hrs
  by_cases hyk:y<w
  ·refine G.lT (y:Int) (w:Int) ?_;obtain⟨e,e1,e2⟩:=hAt.at (j:=y) oV;obtain⟨fe,rfl⟩:=e2.opN;rw[<-Atp oV,Aye hsl oV]at e2;have hop:ElP m10 go (0+P.length*1) (A06 (some ⟨gs,0,none⟩) w cs):=hbk.el 2 (x:=oN (.slice (some ⟨go,0,none⟩) n co) rows3) rfl rfl (by show (rows3.map (·.1))[P.length]?=_;rw[A0v,hrs];rfl);have he:ElP m10 gi (0+y*2) (nv fe):=hbk.el (i+3) (x:=Aqj ((A06 (some ⟨gi,0,none⟩) w ci),es2)) (Arl hget) rfl e1;obtain⟨fs,s5,s6,_⟩:=hcs y hyk;have s6':Cb u8 (nv fs) (gZ R y):=by rw[<-hrr3];exact s6
   have hes:ElP m10 gs (0+y*2) (nv fs):=hbk.el (P.length+3) (x:=Aqj (A06 (some ⟨gs,0,none⟩) w cs,er3)) (Arl hgets) rfl s5;have hv10:=(hv5.mono l8).mono l10;obtain⟨z1,z2,z3,z4⟩:=At0 (v:=v) hFz hgz (hSz y) (hRz y);refine G.a gi 0 w ci y 2 hyk ?_;refine G.lM (some 2) gi (0+y*2) (nv fe) he ?_;refine G.f 222 g 0 0 0 ?_;refine G.lM none g (0+0) (.slice (some ⟨go,0,none⟩) n co) (Aql hbk) ?_;refine G.a go 0 n co P.length 1 hPn ?_;refine G.lM none go (0+P.length*1) _ hop ?_;refine G.a gs 0 w cs y 2 hyk ?_;refine G.lM (some 2) gs (0+y*2) (nv fs) hes ?_;refine G.f 222 g 0 2 2 ?_;refine G.lM (some 2) g (0+2) (nv f0) (Awm hbk) ?_;refine G.c call121 (Gg e2 ((h6.mono l8).mono l10) (A0q (hSz y) oV) (A0q hFz oV)) ?_;intro v11 u11 l11 k11;obtain⟨f11,rfl⟩:=k11.opN;refine G.c call121 (Gg ((g6.mono l10).mono l11) ((s6'.mono l10).mono l11) (A0q hgz oV) (A0q (hRz y) oV)) ?_;intro v12 u12 l12 k12;obtain⟨f12,rfl⟩:=k12.opN;refine G.c call201 (Amo (k11.mono l12) k12 (A0q z1 oV) (A0q z2 oV)) ?_;intro v13 u13 l13 k13;obtain⟨f13,rfl⟩:=k13.opN;refine G.c call196 (Ael k13 (hv10.mono ((l11.trans l12).trans l13)) (A0q z3 oV) (A0q hvE oV) hv0) ?_;rintro v14 u14 l14 ⟨x14,y14,rfl,k14,k14'⟩;obtain⟨f14,rfl⟩:=k14.opN;obtain⟨f14',rfl⟩:=k14'.opN;obtain⟨m0,hx0,hput⟩:=hbk.focus (i+3) (Arl hget);rw[Avy]at hx0;refine G.a gi 0 w ci y 2 hyk ?_;refine G.storeA 2 m0 es2 gi w ci y (nv f14) kV hx0 oV rfl rfl ?_;intro m15 hx15;have hb15:=hput (Aqj ((A06 (some ⟨gi,0,none⟩) w ci),es2.set y (nv f14))) m15 hx15;rw[Ax2,List.set_set]at hb15;refine G.i y ?_;refine G.b (hJ5 (y+1,es2.set y (nv f14)) _ _ _ cV ((((l10.trans l11).trans l12).trans l13).trans l14) ⟨dV,?_,hb15⟩ dV);dsimp only;rw[<-Axb hsl oV,Aty _ _ _ _ _ oV];exact (hAt.mono (fun _ _ k=>k.mono (((l11.trans l12).trans l13).trans l14))).set y k14
  obtain rfl:y=w:=oV
  refine G.lF (y:Int) (y:Int) ?_;rw[Axi oV hSl]at hAt;rw[<-Azh (es':=es2) hri]at hbk;refine G.i i ?_;have hX4:Aqv n y (X3.set i (Ar6 v F gg R S)):=Arz hX3 hin oV;have hrow4:∀ x,gMZ (X3.set i (Ar6 v F gg R S)) x=if i=x then Ar6 v F gg R S else gMZ X3 x:=fun x=>Arp (by rw[hX3.1];exact hin)
  refine G.b (hJ4 (i+1,rows3.set i ((A06 (some ⟨gi,0,none⟩) y ci),es2),X3.set i (Ar6 v F gg R S)) _ _ _ cV (l8.trans l10) ⟨dV,hcl2,hX4,?_,?_,?_,hbk⟩ dV)
  ·dsimp only;rw[hrow4,if_neg hir];exact hrr3
  ·intro x j h1;dsimp only at h1⊢;unfold enZ;rw[hrow4,if_neg oV];exact hszi x j oV
  ·exact (hQ3.mono l10).set (i:=i) (r:=((A06 (some ⟨gi,0,none⟩) y ci),es2)) oV hAt
 obtain rfl:i=n:=oV
 refine G.lF (i:Int) (i:Int) ?_;rw[A45,Arv]at hcl;rw[<-hcl];refine G.f 222 g 0 1 1 ?_;refine G.lM none g (0+1) (.slice pa P.length pc) (Atv hbag3) ?_;refine G.B 3 1 8 (.int .i64 0) [.int .i64 (c:Int)] (Ax [c]) ?_;intro g9 u9 l9 e9;obtain⟨m1,hx1,hput1⟩:=hbag3.focus 1 rfl;rw[Aky]at hx1;have hil:(Ag P).length=P.length:=by simp[Ag]
 refine G.append 3 1 8 (.int .i64 0) m1 (Ag P) [.int .i64 (c:Int)] (.slice pa P.length pc) g9 0 1 1 kV rfl rfl oV hx1 e9 (Ax [c]) rfl oV oV oV ?_;intro v10 m10 hx10;rw[show Ag P++[A15 .i64 (c:Int)]=Ag (P++[c]) by simp[Ag]]at hx10;obtain⟨a10,c10,rfl⟩:=hx10.shape;have el:(Ag (P++[c])).length=(P++[c]).length:=by simp[Ag]
 rw[el]at hx10⊢;have hb10:=hput1 (Xz (.slice a10 (P++[c]).length c10) (P++[c])) m10 hx10;obtain⟨m2,hx2,hput2⟩:=hb10.focus 0 rfl;obtain⟨hm2,em⟩:=Axd hx2 Ash rfl;refine G.f 222 g 0 2 2 ?_;refine G.storeM 2 g (0+2) 222 (Aqn (.slice (some ⟨go,0,none⟩) i co) (.slice pa P.length pc) f0 odd1) (nv fr) kV (by rw[em,Ac]) (fun x hx=>by
  have:=(Av2 x hx).2 x (by rw[Ash x hx];simp);exact this) (by simp[Aqn]) rfl rfl ?_
 have e11:m10.upd g (.cells ((Aqn (.slice (some ⟨go,0,none⟩) i co) (.slice pa P.length pc) f0 odd1).take (0+2)++(nv fr).cells.toList++(Aqn (.slice (some ⟨go,0,none⟩) i co) (.slice pa P.length pc) f0 odd1).drop (0+2+2)).toArray 222 (0,0)) =
  m2.upd g (.cells (Aqn (.slice (some ⟨go,0,none⟩) i co) (.slice pa P.length pc) fr odd1).toArray 222 (0,0)):=by
  rw[em,Dh];rfl
 rw[e11];have hb11:=hput2 (Aq4 g (Aqn (.slice (some ⟨go,0,none⟩) i co) (.slice pa P.length pc) fr odd1)) _ (Auk hm2);refine G.f 222 g 0 1 1 ?_;obtain⟨m3,hx3,hput3⟩:=hb11.focus 0 rfl;rw[Asz]at hx3;refine G.storeA 1 m3 _ g 5 5 1 (.slice a10 (P++[c]).length c10) kV hx3 (by simp[Aqn]) rfl rfl ?_;intro m12 hx12;have hb12:=hput3 (Aq4 g (Aqn (.slice (some ⟨go,0,none⟩) i co) (.slice a10 (P++[c]).length c10) fr odd1)) m12 hx12;exact G.r (.tuple #[]) ⟨rfl,a10,c10,fr,rows3,hQ3.mono l9,h6.mono (l8.trans l9),hb12⟩
end
end Go.Proofs.YtanfagpabkdmiaaGreatDoor
