/- Parts of one proof, joined by a program. -/
import Derived.Test.YtnafchoihfnkeaaGreatDoorS05
set_option linter.defProp false
set_option linter.unusedVariables false
set_option linter.unusedSimpArgs false
set_option linter.unusedSectionVars false
set_option maxHeartbeats 16000000
namespace Go.Proofs.YtnafchoihfnkeaaGreatDoor
open Go.Proofs.Tryz
open Go.RowKit
open Int renaming natAbs_mul -> Au7, natAbs_natCast -> Atv, natAbs_neg -> Avp, neg_neg -> A0l
open Lib renaming nDigits -> Aua
open List renaming Perm.cons -> A0g, append_nil -> Auu, drop_eq_getElem_cons -> Aw9, drop_of_length_le -> Aue, eq_nil_of_length_eq_zero -> Auo, eq_of_mem_replicate -> Av2, ext_getElem? -> Awe, getD_eq_getElem?_getD -> As7, getElem?_append_left -> Atl, getElem?_append_right -> At1, getElem?_cons_succ -> Aya, getElem?_eq_getElem -> As5, getElem?_eq_none -> Att, getElem?_map -> Aty, getElem?_replicate -> Avg, getElem?_set -> Au5, getElem?_take -> Avu, getElem_mem -> Ath, length_append -> Atg, length_drop -> Ax4, length_map -> Ata, length_pos_iff -> Avq, length_replicate -> Aur, length_set -> Avx, length_take -> Atm, map_append -> Atk, map_replicate -> Aw5, map_set -> Axb, mem_append -> Ati, mem_map -> Ate, mem_of_getElem? -> Ato, mem_of_mem_drop -> Avz, mem_of_mem_take -> Avd, nil_append -> Ava, replicate -> As6, replicate_succ' -> Ayv, replicate_zero -> Av3, set_append_right -> Awm, set_cons_succ -> Avi, set_cons_zero -> Avj, take_add_one -> At0, take_append_drop -> Awg, take_length -> At9, take_of_length_le -> Atp, toList_toArray -> Av4
open Nat renaming add_mul -> At2, add_zero -> Avb, dvd_lcm_left -> A2w, dvd_trans -> A3m, lcm -> A34, le_refl -> Atb, le_trans -> As9, lt_or_ge -> At8, min -> Auz, min_le_left -> Ayj, min_le_right -> Awi, mul_le_mul -> Aut, mul_le_mul_right -> Ats, sub_self -> Avc, sub_zero -> Awx, zero_add -> Aud, zero_le -> Atu
open Option renaming some.inj -> Auq, some.injEq -> Atd
open Rat renaming divInt -> Au0, num_eq_zero -> Axp
open Value renaming slice -> Au8, slice.injEq -> Atr
section
variable {c j n sz:Nat}{e v:Value}{es:List Value}
section lists
variable {α:Type} {R:PH->Value->α->Prop} {u u':PH}
def AtP (R:PH->Value->α->Prop)(u:PH)(es:List Value)(xs:List α):Prop:=es.length=xs.length/\∀ (j:Nat) (x:α),xs[j]?=some x->∃ e,es[j]?=some e/\R u e x
theorem AtP.nil:AtP R u [] []:=⟨rfl,fun j x h=>by simp at h⟩
theorem AtP.mono {xs:List α}(hR:∀ e x,R u e x->R u' e x)(h:AtP R u es xs):AtP R u' es xs :=
 ⟨h.1,fun j x hj=>by obtain⟨e,h1,h2⟩:=h.2 j x hj;exact⟨e,h1,hR e x h2⟩⟩
theorem AtP.snoc {xs:List α}{x:α}(h:AtP R u es xs)(he:R u e x):AtP R u (es++[e]) (xs++[x]):=by
 refine⟨by simp[h.1],fun j r hj=>?_⟩;by_cases hjl:j<xs.length
 ·rw[Atl hjl]at hj;obtain⟨e',h1,h2⟩:=h.2 j r hj;exact⟨e',by rw[Atl (by rw[h.1];exact hjl)];exact h1,h2⟩
 ·rw[At1 oV]at hj;have:j-xs.length=0:=by grind
  rw[this]at hj;simp at hj;subst hj;refine⟨e,?_,he⟩;rw[At1 (by rw[h.1];omega),h.1,this];rfl
theorem AtP.set {xs:List α}{x:α}(h:AtP R u es xs)(k:Nat)(he:R u e x):AtP R u (es.set k e) (xs.set k x):=by
 refine⟨by simp[h.1],fun j r hj=>?_⟩;rw[Au5]at hj⊢;split at hj
 ·rename_i e';subst e';split at hj
  ·rename_i hlt;simp only[Atd]at hj;subst hj;exact⟨e,by rw[if_pos rfl,if_pos (by rw[h.1];exact hlt)],he⟩
  ·cases hj
 ·rename_i e';rw[if_neg e'];exact h.2 j r hj
def LP (R:PH->Value->α->Prop)(sz:Nat)(u:PH)(v:Value)(xs:List α):Prop:=∃ es,Ad u v sz es/\AtP R u es xs
theorem LP.mono {sz:Nat}{v:Value}{xs:List α}(hR:∀ e x,R u e x->R u' e x)(h:LP R sz u v xs)(hl:PH.le u u'):LP R sz u' v xs:=by
 obtain⟨es,h1,h2⟩:=h;exact⟨es,h1.mono hl,h2.mono hR⟩
theorem LP.opn {sz:Nat}{v:Value}{xs:List α}(h:LP R sz u v xs):∃ a c,v=.slice a xs.length c:=by
 obtain⟨es,h1,h2⟩:=h;obtain⟨a,c,rfl⟩:=h1.opn;exact⟨a,c,by rw[h2.1]⟩
theorem LP.at {a:Option Addr}{xs:List α}(h:LP R sz u (.slice a n c) xs){x:α}(hj:xs[j]?=some x):∃ b off e,a=some ⟨b,off,none⟩/\ElP u b (off+j*sz) e/\R u e x:=by
 obtain⟨es,h1,h2⟩:=h;obtain⟨e,e1,e2⟩:=h2.2 j x hj;obtain⟨b,off,rfl,e3⟩:=h1.at' e1;exact⟨b,off,e,rfl,e3,e2⟩
end lists
def Uw (u:PH)(v:Value)(zs:List Int):Prop:=LP Bw 2 u v zs
def Xe (u:PH)(v:Value)(zs:List (List Int)):Prop:=LP Uw 1 u v zs
def Vc (u:PH)(v:Value)(qs:List (List Rat)):Prop:=LP Bn 1 u v qs
theorem Uw.mono {u u':PH}{v:Value}{zs:List Int}(h:Uw u v zs)(hl:PH.le u u'):Uw u' v zs:=LP.mono (fun _ _ h=>h.mono hl) h hl
theorem Xe.mono {u u':PH}{v:Value}{zs:List (List Int)}(h:Xe u v zs)(hl:PH.le u u'):Xe u' v zs:=LP.mono (fun _ _ h=>h.mono hl) h hl
theorem Vc.mono {u u':PH}{v:Value}{zs:List (List Rat)}(h:Vc u v zs)(hl:PH.le u u'):Vc u' v zs:=LP.mono (fun _ _ h=>h.mono hl) h hl
theorem Bn.lp {u:PH}{qs:List Rat}(h:Bn u v qs):LP An 4 u v qs:=h
theorem G3 (a:Option Addr)(n c:Nat):Ax 1 [.slice a n c]:=O3 (by intro e he;simp at he;exact⟨_,_,_,he⟩)
theorem Ae.some' {m0 m:PH}{t:TypeId}{a:Addr}(ha:Ae m0 m (.slice (some a) n c) t sz es):∃ g,a=⟨g,0,none⟩/\m0 g=none:=by
 rcases ha.2 with ⟨h,_,_⟩|⟨g,cap,rest,h0,_,h,_⟩
 ·grind
 ·grind
theorem Aju {α:Type}{l:List α}{e z:α}(hl:l.length=j)(hj:j<n):(l++As6 (n-j) z).set j e=l++[e]++As6 (n-(j+1)) z:=by
 subst hl;rw[show n-l.length=(n-(l.length+1))+1 by omega,List.replicate_succ];simp
theorem Aq3 (d e:Nat):((d:Int)/((Nat.gcd (d:Int).natAbs (e:Int).natAbs:Nat):Int)*(e:Int))=((A34 d e:Nat):Int):=by
 rw[Atv,Atv,A34,<-Nat.div_mul_right_comm (Nat.gcd_dvd_left d e)];rfl
def Ara (u:PH)(v:Value)(D:Nat)(cs:List (List Int)):Prop:=∃ b a n c a' n' c',v=.agg #[.bool b,.slice a n c,.slice a' n' c']/\Bw u (.agg #[.bool b,.slice a n c]) (D:Int)/\Xe u (.slice a' n' c') cs
def Gx (D:Nat)(r:List Rat):List Int:=r.map fun q=>q.num*((D/q.den:Nat):Int)
structure DI where
 b:Bool
 a:Option Addr
 n:Nat
 c:Nat
 D:Nat
def Asv (d:DI):Value:=.agg #[.bool d.b,.slice d.a d.n d.c]
def Aaf (u:PH)(d:DI)(L:Nat):Prop:=Bw u (Asv d) (d.D:Int)/\0<d.D/\d.D ∣ L
theorem Aaf.mono {u u':PH}{d:DI}{L:Nat}(h:Aaf u d L)(hl:PH.le u u'):Aaf u' d L:=⟨h.1.mono hl,h.2⟩
theorem Aph {u:PH}{A:List (List Rat)}{L:Nat}(h:Bx u v (Br A))(hT:∀ r∈A,∀ q∈r,Tx q)(hl:A.length<=1000000)(hl2:∀ r∈A,r.length<=1000000)(hL:∀ r∈A,∀ q∈r,q.den ∣ L)(hL0:0<L)(hLs:nl L<=1000000000) :
 Fn0 prog 114 [v] u fun v' u'=>∃ D,0<D/\D ∣ L/\(∀ r∈A,∀ q∈r,q.den ∣ D)/\Ara u' v' D (A.map (Gx D)):=by
 obtain⟨a,c,rfl⟩:=h.opn;rw[Ba]at h⊢;have hDs:∀ D:Nat,D ∣ L->nl (D:Int).natAbs<=1000000000:=fun D hD=>As9 (Ct (Nat.le_of_dvd hL0 hD)) hLs;refine Fn0.o func114 ?_;refine G.c call113 (Qy (z:=1) oV oV) ?_;intro v1 u1 l1 k1;obtain⟨b1,a1,n1,c1,rfl⟩:=k1.opn;refine G.l (ι:=Nat×List Value×(Option Addr×Nat×Nat)×DI)
  (fun i=>[(2,.p 0 0),(3,.p 1002 0),(4,sV i.2.2.1.1 i.2.2.1.2.1 i.2.2.1.2.2),(19,sV a A.length c),(20,iV A.length),(21,iV i.1)])
  (fun i=>[(0,⟨195,[bV false,sV none 0 0,sV none 0 0]⟩),(1002,⟨195,[bV i.2.2.2.b,sV i.2.2.2.a i.2.2.2.n i.2.2.2.c,sV none 0 0]⟩)])
  (fun i u' m'=>i.1<=A.length/\AtP Bn u' i.2.1 (A.take i.1)/\Ae PH.mt m' (.slice i.2.2.1.1 i.2.2.1.2.1 i.2.2.1.2.2) 123 1 i.2.1/\Aaf u' i.2.2.2 L/\∀ r∈A.take i.1,∀ q∈r,q.den ∣ i.2.2.2.D)
  (fun i=>A.length-i.1) (0,[],(none,0,0),⟨b1,a1,n1,c1,1⟩)
  ⟨Atu _,AtP.nil,Ae.nil _ _ _,⟨k1,Nat.one_pos,Nat.one_dvd _⟩,fun r hr=>by simp at hr⟩ ?_
 rintro J ⟨k,Ip,⟨a2,n2,c2⟩,⟨db,da,dn,dc,D⟩⟩ hJ u2 m2 l2 ⟨hk,hF,hA,hD,hdv⟩;simp only at hk hF hA hD hdv hJ;have hel:=hF.1;rw[Atm]at hel;by_cases hlt:k<A.length
 ·refine G.lT (k:Int) (A.length:Int) ?_;have htk:A[k]?=some A[k]:=As5 hlt;have hmem:=Ath hlt;obtain⟨ba,oa,a3,c3,rfl,e3,s3⟩:=(h.mono (l1.trans l2)).row (Ex htk);rw[Ata]at e3 s3;refine G.a ba oa A.length c k 1 oV ?_;refine G.lU none ba (oa+k*1) _ e3 ?_;refine G.c call117 (P5 s3 (hT _ hmem) (hl2 _ hmem)) ?_;intro v4 u4 l4 k4;obtain⟨a4,c4,rfl⟩:=k4.lp.opn;refine G.l (ι:=Nat×DI)
   (fun i=>[(2,.p 0 0),(3,.p 1002 0),(4,sV a2 n2 c2),(19,sV (some ⟨ba,oa,none⟩) A.length c),(20,iV A.length),(21,iV k),(7,sV a4 A[k].length c4),(27,sV a4 A[k].length c4),(28,iV (A[k].length)),(29,iV i.1)])
   (fun i=>[(0,⟨195,[bV false,sV none 0 0,sV none 0 0]⟩),(1002,⟨195,[bV i.2.b,sV i.2.a i.2.n i.2.c,sV none 0 0]⟩)])
   (fun i u' m'=>i.1<=A[k].length/\m'=m2/\Aaf u' i.2 L/\(∀ r∈A.take k,∀ q∈r,q.den ∣ i.2.D)/\∀ q∈A[k].take i.1,q.den ∣ i.2.D)
   (fun i=>A[k].length-i.1) (0,⟨db,da,dn,dc,D⟩)
   ⟨Atu _,rfl,hD.mono l4,hdv,fun q hq=>by simp at hq⟩ ?_
  rintro J2 ⟨j,⟨eb,ea,en,ec,E⟩⟩ hJ2 u5 m5 l5 ⟨hj,rfl,hE,hev,hrv⟩;simp only at hj hE hev hrv hJ2;by_cases hlt2:j<A[k].length
  ·refine G.lT (j:Int) (A[k].length:Int) ?_;have hqj:A[k][j]?=some A[k][j]:=As5 hlt2;have hqm:=Ath hlt2;have htx:=hT _ hmem _ hqm;obtain⟨b6,o6,e6,rfl,h6,f6⟩:=(k4.mono l5).lp.at hqj;obtain⟨x1,x2,x3,x4,x5,x6,x7,x8,rfl⟩:=f6.opn;refine G.a b6 o6 A[k].length c4 j 4 hlt2 ?_;refine G.lU (some 4) b6 (o6+j*4) _ h6 ?_;refine G.c call176 (Aae f6) ?_;intro v7 u7 l7 k7;obtain⟨b7,a7,n7,c7,rfl⟩:=k7.opn;refine G.c call175 (Ao3 ((hE.mono l7).1) k7 (As9 (hDs _ hE.2.2) oV) (As9 (Bi htx.den) oV) (by have:=hE.2.1;dsimp only at this⊢;omega)) ?_;intro v8 u8 l8 k8;rw[Aq3]at k8;obtain⟨b8,a8,n8,c8,rfl⟩:=k8.opn;refine G.add (j:Int) 1 ((j+1:Nat):Int) kV oV oV (by have:=hl2 _ hmem;omega) ?_;refine G.b (hJ2 (j+1,⟨b8,a8,n8,c8,A34 E A[k][j].den⟩) _ _ _ cV ((l5.trans l7).trans l8) ⟨dV,rfl,⟨k8,?_,?_⟩,?_,?_⟩ dV)
   ·have:=hE.2.1;simp only at this⊢;exact Nat.lcm_pos this (A[k][j]).den_pos
   ·exact Nat.lcm_dvd hE.2.2 (hL _ hmem _ hqm)
   ·exact fun r hr q hq=>A3m (hev r hr q hq) (A2w _ _)
   ·intro q hq;dsimp only at hq⊢;rw[At0,hqj]at hq;rcases Ati.1 hq with hq|hq
    ·exact A3m (hrv q hq) (A2w _ _)
    ·simp at hq;subst hq;exact Nat.dvd_lcm_right _ _
  ·have:j=A[k].length:=oV
   subst this;rw[At9]at hrv;refine G.lF (A[k].length:Int) (A[k].length:Int) ?_;refine G.B 123 1 24 (.slice none 0 0) [.slice a4 A[k].length c4] (G3 _ _ _) ?_;intro g6 u6 l6 e6;refine G.append 123 1 24 (.slice none 0 0) PH.mt Ip [.slice a4 A[k].length c4] (.slice a2 n2 c2) g6 0 1 1 kV rfl rfl oV hA e6 (G3 _ _ _) rfl oV oV oV ?_;intro v7 m7 hA7;obtain⟨a7,c7,rfl⟩:=hA7.shape;refine G.i k ?_;refine G.b (hJ (k+1,Ip++[Au8 a4 A[k].length c4],(a7,(Ip++[Au8 a4 A[k].length c4]).length,c7),⟨eb,ea,en,ec,E⟩) _ _ _ cV (((l2.trans l4).trans l5).trans l6) ⟨dV,?_,hA7,hE.mono l6,?_⟩ dV)
   ·dsimp only;rw[At0,htk];exact (hF.mono (fun _ _ h=>h.mono ((l4.trans l5).trans l6))).snoc (k4.mono (l5.trans l6))
   ·intro r hr;dsimp only at hr⊢;rw[At0,htk]at hr;rcases Ati.1 hr with hr|hr
    ·exact hev r hr
    ·simp at hr;subst hr;exact hrv
 ·have:k=A.length:=oV
  subst this;rw[At9]at hF hdv;refine G.lF (A.length:Int) (A.length:Int) ?_;refine G.give PH.mt Ip _ kV hA (fun _=>.inl rfl) ?_;intro u3 l3 hL3;have hlv:Ip.length=A.length:=by rw[hF.1]
  obtain⟨_,_,e0⟩:=hL3.opn;simp only[Atr]at e0;obtain⟨rfl,rfl,rfl⟩:=e0;rw[hlv]at hL3⊢;have hFM:Vc u3 (.slice a2 A.length c2) A:=⟨Ip,hL3,hF.mono (fun _ _ h=>h.mono l3)⟩;refine G.l (ι:=Nat×List Value×(Option Addr×Nat×Nat))
   (fun i=>[(2,.p 0 0),(3,.p 1002 0),(45,sV a2 A.length c2),(46,iV A.length),(47,iV i.1)])
   (fun i=>[(0,⟨195,[bV false,sV none 0 0,sV none 0 0]⟩),(1002,⟨195,[bV db,sV da dn dc,sV i.2.2.1 i.2.2.2.1 i.2.2.2.2]⟩)])
   (fun i u' m'=>i.1<=A.length/\AtP Uw u' i.2.1 ((A.take i.1).map (Gx D))/\Ae PH.mt m' (.slice i.2.2.1 i.2.2.2.1 i.2.2.2.2) 246 1 i.2.1)
   (fun i=>A.length-i.1) (0,[],(none,0,0))
   ⟨Atu _,AtP.nil,Ae.nil _ _ _⟩ ?_
  rintro J2 ⟨k,cv,⟨a5,n5,c5⟩⟩ hJ2 u5 m5 l5 ⟨hk5,hN,hA5⟩;simp only at hk5 hN hA5 hJ2;have hel5:=hN.1;rw[Ata,Atm]at hel5;by_cases hlt:k<A.length
  ·refine G.lT (k:Int) (A.length:Int) ?_;have htk:A[k]?=some A[k]:=As5 hlt;have hmem:=Ath hlt;have hrl:=hl2 _ hmem;obtain⟨b6,o6,e6,rfl,h6,f6⟩:=LP.at (hFM.mono l5) htk;obtain⟨a7,c7,rfl⟩:=f6.lp.opn;refine G.a b6 o6 A.length c2 k 1 oV ?_;refine G.lU none b6 (o6+k*1) _ h6 ?_;refine G.make 101 2 32 (.agg #[.bool false,.slice none 0 0]) A[k].length kV rfl rfl oV oV oV ?_;rintro v8 m8 hA8 ⟨a8,rfl⟩;obtain⟨g8,rfl,hg8⟩:=hA8.some';refine G.l (ι:=Nat×List Value)
    (fun i=>[(2,.p 0 0),(3,.p 1002 0),(45,sV (some ⟨b6,o6,none⟩) A.length c2),(46,iV A.length),(47,iV k),(12,sV (some ⟨g8,0,none⟩) A[k].length A[k].length),(54,sV a7 A[k].length c7),(55,iV (A[k].length)),(56,iV i.1)])
    (fun i=>[(0,⟨195,[bV false,sV none 0 0,sV none 0 0]⟩),(1002,⟨195,[bV db,sV da dn dc,sV a5 n5 c5]⟩)])
    (fun i u' m'=>i.1<=A[k].length/\AtP Bw u' i.2 (Gx D (A[k].take i.1))/\Ae m5 m' (.slice (some ⟨g8,0,none⟩) A[k].length A[k].length) 101 2 (i.2++As6 (A[k].length-i.1) (.agg #[.bool false,.slice none 0 0])))
    (fun i=>A[k].length-i.1) (0,[])
    ⟨Atu _,AtP.nil,by simpa using hA8⟩ ?_
   rintro J3 ⟨j,done⟩ hJ3 u9 m9 l9 ⟨hj9,hN9,hA9⟩;simp only at hj9 hN9 hA9 hJ3;have hel9:=hN9.1;rw[Gx,Ata,Atm]at hel9;by_cases hlt2:j<A[k].length
   ·refine G.lT (j:Int) (A[k].length:Int) ?_;have hqj:A[k][j]?=some A[k][j]:=As5 hlt2;have hqm:=Ath hlt2;have htx:=hT _ hmem _ hqm;have hq0:=(A[k][j]).den_pos;obtain⟨b10,o10,e10,rfl,h10,f10⟩:=(f6.mono l9).lp.at hqj;obtain⟨x1,x2,x3,x4,x5,x6,x7,x8,rfl⟩:=f10.opn;refine G.a b10 o10 A[k].length c7 j 4 hlt2 ?_;refine G.lU (some 4) b10 (o10+j*4) _ h10 ?_;refine G.c call176 (Aae f10) ?_;intro v11 u11 l11 k11;obtain⟨b11,a11,n11,c11,rfl⟩:=k11.opn;refine G.c call162 (Sb ((hD.mono (((l3.trans l5).trans l9).trans l11)).1) k11 (As9 (hDs _ hD.2.2) oV) (As9 (Bi htx.den) oV) oV) ?_;rintro v12 u12 l12 ⟨v13,v14,rfl,k13,k14⟩;obtain⟨b13,a13,n13,c13,rfl⟩:=k13.opn;obtain⟨b14,a14,n14,c14,rfl⟩:=k14.opn;refine G.c call177 (Al4 (f10.mono (l11.trans l12))) ?_;intro v15 u15 l15 k15;obtain⟨b15,a15,n15,c15,rfl⟩:=k15.opn;have hdq:((D:Int)/(A[k][j].den:Int))=((D/A[k][j].den:Nat):Int):=by push_cast;rfl
    rw[hdq]at k13;refine G.c call100 (E6 k15 (k13.mono l15) (As9 (Bi htx.1) oV) (by rw[Atv];exact As9 (Ww _ _) (As9 (hDs _ hD.2.2) oV))) ?_;intro v16 u16 l16 k16;obtain⟨b16,a16,n16,c16,rfl⟩:=k16.opn;refine G.a g8 0 A[k].length A[k].length j 2 hlt2 ?_;refine G.storeA 2 m5 _ g8 A[k].length A[k].length j (.agg #[.bool b16,.slice a16 n16 c16]) kV hA9 gV rfl rfl ?_;intro m17 hA17;rw[Aju oV hlt2]at hA17;refine G.i j ?_;refine G.b (hJ3 (j+1,done++[.agg #[.bool b16,.slice a16 n16 c16]]) _ _ _ cV ((((l9.trans l11).trans l12).trans l15).trans l16) ⟨dV,?_,hA17⟩ dV);dsimp only;rw[At0,hqj,Gx,Atk];exact (hN9.mono (fun _ _ h=>h.mono (((l11.trans l12).trans l15).trans l16))).snoc k16
   ·have:j=A[k].length:=oV
    subst this;rw[At9]at hN9;rw[Avc,Av3,Auu]at hA9;refine G.lF (A[k].length:Int) (A[k].length:Int) ?_;refine G.give m5 done _ kV hA9 (fun _=>.inl rfl) ?_;intro u10 l10 hL10;refine G.B 246 1 24 (.slice none 0 0) [.slice (some ⟨g8,0,none⟩) A[k].length A[k].length] (G3 _ _ _) ?_;intro g11 u11 l11 e11;refine G.append 246 1 24 (.slice none 0 0) PH.mt cv [.slice (some ⟨g8,0,none⟩) A[k].length A[k].length] (.slice a5 n5 c5) g11 0 1 1 kV rfl rfl oV hA5 e11 (G3 _ _ _) rfl oV oV oV ?_;intro v12 m12 hA12;obtain⟨a12,c12,rfl⟩:=hA12.shape;refine G.i k ?_;refine G.b (hJ2 (k+1,cv++[.slice (some ⟨g8,0,none⟩) A[k].length A[k].length],(a12,(cv++[Au8 (some ⟨g8,0,none⟩) A[k].length A[k].length]).length,c12)) _ _ _ cV (((l5.trans l9).trans l10).trans l11) ⟨dV,?_,hA12⟩ dV);dsimp only;rw[At0,htk,Atk];exact (hN.mono (fun _ _ h=>h.mono ((l9.trans l10).trans l11))).snoc (x:=Gx D A[k]) ⟨done,hL10.mono l11,hN9.mono (fun _ _ h=>h.mono (l10.trans l11))⟩
  ·have:k=A.length:=oV
   subst this;rw[At9]at hN;refine G.lF (A.length:Int) (A.length:Int) ?_;refine G.give PH.mt cv _ kV hA5 (fun _=>.inl rfl) ?_;intro u6 l6 hL6;exact G.r (.agg #[.bool db,.slice da dn dc,.slice a5 n5 c5]) ⟨rfl,D,hD.2.1,hD.2.2,hdv,db,da,dn,dc,a5,n5,c5,rfl,(hD.mono ((l3.trans l5).trans l6)).1,cv,hL6,hN.mono (fun _ _ h=>h.mono l6)⟩
end
section
variable {u:PH}{v:Value}
theorem Xe.opn {u:PH}{v:Value}{cs:List (List Int)}(h:Xe u v cs):∃ a c,v=.slice a cs.length c:=LP.opn h
theorem Uw.opn {u:PH}{v:Value}{cs:List Int}(h:Uw u v cs):∃ a c,v=.slice a cs.length c:=LP.opn h
theorem Am5 {D K:Nat}{cs:List (List Int)}(ht:D1 u)(h:Ara u v D cs)(hK:K<=400)(hD:Aua D<=K)(hc:∀ r∈cs,∀ z∈r,Aua z.natAbs<=K)(hl:cs.length<=1000000)(hl2:∀ r∈cs,r.length<=1000000) :
 Fn0 prog 115 [v] u fun v' _=>∃ n:Nat,v'=.int .i64 (n:Int)/\n<=K:=by
 obtain⟨b,a,n,c,a',n',c',rfl,h1,h2⟩:=h;obtain⟨a'',c'',e⟩:=h2.opn;simp only[Atr]at e;obtain⟨rfl,rfl,rfl⟩:=e;refine Fn0.o func115 ?_;refine G.c call103 (Kn ht h1 (by rw[Atv];exact As9 (Bi oV) oV)) ?_;rintro v1 u1 l1 rfl;rw[Atv];refine G.l (ι:=Nat×Nat) (fun i=>[(1,.p 0 0),(3,iV i.2),(12,sV a' cs.length c'),(13,iV cs.length),(14,iV i.1)])
  (fun i=>[(0,⟨195,[bV b,sV a n c,sV a' cs.length c']⟩)])
  (fun i u' m'=>i.1<=cs.length/\i.2<=K/\m'=PH.mt) (fun i=>cs.length-i.1) (0,Aua D) ⟨Atu _,hD,rfl⟩ ?_
 rintro J ⟨i,k⟩ hJ u2 m2 l2 ⟨hi,hk,rfl⟩;simp only at hi hk hJ;by_cases hlt:i<cs.length
 ·refine G.lT (i:Int) (cs.length:Int) ?_;have hti:cs[i]?=some cs[i]:=As5 hlt;have hmem:=Ath hlt;obtain⟨b3,o3,e3,rfl,h3,f3⟩:=LP.at (h2.mono (l1.trans l2)) hti;obtain⟨a4,c4,rfl⟩:=f3.opn;refine G.a b3 o3 cs.length c' i 1 hlt ?_;refine G.lU none b3 (o3+i*1) _ h3 ?_;refine G.l (ι:=Nat×Nat) (fun j=>[(1,.p 0 0),(3,iV j.2),(12,sV (some ⟨b3,o3,none⟩) cs.length c'),(13,iV cs.length),(14,iV i),(18,sV a4 cs[i].length c4),(19,iV (cs[i].length)),(20,iV j.1)])
   (fun j=>[(0,⟨195,[bV b,sV a n c,sV (some ⟨b3,o3,none⟩) cs.length c']⟩)])
   (fun j u' m'=>j.1<=cs[i].length/\j.2<=K/\m'=PH.mt) (fun j=>cs[i].length-j.1) (0,k) ⟨Atu _,hk,rfl⟩ ?_
  rintro J2 ⟨j,k2⟩ hJ2 u5 m5 l5 ⟨hj,hk2,rfl⟩;simp only at hj hk2 hJ2;have hrl:=hl2 _ hmem;by_cases hlt2:j<cs[i].length
  ·refine G.lT (j:Int) (cs[i].length:Int) ?_;have htj:cs[i][j]?=some cs[i][j]:=As5 hlt2;have hzm:=hc _ hmem _ (Ath hlt2);obtain⟨b6,o6,e6,rfl,h6,f6⟩:=LP.at (f3.mono l5) htj;obtain⟨b7,a7,n7,c7,rfl⟩:=f6.opn;refine G.a b6 o6 cs[i].length c4 j 2 hlt2 ?_;refine G.lU (some 2) b6 (o6+j*2) _ h6 ?_;refine G.c call103 (Kn (ht.mono ((l1.trans l2).trans l5)) f6 (As9 (Bi oV) oV)) ?_;rintro v8 u8 l8 rfl;generalize Aua (cs[i][j]).natAbs=d at *
   refine G.maxI [3,3] (k2:Int) (d:Int) ((max k2 d:Nat):Int) kV oV ?_;refine G.i j ?_;exact G.b (hJ2 (j+1,max k2 d) _ _ _ cV (l5.trans l8) ⟨dV,dV,rfl⟩ dV)
  ·refine G.lF (j:Int) (cs[i].length:Int) ?_;refine G.i i ?_;exact G.b (hJ (i+1,k2) _ _ _ cV (l2.trans l5) ⟨dV,hk2,rfl⟩ dV)
 ·refine G.lF (i:Int) (cs.length:Int) ?_;exact G.r (.int .i64 (k:Int)) ⟨rfl,k,rfl,hk⟩
theorem Al5 {u:PH}{v:Value}{A:List (List Rat)}{L K N:Nat}(ht:D1 u)(h:Bx u v (Br A))(hT:∀ r∈A,∀ q∈r,Tx q)(hl:A.length<=N)(hl2:∀ r∈A,r.length<=N)(hN:N<=12)(hNK:N*K<=600)(hK:K<=400)
 (hL:∀ r∈A,∀ q∈r,q.den ∣ L) (hL0:0<L) (hLs:nl L<=1000000000) (hD:∀ D:Nat,D ∣ L->0<D->Aua D<=K/\∀ r∈A,∀ q∈r,q.den ∣ D->Aua (q.num*((D/q.den:Nat):Int)).natAbs<=K) :
 Fn0 prog 49 [v] u fun v' _=>v'=.bool false:=by
 have hof:=fun (v:Value) (u':PH) (hv:Bx u' v (Br A))=>Aph hv hT oV (fun r hr=>by have:=hl2 r hr;omega) hL hL0 hLs;obtain⟨a,c,rfl⟩:=h.opn;rw[Ba]at h⊢;have hdig:=fun (u':PH) (x:Value) (D:Nat) (ht':D1 u') (hx:Ara u' x D (A.map (Gx D))) (h1:D ∣ L) (h0:0<D) (h2:∀ r∈A,∀ q∈r,q.den ∣ D) =>
  Am5 (K:=K) ht' hx hK (hD D h1 h0).1 (fun r hr z hz=>by
   obtain⟨r0,hr0,rfl⟩:=Ate.1 hr;obtain⟨q,hq,rfl⟩:=Ate.1 hz;exact (hD D h1 h0).2 r0 hr0 q hq (h2 r0 hr0 q hq)) (by rw[Ata];omega) (fun r hr=>by
   obtain⟨r0,hr0,rfl⟩:=Ate.1 hr;rw[Gx,Ata];have:=hl2 r0 hr0;omega)
 refine Fn0.o func49 ?_;by_cases hpos:0<A.length
 ·refine G.gT (A.length:Int) 0 ?_;have htk:A[0]?=some A[0]:=As5 hpos;have hrl:=hl2 _ (Ath hpos);obtain⟨ba,oa,a',c',rfl,ea,es⟩:=h.row (Ex htk);rw[Ata]at ea;generalize A[0].length=r0 at *
  refine G.a ba oa A.length c 0 1 oV ?_;refine G.lU none ba (oa+0*1) (.slice a' r0 c') ea ?_;refine G.maxI [3,3] (A.length:Int) (r0:Int) ((max A.length r0:Nat):Int) kV oV ?_;refine G.c call114 (hof _ _ h) ?_;rintro v1 u1 l1 ⟨D,hD0,hDL,hdv,hTab⟩;have hTab':=hTab;obtain⟨x1,x2,x3,x4,x5,x6,x7,rfl,_,_⟩:=hTab;refine G.c call115 (hdig _ _ D (ht.mono l1) hTab' hDL hD0 hdv) ?_;rintro v2 u2 l2 ⟨n,rfl,hn⟩;have hm:max A.length r0*n<=600:=As9 (Aut (by omega:max A.length r0<=N) hn) hNK;refine G.mul ((max A.length r0:Nat):Int) (n:Int) ((max A.length r0*n:Nat):Int) kV (by push_cast;rfl) oV oV ?_;refine G.gF ((max A.length r0*n:Nat):Int) 600 ?_;exact G.r (.bool false) ⟨rfl,rfl⟩
 ·refine G.gF (A.length:Int) 0 ?_;refine G.c call114 (hof _ _ h) ?_;rintro v1 u1 l1 ⟨D,hD0,hDL,hdv,hTab⟩;have hTab':=hTab;obtain⟨x1,x2,x3,x4,x5,x6,x7,rfl,_,_⟩:=hTab;refine G.c call115 (hdig _ _ D (ht.mono l1) hTab' hDL hD0 hdv) ?_;rintro v2 u2 l2 ⟨n,rfl,hn⟩;have h0:A.length=0:=oV
  refine G.mul (A.length:Int) (n:Int) 0 kV (by rw[h0];simp) oV oV ?_;refine G.gF 0 600 ?_;exact G.r (.bool false) ⟨rfl,rfl⟩
structure Vi (A:List (List Rat))(L K:Nat):Prop where
 den:∀ r∈A,∀ q∈r,q.den ∣ L
 pos:0<L
 nl:nl L<=1000000000
 dig:∀ D:Nat,D ∣ L->0<D->Aua D<=K/\∀ r∈A,∀ q∈r,q.den ∣ D->Aua (q.num*((D/q.den:Nat):Int)).natAbs<=K
theorem Arp {A:List (List Rat)}{L K:Nat}(ht:D1 u)(h:Bx u v (Br A))(hT:∀ r∈A,∀ q∈r,Tx q)(hl:A.length<=6)(hl2:∀ r∈A,r.length<=6)(hK:6*K<=600)(hL:Vi A L K) :
 Fn0 prog 48 [v] u fun v' _=>v'=.bool false:=by
 have hh:=fun (v:Value) (hv:Bx u v (Br A))=>Al5 (N:=6) ht hv hT hl hl2 oV hK oV hL.den hL.pos hL.nl hL.dig;obtain⟨a,c,rfl⟩:=h.opn;rw[Ba]at h⊢;refine Fn0.o func48 ?_;refine G.gF (A.length:Int) 6 ?_;refine G.c call49 (hh _ h) ?_;rintro v1 u1 l1 rfl;exact G.r (.bool false) ⟨rfl,rfl⟩
end
section
variable [Ca] [Df] [Pu]
structure Arr where
 v:Value
 t:TypeId
 sz:Nat
 es:List Value
def Arr.At (a:Arr)(m0 m:PH):Prop:=Ae m0 m a.v a.t a.sz a.es
def Bag:PH->List Arr->Prop
 |_,[]=>True
 |m,a::l=>∃ m0,a.At m0 m/\Bag m0 l
theorem Jb (m:PH){g h:Nat}(o p:Obj)(hn:g≠h):(m.upd g o).upd h p=(m.upd h p).upd g o:=by
 funext k
 unfold PH.upd;by_cases h1:k=g
 ·subst h1;simp[hn]
 ·by_cases h2:k=h
  ·subst h2;simp[h1]
  ·simp[h1,h2]
theorem At.swap {x y:Arr}{m0 m1 m:PH}(hy:y.At m1 m)(hx:x.At m0 m1):∃ m2,y.At m0 m2/\x.At m2 m/\∀ (x':Arr) m',x'.At m2 m'->∃ m1',y.At m1' m'/\x'.At m0 m1':=by
 obtain⟨oy,hy⟩:=hy;rcases hy with ⟨y1,y2,rfl⟩|⟨h,cap,rest,y1,rfl,y2,y3,y4,y5⟩
 ·exact⟨m0,⟨oy,.inl ⟨y1,y2,rfl⟩⟩,hx,fun x' m' hx'=>⟨m',⟨oy,.inl ⟨y1,y2,rfl⟩⟩,hx'⟩⟩
 ·obtain⟨ox,hx⟩:=hx;rcases hx with ⟨x1,x2,rfl⟩|⟨g,cap',rest',x1,rfl,x2,x3,x4,x5⟩
  ·refine⟨_,⟨oy,.inr ⟨h,cap,rest,y1,rfl,y2,y3,y4,y5⟩⟩,⟨ox,.inl ⟨x1,x2,rfl⟩⟩,fun x' m' hx'=>?_⟩;obtain⟨ox',hx'⟩:=hx';rcases hx' with ⟨z1,z2,rfl⟩|⟨g',cap'',rest'',z1,rfl,z2,z3,z4,z5⟩
   ·exact⟨_,⟨oy,.inr ⟨h,cap,rest,y1,rfl,y2,y3,y4,y5⟩⟩,⟨ox',.inl ⟨z1,z2,rfl⟩⟩⟩
   ·have hne:g'≠h:=fun e=>by subst e;rw[Ab]at z1;cases z1
    rw[Ac _ _ hne]at z1;refine⟨_,⟨oy,.inr ⟨h,cap,rest,?_,Jb _ _ _ hne.symm,y2,y3,y4,y5⟩⟩,⟨ox',.inr ⟨g',cap'',rest'',z1,rfl,z2,z3,z4,z5⟩⟩⟩;rw[Ac _ _ hne.symm];exact y1
  ·have hne:h≠g:=fun e=>by subst e;rw[Ab]at y1;cases y1
   rw[Ac _ _ hne]at y1;refine⟨_,⟨oy,.inr ⟨h,cap,rest,y1,rfl,y2,y3,y4,y5⟩⟩,⟨ox,.inr ⟨g,cap',rest',?_,Jb _ _ _ hne.symm,x2,x3,x4,x5⟩⟩,fun x' m' hx'=>?_⟩
   ·rw[Ac _ _ hne.symm];exact x1
   ·obtain⟨ox',hx'⟩:=hx';rcases hx' with ⟨z1,z2,rfl⟩|⟨g',cap'',rest'',z1,rfl,z2,z3,z4,z5⟩
    ·exact⟨_,⟨oy,.inr ⟨h,cap,rest,y1,rfl,y2,y3,y4,y5⟩⟩,⟨ox',.inl ⟨z1,z2,rfl⟩⟩⟩
    ·have hne':g'≠h:=fun e=>by subst e;rw[Ab]at z1;cases z1
     rw[Ac _ _ hne']at z1;refine⟨_,⟨oy,.inr ⟨h,cap,rest,?_,Jb _ _ _ hne'.symm,y2,y3,y4,y5⟩⟩,⟨ox',.inr ⟨g',cap'',rest'',z1,rfl,z2,z3,z4,z5⟩⟩⟩;rw[Ac _ _ hne'.symm];exact y1
theorem Bag.focus:∀ {l:List Arr} {m:PH} (_:Bag m l) (i:Nat) {x:Arr},l[i]?=some x->∃ m0,x.At m0 m/\∀ (x':Arr) m',x'.At m0 m'->Bag m' (l.set i x')
 |[],m,_,i,x,hi=>by simp at hi
 |y::l,m,⟨m1,hy,hl⟩,0,x,hi=>by
  simp at hi;subst hi;exact⟨m1,hy,fun x' m' hx'=>⟨m1,hx',hl⟩⟩
 |y::l,m,⟨m1,hy,hl⟩,i+1,x,hi=>by
  simp at hi;obtain⟨m0,hx,hput⟩:=Bag.focus hl i hi;obtain⟨m2,hy2,hx2,hk⟩:=At.swap hy hx;refine⟨m2,hx2,fun x' m' hx'=>?_⟩;obtain⟨m1',k1,k2⟩:=hk x' m' hx';exact⟨m1',k1,hput x' m1' k2⟩
theorem Bag.take:∀ {l:List Arr} {m:PH} (_:Bag m l) (i:Nat) {x:Arr},l[i]?=some x->∃ m0,x.At m0 m/\Bag m0 (l.eraseIdx i)
 |[],m,_,i,x,hi=>by simp at hi
 |y::l,m,⟨m1,hy,hl⟩,0,x,hi=>by
  simp at hi;subst hi;exact⟨m1,hy,hl⟩
 |y::l,m,⟨m1,hy,hl⟩,i+1,x,hi=>by
  simp at hi;obtain⟨m0,hx,hput⟩:=Bag.take hl i hi;obtain⟨m2,hy2,hx2,hk⟩:=At.swap hy hx;exact⟨m2,hx2,m0,hy2,hput⟩
theorem Bag.add {l:List Arr}{m m':PH}(h:Bag m l){x:Arr}(hx:x.At m m'):Bag m' (x::l):=⟨m,hx,h⟩
theorem Bag.el {l:List Arr}{m:PH}(h:Bag m l)(i:Nat){x:Arr}(hi:l[i]?=some x){b n c j:Nat}{e:Value}(hv:x.v=.slice (some ⟨b,0,none⟩) n c)(hj:x.es[j]?=some e):ElP m b (0+j*x.sz) e:=by
 obtain⟨m0,hx,_⟩:=h.focus i hi;unfold Arr.At at hx;rw[hv]at hx;exact hx.el hj
theorem Bag.shape {l:List Arr}{m:PH}(h:Bag m l)(i:Nat){x:Arr}(hi:l[i]?=some x):∃ a c,x.v=.slice a x.es.length c:=by
 obtain⟨m0,hx,_⟩:=h.focus i hi;exact hx.shape
theorem Bag.ptr {l:List Arr}{m:PH}(h:Bag m l)(i:Nat){x:Arr}(hi:l[i]?=some x)(hn:x.es≠[]):∃ b c,x.v=.slice (some ⟨b,0,none⟩) x.es.length c:=by
 obtain⟨m0,hx,_⟩:=h.focus i hi;exact hx.ptr hn
theorem Ae.join {m mc:PH}{v:Value}{t:TypeId}{sz:Nat}{es:List Value}(h:Ae PH.mt mc v t sz es)(hf:∀ g,mc g≠none->m g=none):Ae m (m.or mc) v t sz es:=by
 obtain⟨ho,h⟩:=h;rcases h with ⟨h1,h2,rfl⟩|⟨g,cap,rest,h1,rfl,h2,h3,h4,h5⟩
 ·refine⟨ho,.inl ⟨h1,h2,?_⟩⟩
  funext k;unfold PH.or;split
  ·rename_i o e;rw[e]
  ·rename_i e;rw[e];rfl
 ·have hg:m g=none:=hf g (by rw[Ab];simp);refine⟨ho,.inr ⟨g,cap,rest,hg,?_,h2,h3,h4,h5⟩⟩
  funext k
  by_cases hk:k=g
  ·subst hk;rw[Ab,PH.or_r hg,Ab]
  ·rw[Ac _ _ hk];unfold PH.or;split
   ·rename_i o e;rw[e]
   ·rename_i e;rw[e,Ac _ _ hk];rfl
section rules
variable {P:Program} [A7 P] {fn:Func} {Post:By} {st:List KI×S} {u m:PH}
theorem G.callO (f:Nat)(args:List Value){R:Value->PH->PH->Prop}(h:Al P (adv P st)=.call f args)(hc:∀ args w,(callFunc f args).run P w=.ok (.enter f args) w)(c:Ak P f args u PH.mt R)
 (k:∀ v u' mc,PH.le u u'->R v u' mc->(∀ g,mc g≠none->m g=none)->G P fn Post (nx (adv P st) v) u' (m.or mc)):G P fn Post st u m:=by
 refine G.big (K:=fun v u' m'=>∃ mc,m'=m.or mc/\R v u' mc/\∀ g,mc g≠none->m g=none) h mV El (.inl fun v u' m' hK=>?_) (fun env o hview w hgd=>?_) (fun v u' m' h1 h2=>?_)
 ·obtain⟨mc,rfl,_⟩:=hK;exact fun g o hg=>PH.or_l hg
 ·refine Kc hview hc w _ (Calls.mono (c w hgd.noM) fun e w' he=>?_);obtain⟨v,u',mc,e1,e2,e3,e4⟩:=he;have hor:m.or PH.mt=m:=by
   funext g;unfold PH.or;split
   ·rename_i o e;rw[e]
   ·rename_i e;rw[e];rfl
  have hfr:∀ g,mc g≠none->m g=none:=fun g hg=>by
   rcases At8 g w.heap.size with hlt|hge
   ·exact absurd (e3.ms g hlt rfl) hg
   ·exact hgd.pm.none hge
  obtain⟨g1,g2⟩:=B1.frameM (mf:=m) (mc:=PH.mt) (by rw[hor];exact hgd) (fun _=>.inr rfl) e2 e3;rw[hor]at g2;exact⟨v,e1,u',m.or mc,g1,g2,mc,rfl,e4,hfr⟩
 ·obtain⟨mc,rfl,hR,hf⟩:=h2;exact k v u' mc h1 hR hf
theorem Xp {env:Operand->Value}{o:Op}{ts:List TypeId}{xs:List Value}(h:A8 P env o=.blt .copy ts xs):Ld o=true/\En o=false:=by
 obtain⟨c,rfl,h2,_⟩:=Pe h;obtain⟨cal,a,t⟩:=c;simp only at h2;subst h2;exact⟨rfl,rfl⟩
theorem G.copyM (dT sT e:TypeId)(sz g o n c:Nat)(a:Addr)(sn sc:Nat)(t:TypeId)(cur cs:List Value)(h:Al P (adv P st)=.blt .copy [dT,sT] [.slice (some ⟨g,o,none⟩) n c,.slice (some a) sn sc])
 (hu:P.underlying dT=some (.slice e)) (hsz:szB P e=some sz) (hb:m g=some (.cells cur.toArray t (0,0))) (hk:cs.length=Auz sn n*sz)
 (hsrc:∀ w,Ek u w->Ek m w->∀ (j:Nat) (v:Value),cs[j]?=some v->w.cell? (a.add j)=some v) (hfit:o+cs.length<=cur.length) (h1:∀ x∈cs,Bh x=true) (h2:∀ x∈cur,Bh x=true)
 (k:G P fn Post (nx (adv P st) (.int .i64 ((Auz sn n:Nat):Int))) u (m.upd g (.cells (cur.take o++cs++cur.drop (o+cs.length)).toArray t (0,0)))):G P fn Post st u m:=by
 refine G.big (K:=fun v' u' m'=>u'=u/\v'=.int .i64 ((Auz sn n:Nat):Int)/\m'=m.upd g (.cells (cur.take o++cs++cur.drop (o+cs.length)).toArray t (0,0))) h mV (fun env op hv=>(Xp hv).2) (.inr fun env op hv=>(Xp hv).1) (fun env op hview w hgd=>?_) (fun v' u' m' _ hk=>?_)
 ·obtain⟨cc,e1,e2,e3,e4⟩:=Pe hview;obtain⟨dst,opp,type,pos,after,guard⟩:=op;obtain⟨cal,ar,ty⟩:=cc;simp only at e1 e2 e3 e4;subst e1 e2 e3;have hgw:=hgd.pm g _ hb;have hl:=run_loadCells_list (P:=P) w a cs (hsrc w hgd.pu hgd.pm);have hst:=run_storeCells_at P g o t cs 0 cur.toArray w hgw (by simpa using hfit) (fun x hx=>Ie (h1 x hx));have hrun:(Builtin.copy_ #[dT,sT] type #[.slice (some ⟨g,o,none⟩) n c,.slice (some a) sn sc]).run P w=.ok (.int .i64 ((Auz sn n:Nat):Int)) (w.setRow g (cur.take o++cs++cur.drop (o+cs.length)).toArray):=by
   simp only[Avb,Av4]at hst;simp[Builtin.copy_,run_underlying hu,Builtin.lenOf,Builtin.firstCells,Be hsz,<-hk,hl];rw[hst];simp[goInt]
  have hcell:∀ x∈(cur.take o++cs++cur.drop (o+cs.length)).toArray.toList,Bh x=true:=by
   intro x hx;simp only[Av4,Ati]at hx;rcases hx with (hx|hx)|hx
   ·exact h2 x (Avd hx)
   ·exact h1 x hx
   ·exact h2 x (Avz hx)
  obtain⟨g1,g2⟩:=hgd.setM hb hcell;unfold E3;have hex:(execOp env ⟨dst,.call ⟨.builtin .copy,ar,#[dT,sT]⟩,type,pos,after,guard⟩).run P w=.ok (.value (.int .i64 ((Auz sn n:Nat):Int))) (w.setRow g (cur.take o++cs++cur.drop (o+cs.length)).toArray):=by
   simp[execOp,resolve,invoke,builtin,e4,hrun]
  rw[hex];exact⟨u,_,g1,g2,rfl,rfl,rfl⟩
 ·obtain⟨rfl,rfl,rfl⟩:=hk;exact k
end rules
end
section
variable {e v z:Value}{es:List Value}{k n q sz:Nat}
theorem Aif (h:Ax sz es)(k:Nat):(Aw es).take (k*sz)=Aw (es.take k):=by
 by_cases hk:k<=es.length
 ·have e:Aw es=Aw (es.take k)++Aw (es.drop k):=by rw[<-C0,Awg]
  have hl:(Aw (es.take k)).length=k*sz:=by rw[A4 (sz:=sz) (fun x hx=>h x (Avd hx)),Atm];congr 1;omega
  rw[e,List.take_append_of_le_length oV,<-hl,At9]
 ·rw[Atp (by rw[A4 h];exact Ats _ oV),Atp oV]
theorem Ahs (h:Ax sz es)(k:Nat):(Aw es).drop (k*sz)=Aw (es.drop k):=by
 by_cases hk:k<=es.length
 ·have e:Aw es=Aw (es.take k)++Aw (es.drop k):=by rw[<-C0,Awg]
  have hl:(Aw (es.take k)).length=k*sz:=by rw[A4 (sz:=sz) (fun x hx=>h x (Avd hx)),Atm];congr 1;omega
  rw[e,<-hl,List.drop_left]
 ·rw[Aue (by rw[A4 h];exact Ats _ oV),Aue oV];rfl
theorem Ax.replicate (h:Ax sz [e])(n:Nat):Ax sz (As6 n e):=fun x hx=>h x (by rw[Av2 hx];simp)
section rules
variable {P:Program} [A7 P] {fn:Func} {Post:By} {st:List KI×S} {u m:PH}
theorem G.copyA (dT sT e:TypeId)(sz g n k:Nat)(a:Addr)(sn sc c:Nat)(t:TypeId)(m0:PH)(es xs:List Value)(h:Al P (adv P st)=.blt .copy [dT,sT] [.slice (some ⟨g,0+k*sz,none⟩) (n-k) c,.slice (some a) sn sc])
 (hu:P.underlying dT=some (.slice e)) (hsz:szB P e=some sz) (ha:Ae m0 m (.slice (some ⟨g,0,none⟩) n n) t sz es) (ho:Ax sz xs) (hk:xs.length=Auz sn (n-k)) (hkn:k<=n)
 (hsrc:∀ w,Ek u w->Ek m w->∀ (j:Nat) (v:Value),(Aw xs)[j]?=some v->w.cell? (a.add j)=some v)
 (kk:∀ m',Ae m0 m' (.slice (some ⟨g,0,none⟩) n n) t sz (es.take k++xs++es.drop (k+xs.length))->G P fn Post (nx (adv P st) (.int .i64 ((Auz sn (n-k):Nat):Int))) u m'):G P fn Post st u m:=by
 have hlen:=ha.len;obtain⟨hoe,h'⟩:=ha;rcases h' with ⟨h1,_,_⟩|⟨g',cap,rest,h1,rfl,h2,h3,h4,h5⟩
 ·simp at h1
 simp only[Atr,Atd,Addr.mk.injEq,and_true]at h2;obtain⟨rfl,h2,rfl⟩:=h2;have hr:rest = []:=by
  rw[Atg,A4 hoe,<-h2]at h4;exact Auo oV
 subst hr;simp only[Auu]at h4⊢;have hmin:Auz sn (n-k)<=n-k:=Awi _ _;have hfl:(Aw xs).length=Auz sn (n-k)*sz:=by rw[A4 ho,hk]
 refine G.copyM dT sT e sz g (0+k*sz) (n-k) c a sn sc t (Aw es) (Aw xs) h hu hsz (Ab _ _ _) hfl (by simpa using hsrc) (by rw[hfl,A4 hoe,<-h2,Aud,<-At2];exact Ats _ oV) (E7 ho) (E7 hoe) ?_;rw[Dz];refine kk _ ⟨?_,.inr ⟨g,n,[],h1,?_,?_,?_,?_,mV⟩⟩
 ·exact ((Ax.append (fun x hx=>hoe x (Avd hx)) ho).append (fun x hx=>hoe x (Avz hx)))
 ·congr 3
  rw[Aud,Aif hoe,hfl,<-At2,Ahs hoe,<-C0,<-C0,Auu,hk]
 ·congr 1
  simp only[Atg,Atm,Ax4,hk];omega
 ·simp only[Atg,Atm,Ax4,hk];omega
 ·rw[Auu,A4 (sz:=sz)]
  ·congr 1
   simp only[Atg,Atm,Ax4,hk];omega
  ·exact ((Ax.append (fun x hx=>hoe x (Avd hx)) ho).append (fun x hx=>hoe x (Avz hx)))
end rules
theorem S9 {u:PH}(hn:n<=1000000):Fn0 prog 116 [.int .u64 1,.int .u64 (n:Int)] u fun v _=>v=.tuple #[.int .u64 0,.int .u64 (n:Int)]:=by
 refine Fn0.ofW (fun v _=>v=.tuple #[.int .u64 0,.int .u64 (n:Int)]) (fun w _=>(Tryz.bits_Mul 1 n oV oV w).mono fun _ _ ⟨e,h⟩=>⟨_,e,?_,by rw[h];exact Ext.refl _⟩) (fun _ _ _ h _ _ _=>h);rw[Nat.one_mul,Nat.div_eq_of_lt oV,Nat.mod_eq_of_lt oV];rfl
theorem Kh {z:Int}(h1:0<=z)(h2:z<18446744073709551616):IntKind.u64.wrap z=z:=by
 simp only[IntKind.wrap,IntKind.signed,IntKind.bits];simp;omega
theorem J0 (hk:k+q<=n):(As6 k e++As6 (n-k) z).take k++As6 q e++(As6 k e++As6 (n-k) z).drop (k+(As6 q e).length)=As6 (k+q) e++As6 (n-(k+q)) z:=by
 rw[List.take_left' mV,Aur,List.drop_append,Aue mV,Aur,Ava,List.drop_replicate,List.replicate_append_replicate]
 congr 2;omega
theorem T4 {g q k r:Nat}{u m m0:PH}{t:TypeId}(ho:Ax sz [e])(hq:q<=k)(hsz:0<sz)(hA:Ae m0 m (.slice (some ⟨g,0,none⟩) n n) t sz (As6 k e++As6 r z)) :
 ∀ w,Ek u w->Ek m w->∀ (j:Nat) (v:Value),(Aw (As6 q e))[j]?=some v->w.cell? ((⟨g,0,none⟩:Addr).add j)=some v:=by
 intro w _ hp j v hj;refine Eu.cells (u:=m) (b:=g) (off:=0) hsz (fun i x hi=>?_) (ho.replicate q) hp j v hj;have hlt:i<q:=by
  rcases At8 i q with h|h
  ·exact h
  ·rw[Att (by simpa using h)]at hi;cases hi
 have hx:x=e:=by rw[Avg,if_pos hlt]at hi;exact (Auq hi).symm
 subst hx;refine hA.el ?_;rw[Atl gV,Avg,if_pos oV]
theorem Amw {u:PH}(h:Ad u v 1 [e])(ho:Ax 1 [e])(hn:n<=1000000) :
 Fn0 prog 51 [v,.int .i64 (n:Int)] u fun v' u'=>Ad u' v' 1 (As6 n e):=by
 obtain⟨a,c,rfl⟩:=h.opn;have hea:=Ad.at' h (j:=0) (e:=e) rfl;obtain⟨b,off,rfl,hel⟩:=hea;refine Fn0.o func51 ?_;refine G.lF (n:Int) 0 ?_;refine G.convI .i64 .u64 .i64 1 1 kV (Kh oV oV) ?_;refine G.convI .i64 .u64 .i64 (n:Int) (n:Int) kV (Kh oV oV) ?_;refine G.c call116 (S9 hn) ?_;rintro v1 u1 l1 rfl;refine G.cmpG .gtr .u64 0 0 false kV rfl rfl ?_;refine G.cmpG .gtr .u64 (n:Int) 9223372036854775807 false kV rfl (by simp only[Cj,decide_eq_false_iff_not];omega) ?_;refine G.convI .u64 .i64 .u64 (n:Int) (n:Int) kV (Dq oV oV) ?_;refine G.make 34 1 16 (.string (mkS [])) n kV rfl rfl oV oV oV ?_;rintro v2 m2 hA ⟨a2,rfl⟩;obtain⟨g,rfl,hg⟩:=hA.some';have hmn:Auz 1 (n-0)<=1:=Ayj _ _;refine G.copyA 60 60 34 1 g n 0 ⟨b,off,none⟩ 1 c n 34 PH.mt (As6 n (.string (mkS []))) (As6 (Auz 1 (n-0)) e) kV kV kV hA (ho.replicate _) mV (Atu _) (fun w hp _ j x hj=>?_) ?_
 ·refine Eu.cells (u:=u) (b:=b) (off:=off) (sz:=1) oV (fun i y hi=>?_) (ho.replicate _) (fun g o hg=>hp g o (l1 g o hg)) j x hj;have hlt:i<Auz 1 (n-0):=by
   rcases At8 i (Auz 1 (n-0)) with h|h
   ·exact h
   ·rw[Att (by simpa using h)]at hi;cases hi
  rw[Avg,if_pos hlt]at hi;have hy:y=e:=(Auq hi).symm;subst hy;have:i=0:=oV
  subst this;exact hel
 intro m3 hA3;have hs3:=J0 (e:=e) (z:=.string (mkS [])) (n:=n) (k:=0) (q:=Auz 1 (n-0)) (by have:Auz 1 (n-0)<=n-0:=Awi _ _;omega);simp only[Av3,Ava,Awx,Aud]at hs3 hA3;rw[hs3]at hA3;clear hs3;refine G.l (ι:=Nat) (fun k=>[(7,sV (some ⟨g,0,none⟩) n n),(8,iV k)]) (fun _=>[])
  (fun k u' m'=>k<=n/\(k=0->n=0)/\Ae PH.mt m' (.slice (some ⟨g,0,none⟩) n n) 34 1 (As6 k e++As6 (n-k) (.string (mkS [])))) (fun k=>n-k) (Auz 1 n)
  ⟨Awi _ _,fun h=>by have h':min 1 n=0:=h;omega,hA3⟩ ?_
 rintro J k hJ u4 m4 l4 ⟨hk,hk0,hA4⟩;by_cases hlt:k<n
 ·refine G.lT (k:Int) (n:Int) ?_;refine G.sliceFrom g 0 n n k 1 kV oV hlt ?_;refine G.sliceTo 1 (some ⟨g,0,none⟩) n n k kV oV ?_;have hq1:Auz k (n-k)<=k:=Ayj _ _;have hq2:Auz k (n-k)<=n-k:=Awi _ _;have hq3:0<Auz k (n-k):=by show 0<min k (n-k);omega
  refine G.copyA 60 60 34 1 g n k ⟨g,0,none⟩ k n (n-k) 34 PH.mt _ (As6 (Auz k (n-k)) e) kV kV kV hA4 (ho.replicate _) mV hk (T4 ho hq1 oV hA4) ?_;intro m5 hA5;rw[J0 oV]at hA5;generalize Auz k (n-k)=q at *
  refine G.p (k:Int) (q:Int) ((k+q:Nat):Int) ?_;exact G.b (hJ (k+q) _ _ _ cV l4 ⟨oV,oV,hA5⟩ oV)
 ·obtain rfl:k=n:=oV
  refine G.lF (k:Int) (k:Int) ?_;rw[Avc,Av3,Auu]at hA4;refine G.give PH.mt _ _ kV hA4 (fun _=>.inl rfl) ?_;intro u5 l5 hL;exact G.r (.slice (some ⟨g,0,none⟩) k k) ⟨rfl,hL⟩
theorem Ajb {u:PH}(h:Ad u v 4 [e])(ho:Ax 4 [e])(hn:n<=1000000) :
 Ak prog 118 [v,.int .i64 (n:Int)] u PH.mt fun v' u' m'=>Ae PH.mt m' v' 103 4 (As6 n e):=by
 obtain⟨a,c,rfl⟩:=h.opn;have hea:=Ad.at' h (j:=0) (e:=e) rfl;obtain⟨b,off,rfl,hel⟩:=hea;refine Ak.o func118 ?_;refine G.lF (n:Int) 0 ?_;refine G.convI .i64 .u64 .i64 1 1 kV (Kh oV oV) ?_;refine G.convI .i64 .u64 .i64 (n:Int) (n:Int) kV (Kh oV oV) ?_;refine G.c call116 (S9 hn) ?_;rintro v1 u1 l1 rfl;refine G.cmpG .gtr .u64 0 0 false kV rfl rfl ?_;refine G.cmpG .gtr .u64 (n:Int) 9223372036854775807 false kV rfl (by simp only[Cj,decide_eq_false_iff_not];omega) ?_;refine G.convI .u64 .i64 .u64 (n:Int) (n:Int) kV (Dq oV oV) ?_;refine G.make 103 4 64 (.agg #[.bool false,.slice none 0 0,.bool false,.slice none 0 0]) n kV rfl rfl oV oV oV ?_;rintro v2 m2 hA ⟨a2,rfl⟩;obtain⟨g,rfl,hg⟩:=hA.some';have hmn:Auz 1 (n-0)<=1:=Ayj _ _;refine G.copyA 123 123 103 4 g n 0 ⟨b,off,none⟩ 1 c n 103 PH.mt (As6 n (.agg #[.bool false,.slice none 0 0,.bool false,.slice none 0 0])) (As6 (Auz 1 (n-0)) e) kV kV kV hA (ho.replicate _) mV (Atu _) (fun w hp _ j x hj=>?_) ?_
 ·refine Eu.cells (u:=u) (b:=b) (off:=off) (sz:=4) oV (fun i y hi=>?_) (ho.replicate _) (fun g o hg=>hp g o (l1 g o hg)) j x hj;have hlt:i<Auz 1 (n-0):=by
   rcases At8 i (Auz 1 (n-0)) with h|h
   ·exact h
   ·rw[Att (by simpa using h)]at hi;cases hi
  rw[Avg,if_pos hlt]at hi;have hy:y=e:=(Auq hi).symm;subst hy;have:i=0:=oV
  subst this;exact hel
 intro m3 hA3;have hs3:=J0 (e:=e) (z:=.agg #[.bool false,.slice none 0 0,.bool false,.slice none 0 0]) (n:=n) (k:=0) (q:=Auz 1 (n-0)) (by have:Auz 1 (n-0)<=n-0:=Awi _ _;omega);simp only[Av3,Ava,Awx,Aud]at hs3 hA3;rw[hs3]at hA3;clear hs3;refine G.l (ι:=Nat) (fun k=>[(7,sV (some ⟨g,0,none⟩) n n),(8,iV k)]) (fun _=>[])
  (fun k u' m'=>k<=n/\(k=0->n=0)/\Ae PH.mt m' (.slice (some ⟨g,0,none⟩) n n) 103 4 (As6 k e++As6 (n-k) (.agg #[.bool false,.slice none 0 0,.bool false,.slice none 0 0]))) (fun k=>n-k) (Auz 1 n)
  ⟨Awi _ _,fun h=>by have h':min 1 n=0:=h;omega,hA3⟩ ?_
 rintro J k hJ u4 m4 l4 ⟨hk,hk0,hA4⟩;by_cases hlt:k<n
 ·refine G.lT (k:Int) (n:Int) ?_;refine G.sliceFrom g 0 n n k 4 kV oV hlt ?_;refine G.sliceTo 4 (some ⟨g,0,none⟩) n n k kV oV ?_;have hq1:Auz k (n-k)<=k:=Ayj _ _;have hq2:Auz k (n-k)<=n-k:=Awi _ _;have hq3:0<Auz k (n-k):=by show 0<min k (n-k);omega
  refine G.copyA 123 123 103 4 g n k ⟨g,0,none⟩ k n (n-k) 103 PH.mt _ (As6 (Auz k (n-k)) e) kV kV kV hA4 (ho.replicate _) mV hk (T4 ho hq1 oV hA4) ?_;intro m5 hA5;rw[J0 oV]at hA5;generalize Auz k (n-k)=q at *
  refine G.p (k:Int) (q:Int) ((k+q:Nat):Int) ?_;exact G.b (hJ (k+q) _ _ _ cV l4 ⟨oV,oV,hA5⟩ oV)
 ·obtain rfl:k=n:=oV
  refine G.lF (k:Int) (k:Int) ?_;rw[Avc,Av3,Auu]at hA4;exact G.r (.slice (some ⟨g,0,none⟩) k k) hA4
theorem Aln {u:PH}(h:Ad u v 4 [e])(ho:Ax 4 [e])(hn:n<=1000000) :
 Ak prog 188 [v,.int .i64 (n:Int)] u PH.mt fun v' u' m'=>Ae PH.mt m' v' 103 4 (As6 n e):=by
 obtain⟨a,c,rfl⟩:=h.opn;have hea:=Ad.at' h (j:=0) (e:=e) rfl;obtain⟨b,off,rfl,hel⟩:=hea;refine Ak.o func188 ?_;refine G.lF (n:Int) 0 ?_;refine G.convI .i64 .u64 .i64 1 1 kV (Kh oV oV) ?_;refine G.convI .i64 .u64 .i64 (n:Int) (n:Int) kV (Kh oV oV) ?_;refine G.c call116 (S9 hn) ?_;rintro v1 u1 l1 rfl;refine G.cmpG .gtr .u64 0 0 false kV rfl rfl ?_;refine G.cmpG .gtr .u64 (n:Int) 9223372036854775807 false kV rfl (by simp only[Cj,decide_eq_false_iff_not];omega) ?_;refine G.convI .u64 .i64 .u64 (n:Int) (n:Int) kV (Dq oV oV) ?_;refine G.make 103 4 64 (.agg #[.bool false,.slice none 0 0,.bool false,.slice none 0 0]) n kV rfl rfl oV oV oV ?_;rintro v2 m2 hA ⟨a2,rfl⟩;obtain⟨g,rfl,hg⟩:=hA.some';have hmn:Auz 1 (n-0)<=1:=Ayj _ _;refine G.copyA 124 124 103 4 g n 0 ⟨b,off,none⟩ 1 c n 103 PH.mt (As6 n (.agg #[.bool false,.slice none 0 0,.bool false,.slice none 0 0])) (As6 (Auz 1 (n-0)) e) kV kV kV hA (ho.replicate _) mV (Atu _) (fun w hp _ j x hj=>?_) ?_
 ·refine Eu.cells (u:=u) (b:=b) (off:=off) (sz:=4) oV (fun i y hi=>?_) (ho.replicate _) (fun g o hg=>hp g o (l1 g o hg)) j x hj;have hlt:i<Auz 1 (n-0):=by
   rcases At8 i (Auz 1 (n-0)) with h|h
   ·exact h
   ·rw[Att (by simpa using h)]at hi;cases hi
  rw[Avg,if_pos hlt]at hi;have hy:y=e:=(Auq hi).symm;subst hy;have:i=0:=oV
  subst this;exact hel
 intro m3 hA3;have hs3:=J0 (e:=e) (z:=.agg #[.bool false,.slice none 0 0,.bool false,.slice none 0 0]) (n:=n) (k:=0) (q:=Auz 1 (n-0)) (by have:Auz 1 (n-0)<=n-0:=Awi _ _;omega);simp only[Av3,Ava,Awx,Aud]at hs3 hA3;rw[hs3]at hA3;clear hs3;refine G.l (ι:=Nat) (fun k=>[(7,sV (some ⟨g,0,none⟩) n n),(8,iV k)]) (fun _=>[])
  (fun k u' m'=>k<=n/\(k=0->n=0)/\Ae PH.mt m' (.slice (some ⟨g,0,none⟩) n n) 103 4 (As6 k e++As6 (n-k) (.agg #[.bool false,.slice none 0 0,.bool false,.slice none 0 0]))) (fun k=>n-k) (Auz 1 n)
  ⟨Awi _ _,fun h=>by have h':min 1 n=0:=h;omega,hA3⟩ ?_
 rintro J k hJ u4 m4 l4 ⟨hk,hk0,hA4⟩;by_cases hlt:k<n
 ·refine G.lT (k:Int) (n:Int) ?_;refine G.sliceFrom g 0 n n k 4 kV oV hlt ?_;refine G.sliceTo 4 (some ⟨g,0,none⟩) n n k kV oV ?_;have hq1:Auz k (n-k)<=k:=Ayj _ _;have hq2:Auz k (n-k)<=n-k:=Awi _ _;have hq3:0<Auz k (n-k):=by show 0<min k (n-k);omega
  refine G.copyA 124 124 103 4 g n k ⟨g,0,none⟩ k n (n-k) 103 PH.mt _ (As6 (Auz k (n-k)) e) kV kV kV hA4 (ho.replicate _) mV hk (T4 ho hq1 oV hA4) ?_;intro m5 hA5;rw[J0 oV]at hA5;generalize Auz k (n-k)=q at *
  refine G.p (k:Int) (q:Int) ((k+q:Nat):Int) ?_;exact G.b (hJ (k+q) _ _ _ cV l4 ⟨oV,oV,hA5⟩ oV)
 ·obtain rfl:k=n:=oV
  refine G.lF (k:Int) (k:Int) ?_;rw[Avc,Av3,Auu]at hA4;exact G.r (.slice (some ⟨g,0,none⟩) k k) hA4
end
section
variable {q:Rat}
def sg (q:Rat):Int:=if q<0 then -1 else if 0<q then 1 else 0
theorem T7 (h:0<q):sg q=1:=by unfold sg;rw[if_neg (by grind),if_pos h]
theorem Qe (h:q<0):sg q = -1:=by unfold sg;rw[if_pos h]
theorem Aoa:sg 0=0:=by simp[sg]
theorem Jj (q:Rat):(q<0/\sg q = -1)\/(q=0/\sg q=0)\/(0<q/\sg q=1):=by
 by_cases h:q<0
 ·exact .inl ⟨h,Qe h⟩
 ·by_cases h':0<q
  ·exact .inr (.inr ⟨h',T7 h'⟩)
  ·have:q=0:=by grind
   exact .inr (.inl ⟨this,by rw[this];exact Aoa⟩)
def chg:Int->List Rat->Nat
 |_,[]=>0
 |s,q::l=>if sg q = -s then chg (-s) l+1 else chg s l
theorem Aam (s:Int)(hs:s=1\/s = -1):∀ l:List Rat,chg s l<=chg (-s) l+1
 |[]=>by simp[chg]
 |q::l=>by
  have ih:=Aam s hs l;have ih':=Aam (-s) oV l;rw[A0l]at ih';unfold chg;rw[A0l];rcases hs with rfl|rfl<;>rcases Jj q with ⟨_,e⟩|⟨_,e⟩|⟨_,e⟩<;>simp[e]at ih ih'⊢<;>omega
def zer:List Rat->Nat
 |[]=>0
 |q::l=>if q=0 then zer l+1 else 0
def var (l:List Rat):Nat:=match l.drop (zer l) with
 |[]=>0
 |q::r=>chg (sg q) r
theorem Akn (l:List Rat):var (0::l)=var l:=by unfold var;simp[zer]
theorem Aqq (l:List Rat)(h:q≠0):var (q::l)=chg (sg q) l:=by unfold var;simp[zer,h]
theorem Adf:∀ l:List Rat,zer l<=l.length
 |[]=>by simp[zer]
 |q::l=>by have:=Adf l;unfold zer;split<;>simp<;>omega
end
def gR (l:List Rat)(i:Nat):Rat:=l.getD i 0
def gM (M:List (List Rat))(i:Nat):List Rat:=M.getD i []
def Ez (c:Rat):Nat->Nat->List (List Rat)->List (List Rat)
 |0,_,M=>M
 |f+1,i,M=>Ez c f (i+1) (M.set i ((gM M i).set i (gR (gM M i) i+c)))
def Is (row:List Rat)(M:List (List Rat))(j:Nat):Nat->Nat->Rat->Rat
 |0,_,s=>s
 |f+1,m,s=>Is row M j f (m+1) (s+gR row m*gR (gM M m) j)
def Eh (row:List Rat)(M:List (List Rat))(n:Nat):Nat->Nat->List Rat->List Rat
 |0,_,l=>l
 |f+1,j,l=>Eh row M n f (j+1) (l++[Is row M j n 0 0])
def Fb (A M:List (List Rat))(n:Nat):Nat->Nat->List (List Rat)->Rat->List (List Rat)×Rat
 |0,_,N,t=>(N,t)
 |f+1,i,N,t=>Fb A M n f (i+1) (N++[Eh (gM A i) M n n 0 []]) (t+gR (Eh (gM A i) M n n 0 []) i)
def F1 (A:List (List Rat))(n:Nat):Nat->Nat->List (List Rat)->List Rat->List Rat
 |0,_,_,out=>out
 |f+1,k,M,out=>F1 A n f (k+1) (Fb A (Ez (gR out 0) n 0 M) n n 0 [] 0).1 ((Fb A (Ez (gR out 0) n 0 M) n n 0 [] 0).2/((-(k:Int):Int):Rat)::out)
def Ao (A:List (List Rat)):List Rat:=F1 A A.length A.length 1 (As6 A.length (As6 A.length 0)) [1]
def I3 (x:Rat)(i:Nat):Nat->List Rat->List Rat
 |0,l=>l
 |k+1,l=>if k<i then l else I3 x i k (l.set k (gR l k+x*gR l (k+1)))
def F8 (x:Rat):Nat->Nat->List Rat->List Rat
 |0,_,l=>l
 |f+1,i,l=>F8 x f (i+1) (I3 x i (l.length-1) l)
def E9 (x:Rat)(p:List Rat):List Rat:=F8 x p.length 0 p
def C7 (p:List Rat)(x:Rat):Int:=(p.length:Int)-1-(zer (E9 x p):Int)-(var (E9 x p):Int)
def Co (p:List Rat)(x:Rat):Nat:=zer (E9 x p)

def No (p:List Rat):Nat->Nat
 |0=>0
 |n+1=>if gR p n=0 then No p n else n+1
def Ws (p:List Rat):List Rat:=p.take (No p p.length)
def Zq (p:List Rat):Nat->Nat->List Rat->List Rat
 |0,_,out=>out
 |f+1,i,out=>Zq p f (i+1) (out++[gR p i*(((i:Nat):Int):Rat)])
def N6 (p:List Rat):List Rat:=Zq p (p.length-1) 1 []
def Wd (q:List Rat)(f:Rat)(at':Nat):Nat->Nat->List Rat->List Rat
 |0,_,R=>R
 |k+1,i,R=>Wd q f at' k (i+1) (R.set (at'+i) (gR R (at'+i)-f*gR q i))
def Aaq (q:List Rat):Nat->List Rat->List Rat->List Rat×List Rat
 |0,Q,R=>(Q,R)
 |n+1,Q,R=>Aaq q n (Q.set n (gR R (n+q.length-1)/gR q (q.length-1))) (Wd q (gR R (n+q.length-1)/gR q (q.length-1)) n q.length 0 R)
def Arg (p q:List Rat):List Rat×List Rat:=Aaq q (p.length+1-q.length) (As6 (p.length+1-q.length) 0) p
def Aq5 (p q:List Rat):List Rat:=(Arg p q).1
def Aa0 (p q:List Rat):List Rat:=Ws (Arg p q).2
def Au (p:List Rat)(low high:Rat):Int:=C7 p high+(Co p high:Int)-C7 p low-(Co p low:Int)
section
variable {a:Option Addr}{es:List Value}{i j k:Nat}{l p:List Rat}{q r:Rat}{v:Value}{α:Type}
section rules
variable {P:Program} [A7 P] {fn:Func} {Post:By} {st:List KI×S} {u m:PH}
theorem Aa8 {op:BinOp}{a b:Option Addr}{n c n' c':Nat}(t:TypeId)(X Y:Operand)(w:World):(eqGuard op t X Y (.slice a n c) (.slice b n' c')).run P w=.ok () w:=by
 unfold eqGuard;split<;>simp
theorem G.nilF (e:TypeId)(a:Addr)(n c:Nat)(h:Al P (adv P st)=.binT .eql (some (.slice e)) (.slice (some a) n c) (.slice none 0 0))(k:G P fn Post (nx (adv P st) (.bool false)) u m):G P fn Post st u m:=by
 refine G.ask h mV (fun env o hview w _=>?_) k;obtain⟨t,X,Y,yt,e0,e1,e2,e3⟩:=Ms hview;obtain⟨dst,opp,type,pos,after,guard⟩:=o;simp only at e0;subst e0;have:(Op.equal t (.slice (some a) n c) (.slice none 0 0)).run P w=.ok false w:=by
  unfold Op.equal;rw[show Op.maxDepth=9999+1 from rfl,Op.equalIn];simp[run_underlying e3]
 simp[execOp,e1,e2,Aa8,binOp,this]
theorem G.build0 (e:TypeId)(sz bt:Nat)(z:Value)(h:Al P (adv P st)=.buildS (some (e,sz,bt,z)) 0 [])(k:∀ g m',Ae m m' (.slice (some ⟨g,0,none⟩) 0 0) e sz []->G P fn Post (nx (adv P st) (.slice (some ⟨g,0,none⟩) 0 0)) u m'):G P fn Post st u m:=by
 refine G.big (K:=fun v' u' m'=>u'=u/\PH.le m m'/\∃ g,v'=.slice (some ⟨g,0,none⟩) 0 0/\Ae m m' (.slice (some ⟨g,0,none⟩) 0 0) e sz []) h mV (fun env op hv=>?_) (.inl fun v u' m' hk=>hk.2.1) (fun env o hview w hgd=>?_) (fun v' u' m' hle hk=>?_)
 ·obtain⟨t,qs,rfl,_⟩:=Fp hv;rfl
 ·obtain⟨t,qs,e1,e2,hi⟩:=Fp hview;obtain⟨dst,opp,type,pos,after,guard⟩:=o;simp only at e1;subst e1;obtain⟨hu,i,hi1,hi2,rfl,rfl⟩:=Dx hi;obtain⟨g1,g2,g3,g4⟩:=hgd.newM (cs:=#[]) (t:=e) mV;refine Bs (w':=w.alloc (.cells #[] e (0,0))) (v:=.slice (some ⟨w.heap.size,0,none⟩) 0 0) ?_ ⟨u,_,g1,g2,rfl,K6 _ g3,_,rfl,fun _ h=>absurd h mV,.inr ⟨w.heap.size,0,[],g3,rfl,rfl,Atb _,by simp[Aw],mV⟩⟩;simp only[execOp,e2];have e0:∀ f:Nat->Value,Array.map f (Array.range 0) = #[]:=fun f=>by apply Array.eq_empty_of_size_eq_zero;simp
  simp[Instr.buildSlice,run_underlying hu,sizeOf,typeInfo,hi1,newRow,Instr.fill,e0]
 ·obtain⟨rfl,_,g,rfl,hk⟩:=hk;exact k g m' hk
end rules
theorem Ad.take' {u:PH}{n c sz:Nat}(h:Ad u (.slice a n c) sz es)(k:Nat)(hk:k<=es.length):Ad u (.slice a k c) sz (es.take k):=by
 obtain⟨a',c',h1,h2,h3⟩:=h;simp only[Atr]at h1;obtain⟨rfl,_,rfl⟩:=h1;refine⟨a,c,by rw[Atm,Nat.min_eq_left hk],by rw[Atm];omega,fun j e hj=>?_⟩;rw[Avu]at hj;split at hj
 ·exact h3 j e hj
 ·cases hj
theorem AtP.take {R:PH->Value->α->Prop}{u:PH}{xs:List α}(h:AtP R u es xs)(k:Nat):AtP R u (es.take k) (xs.take k):=by
 refine⟨by simp[h.1],fun j x hj=>?_⟩;rw[Avu]at hj⊢;split at hj
 ·rename_i hlt;rw[if_pos hlt];exact h.2 j x hj
 ·cases hj
theorem AtP.at {R:PH->Value->α->Prop}{u:PH}{xs:List α}(h:AtP R u es xs)(hj:j<xs.length):∃ e,es[j]?=some e/\R u e xs[j]:=h.2 j _ (As5 hj)
theorem Bn.opn {u:PH}{v:Value}{qs:List Rat}(h:Bn u v qs):∃ a c,v=.slice a qs.length c:=h.lp.opn
theorem Bn.at {u:PH}{a:Option Addr}{n c:Nat}{qs:List Rat}(h:Bn u (.slice a n c) qs){j:Nat}(hj:j<qs.length):∃ b off b1 a1 n1 c1 b2 a2 n2 c2,a=some ⟨b,off,none⟩/\ElP u b (off+j*4) (.agg #[.bool b1,.slice a1 n1 c1,.bool b2,.slice a2 n2 c2])/\An u (.agg #[.bool b1,.slice a1 n1 c1,.bool b2,.slice a2 n2 c2]) (gR qs j):=by
 obtain⟨b,off,e,rfl,h1,h2⟩:=h.lp.at (As5 hj);obtain⟨b1,a1,n1,c1,b2,a2,n2,c2,rfl⟩:=h2.opn;refine⟨b,off,b1,a1,n1,c1,b2,a2,n2,c2,rfl,h1,?_⟩;have:gR qs j=qs[j]:=by simp[gR,hj]
 rw[this];exact h2
theorem AtP.ok4 {u:PH}{qs:List Rat}(h:AtP An u es qs):Ax 4 es:=by
 intro e he;obtain⟨j,hj,rfl⟩:=List.mem_iff_getElem.1 he;obtain⟨e',h1,h2⟩:=h.2 j (qs[j]'(by rw[<-h.1];exact hj)) (As5 _);rw[As5 hj]at h1;rw[Auq h1];exact h2.ok _ mV
theorem F3 (h:i<l.length):gR l i=l[i]:=by simp[gR,h]
theorem Aq8 (h:i<l.length):gR l i∈l:=by rw[F3 h];exact Ath h
def SzL (p:List Rat)(k:Nat):Prop:=∀ q∈p,Sz q k
theorem SzL.at (h:SzL p k)(hi:i<p.length):Sz (gR p i) k:=h _ (Aq8 hi)
theorem SzL.mono {p:List Rat}{j k:Nat}(h:SzL p j)(hjk:j<=k):SzL p k:=fun q hq=>(h q hq).mono hjk
theorem Ru (q:Rat):sgn q.num=sg q:=by
 rcases Jj q with ⟨h,e⟩|⟨h,e⟩|⟨h,e⟩
 ·rw[e];refine Dc ?_;have:¬ (0<=q.num):=fun h'=>by have:=Rat.num_nonneg.1 h';grind
  omega
 ·subst h;rw[e];rfl
 ·rw[e];refine Cf ?_;have h1:0<=q.num:=Rat.num_nonneg.2 (by grind);have h2:q.num≠0:=fun h'=>by have:=Axp.1 h';grind
  omega
theorem If :sg q=0↔q=0:=by
 rcases Jj q with ⟨h,e⟩|⟨h,e⟩|⟨h,e⟩
 ·rw[e];constructor
  ·intro h';omega
  ·intro h';subst h';simp at h
 ·exact⟨fun _=>h,fun _=>e⟩
 ·rw[e];constructor
  ·intro h';omega
  ·intro h';subst h';simp at h
theorem Jz {u:PH}{x:Value}(h:An u x q)(hs:Sz q k)(hk:k<=100000000000000):Fn0 prog 96 [x] u fun v _=>v=.int .i64 (sg q):=by
 rw[<-Ru];exact W1 h (As9 hs.1 hk)
theorem S1 {u:PH}(h:Ad u v 4 es)(ho:Ax 4 es)(h0:es≠[])(hn:es.length<=1000000) :
 Ak prog 119 [v] u PH.mt fun v' u' m'=>Ae PH.mt m' v' 103 4 es:=by
 obtain⟨a,c,rfl⟩:=h.opn;have hpos:0<es.length:=Avq.2 h0;obtain⟨b,off,rfl,_⟩:=Ad.at' h (As5 hpos);refine Ak.o func119 ?_;refine G.nilF 103 ⟨b,off,none⟩ es.length c kV ?_;refine G.build0 103 4 64 (.agg #[.bool false,.slice none 0 0,.bool false,.slice none 0 0]) kV ?_;intro g m1 hA;refine G.append 103 4 64 (.agg #[.bool false,.slice none 0 0,.bool false,.slice none 0 0]) PH.mt [] es (.slice (some ⟨g,0,none⟩) 0 0) b off es.length c kV rfl rfl oV hA h.els ho rfl hpos gV gV ?_;intro v2 m2 hA2;obtain⟨a2,c2,rfl⟩:=hA2.shape;exact G.r _ hA2
theorem Asa {u:PH}(h:Bn u v p)(hs:SzL p k)(hk:k<=100000000000000)(hn:p.length<=1000000) :
 Fn0 prog 189 [v] u fun v' u'=>Bn u' v' (Ws p):=by
 obtain⟨a,c,rfl⟩:=h.opn;refine Fn0.o func189 ?_;refine G.l (ι:=Nat) (fun n=>[(0,sV a p.length c),(3,iV n)]) (fun _=>[])
  (fun n u' m'=>n<=p.length/\No p n=No p p.length/\m'=PH.mt) (fun n=>n) p.length ⟨Atb _,rfl,rfl⟩ ?_
 rintro J n hJ u1 m1 l1 ⟨hle,hgo,rfl⟩;have fin:∀ u2,PH.le u1 u2->No p n=n->Bn u2 (.slice a n c) (Ws p):=by
  intro u2 l2 e;obtain⟨es,e1,e2⟩:=h;have hl:es.length=p.length:=e2.1;unfold Ws;rw[<-hgo,e];exact⟨es.take n,(e1.take' n oV).mono (l1.trans l2),(AtP.take (show AtP An u es p from e2) n).mono (fun _ _ h=>h.mono (l1.trans l2))⟩
 have hcap:p.length<=c:=by
  obtain⟨es,⟨a',c',e1,e2,_⟩,e3⟩:=h;simp only[Atr]at e1;omega
 by_cases hpos:0<n
 ·obtain⟨n',rfl⟩:∃ n',n=n'+1:=⟨n-1,oV⟩;refine G.gT ((n'+1:Nat):Int) 0 ?_;refine G.s ((n'+1:Nat):Int) 1 (n':Int) ?_;obtain⟨b,off,b1,a1,n1,c1,b2,a2,n2,c2,rfl,e1,e2⟩:=(h.mono l1).at (j:=n') oV;refine G.a b off p.length c n' 4 oV ?_;refine G.lU (some 4) b (off+n'*4) _ e1 ?_;refine G.c call96 (Jz e2 (hs.at oV) hk) ?_;rintro v2 u2 l2 rfl;by_cases hz:gR p n'=0
  ·refine G.eT' (sg (gR p n')) 0 (If.2 hz) ?_;refine G.s ((n'+1:Nat):Int) 1 (n':Int) ?_;refine G.b (hJ n' _ _ _ cV (l1.trans l2) ⟨oV,?_,rfl⟩ oV);rw[<-hgo,No,if_pos hz]
  ·refine G.eF' (sg (gR p n')) 0 (fun h=>hz (If.1 h)) ?_;refine G.sliceTo 4 (some ⟨b,off,none⟩) p.length c (n'+1) kV oV ?_;exact G.r _ ⟨rfl,fin _ l2 (by rw[No,if_neg hz])⟩
 ·obtain rfl:n=0:=oV
  refine G.gF ((0:Nat):Int) 0 ?_;refine G.sliceTo 4 a p.length c 0 kV oV ?_;exact G.r _ ⟨rfl,fin _ (PH.le_refl _) rfl⟩
theorem Nv {z:Int}(h:z.natAbs<1000000000):Sz (z:Rat) 1:=⟨A0 (by simpa using h),A0 mV⟩
theorem F6 (h:Sz q j)(h':Sz r k):Sz (q+r) (j+k+1):=by
 rw[<-Rx q r];have a1:=Fu q.num.natAbs r.den;have a2:=Fu r.num.natAbs q.den;have a3:=Fu q.den r.den;have a4:=Ajn (q.num.natAbs*r.den) (r.num.natAbs*q.den);have a5:(q.num*(r.den:Int)+r.num*(q.den:Int)).natAbs<=q.num.natAbs*r.den+r.num.natAbs*q.den:=by
  refine As9 (Int.natAbs_add_le _ _) ?_;rw[Au7,Au7];simp
 have a6:=Ct a5;have:=h.1;have:=h.2;have:=h'.1;have:=h'.2;exact Mr (Sh q r) oV (by rw[Au7];simp only[Atv];omega)
theorem Alu (h:Sz q k):Sz (-q) k:=⟨by rw[Rat.neg_num,Avp];exact h.1,by rw[Rat.neg_den];exact h.2⟩
theorem Apa (h:Sz q j)(h':Sz r k):Sz (q-r) (j+k+1):=by
 rw[Rat.sub_eq_add_neg];exact F6 h (Alu h')
theorem Yx (h:Sz q j)(h':Sz r k):Sz (q*r) (j+k):=by
 rw[<-Yd q r];have a1:=Fu q.num.natAbs r.num.natAbs;have a3:=Fu q.den r.den;have:=h.1;have:=h.2;have:=h'.1;have:=h'.2;exact Mr (Sh q r) (by rw[Au7];omega) (by rw[Au7];simp only[Atv];omega)
theorem Aal {u:PH}(h:Bn u v p)(hs:SzL p k)(hk:k<=100000000000)(hn:p.length<=1000000) :
 Fn0 prog 136 [v] u fun v' u'=>Bn u' v' (N6 p):=by
 obtain⟨a,c,rfl⟩:=h.opn;refine Fn0.o func136 ?_;refine G.l (ι:=Nat×List Value×List Rat×(Option Addr×Nat×Nat)) (fun i=>[(0,sV a p.length c),(3,sV i.2.2.2.1 i.2.2.2.2.1 i.2.2.2.2.2),(4,iV (i.1+1:Nat))]) (fun _=>[])
  (fun i u' m'=>i.1<=p.length-1/\Zq p (p.length-1-i.1) (i.1+1) i.2.2.1=N6 p/\i.2.2.1.length=i.1/\AtP An u' i.2.1 i.2.2.1/\Ae PH.mt m' (.slice i.2.2.2.1 i.2.2.2.2.1 i.2.2.2.2.2) 103 4 i.2.1) (fun i=>p.length-1-i.1) (0,[],[],(none,0,0))
  ⟨Atu _,rfl,rfl,AtP.nil,Ae.nil _ _ _⟩ ?_
 rintro J ⟨i,es,out,⟨a1,n1,c1⟩⟩ hJ u1 m1 l1 ⟨hi,hgo,hlo,hF,hA⟩;simp only at hi hgo hlo hF hA hJ;have hel:=hF.1;by_cases hlt:i+1<p.length
 ·refine G.lT ((i+1:Nat):Int) (p.length:Int) ?_;obtain⟨b,off,b1,a1',n1',c1',b2,a2,n2,c2,rfl,e1,e2⟩:=(h.mono l1).at (j:=i+1) hlt;refine G.a b off p.length c (i+1) 4 hlt ?_;refine G.lU (some 4) b (off+(i+1)*4) _ e1 ?_;refine G.c call56 (Dk (z:=((i+1:Nat):Int)) oV oV) ?_;intro v2 u2 l2 k2;obtain⟨b3,a3,n3,c3,b3',a3',n3',c3',rfl⟩:=k2.opn;refine G.c call42 (L6 (e2.mono l2) k2 ((hs.at hlt).mono oV) ((Nv oV).mono oV)) ?_;intro v4 u4 l4 k4;obtain⟨b5,a5,n5,c5,b5',a5',n5',c5',rfl⟩:=k4.opn;refine G.B 103 4 64 (.agg #[.bool false,.slice none 0 0,.bool false,.slice none 0 0]) [.agg #[.bool b5,.slice a5 n5 c5,.bool b5',.slice a5' n5' c5']] k4.ok ?_;intro g u6 l6 e6;refine G.append 103 4 64 (.agg #[.bool false,.slice none 0 0,.bool false,.slice none 0 0]) PH.mt es [.agg #[.bool b5,.slice a5 n5 c5,.bool b5',.slice a5' n5' c5']] (.slice a1 n1 c1) g 0 1 1 kV rfl rfl oV hA e6 k4.ok rfl oV oV oV ?_;intro v7 m7 hA7;obtain⟨a7,c7,rfl⟩:=hA7.shape;refine G.p ((i+1:Nat):Int) 1 ((i+1+1:Nat):Int) ?_;refine G.b (hJ (i+1,es++[.agg #[.bool b5,.slice a5 n5 c5,.bool b5',.slice a5' n5' c5']],out++[gR p (i+1)*((((i+1:Nat):Nat):Int):Rat)],(a7,(es++[Value.agg #[.bool b5,.slice a5 n5 c5,.bool b5',.slice a5' n5' c5']]).length,c7)) _ _ _ cV (((l1.trans l2).trans l4).trans l6) ⟨dV,?_,by dsimp only;simp[hlo],?_,hA7⟩ dV)
  ·dsimp only;rw[<-hgo,show p.length-1-i=(p.length-1-(i+1))+1 by omega,Zq]
  ·exact (hF.mono (fun _ _ h=>h.mono ((l2.trans l4).trans l6))).snoc (k4.mono l6)
 ·refine G.lF ((i+1:Nat):Int) (p.length:Int) ?_;refine G.give PH.mt es _ kV hA (fun _=>.inl rfl) ?_;intro u3 l3 hL;rw[show p.length-1-i=0 by omega,Zq]at hgo;rw[hgo]at hF;exact G.r (.slice a1 n1 c1) ⟨rfl,es,hL,hF.mono (fun _ _ h=>h.mono l3)⟩
end
section
variable {S T:Nat}{p:List Rat}{u:PH}{v y:Value}{x:Rat}
def bd (S T:Nat):Nat->Nat
 |0=>S
 |t+1=>bd S T t+(T+bd S T t)+1
theorem Apz (S T:Nat):∀ t,bd S T t+(T+1)=2^t*(S+T+1)
 |0=>by simp[bd];omega
 |t+1=>by
  have:=Apz S T t;rw[Nat.pow_succ,Nat.mul_comm (2^t) 2,Nat.mul_assoc,<-this];simp only[bd];omega
theorem Aj6 {S T t:Nat}(ht:t<=20)(h:S+T+1<=500000):bd S T t<=1000000000000:=by
 have h1:=Apz S T t;have h2:2^t<=2^20:=Nat.pow_le_pow_right oV ht;have h3:2^t*(S+T+1)<=2^20*500000:=Aut h2 h;omega
theorem Afp (S T t:Nat):bd S T t<=bd S T (t+1):=by simp only[bd];omega
theorem Aan (S T : Nat) {t : Nat} : ∀ {d : Nat}, t ≤ d → bd S T t ≤ bd S T d
  | 0, h => by obtain rfl : t = 0 := by omega
               exact Atb _
  | d + 1, h => by
    rcases At8 t (d + 1) with h1 | h1
    · exact As9 (Aan S T oV) (Afp S T d)
    · obtain rfl : t = d + 1 := by omega
      exact Atb _
def N4 (n:Nat):Nat->Nat
 |0=>0
 |i+1=>N4 n i+(n-1-i)
theorem Afw (n : Nat) {i : Nat} : ∀ {d : Nat}, i ≤ d → N4 n i ≤ N4 n d
  | 0, h => by obtain rfl : i = 0 := by omega
               exact Atb _
  | d + 1, h => by
    rcases At8 i (d + 1) with h1 | h1
    · exact As9 (Afw n oV) (Nat.le_add_right _ _)
    · obtain rfl : i = d + 1 := by omega
      exact Atb _
theorem R7:∀ {n:Nat},n<=7->N4 n n<=21/\(n<=5->N4 n n<=10):=fV
theorem SzL.set {k i:Nat}{q:Rat}(h:SzL p k)(hq:Sz q k):SzL (p.set i q) k:=by
 intro x hx;rcases List.mem_or_eq_of_mem_set hx with hx|rfl
 ·exact h x hx
 ·exact hq
theorem Hn (x : Rat) (i : Nat) : ∀ (k : Nat) (l : List Rat), (I3 x i k l).length = l.length
  | 0, l => rfl
  | k + 1, l => by unfold I3; split
                   · rfl
                   · rw [Hn x i k]; simp
theorem L0 (x:Rat):∀ (f i:Nat) (l:List Rat),(F8 x f i l).length=l.length
 |0,_,l=>rfl
 |f+1,i,l=>by unfold F8;rw[L0 x f,Hn]
theorem G0 (x:Rat)(p:List Rat):(E9 x p).length=p.length:=L0 ..
theorem Ac5 : ∀ {l : List Rat} {i : Nat}, i < zer l → gR l i = 0
  | [], i, h => by simp [zer] at h
  | q :: l, 0, h => by unfold zer at h; split at h; · rename_i e; simp [gR, e]
                       · omega
  | q :: l, i + 1, h => by
    unfold zer at h; split at h
    · have := Ac5 (l := l) (i := i) oV
      simpa [gR] using this
    · omega
theorem Ad7:∀ {l:List Rat},zer l<l.length->gR l (zer l)≠0
 |[],h=>by simp[zer]at h
 |q::l,h=>by
  unfold zer at h⊢;split
  ·rename_i e;rw[if_pos e]at h;have:=Ad7 (l:=l) (by simp at h;omega);simpa[gR] using this
  ·rename_i e;simpa[gR] using e
theorem Aix {l:List Rat}(h:zer l<l.length):chg (sg (gR l (zer l))) (l.drop (zer l))=var l:=by
 unfold var;have e:l.drop (zer l)=l[zer l]::l.drop (zer l+1):=Aw9 h;rw[e,F3 h];simp only[chg];rw[if_neg];intro h';have:sg l[zer l]=0:=oV
 have:=If.1 this;have h2:=Ad7 h;rw[F3 h]at h2;exact h2 this
theorem Aq2 (q:Rat):-1<=sg q/\sg q<=1:=by rcases Jj q with ⟨_,e⟩|⟨_,e⟩|⟨_,e⟩<;>rw[e]<;>omega
theorem Aer:∀ (l:List Rat) (s:Int),chg s l<=l.length
 |[],s=>by simp[chg]
 |q::l,s=>by
  have i1:=Aer l s;have i2:=Aer l (-s);unfold chg;split<;>simp<;>omega
theorem Ak6 (l:List Rat):var l<=l.length:=by
 unfold var;split
 ·omega
 ·rename_i q r e;have h1:=Aer r (sg q);have h2:(l.drop (zer l)).length=(q::r).length:=by rw[e]
  simp at h2;omega
theorem Alf (h:Bn u v p)(hy:An u y x)(hs:SzL p S)(hx:Sz x T)(hST:bd S T (N4 p.length p.length)<=1000000000000)(hTT:T<=500000)(hn:p.length<=7)(hz:zer (E9 x p)<p.length) :
 Fn0 prog 53 [v,y] u fun v' _=>v'=.tuple #[.int .i64 (C7 p x),.int .i64 (Co p x:Int)]:=by
 obtain⟨a,c,rfl⟩:=h.opn;have hpos:0<p.length:=oV
 obtain⟨es0,hL0,hF0⟩:=id h;have hF0':AtP An u es0 p:=hF0;have hel0:es0.length=p.length:=hF0.1;have hyo:=hy.opn;obtain⟨yb,ya,yn,yc,yb',ya',yn',yc',rfl⟩:=hyo;refine Fn0.o func53 ?_;refine G.callO _ _ kV call119 (S1 hL0 hF0'.ok4 (by intro e;rw[e]at hel0;simp at hel0;omega) oV) ?_;intro v1 u1 m1 l1 hA1 hf1;rw[C6];obtain⟨g,cap,rfl⟩:=hA1.ptr (by intro e;rw[e]at hel0;simp at hel0;omega);have hcap1:=hA1.cap;rw[hel0]at hA1 hcap1⊢;generalize hN:p.length=n at *
 have szt:∀ {q:Rat} {t:Nat},Sz q (bd S T t)->t<=N4 n n->Sz q 1000000000000:=fun h1 h2=>h1.mono (As9 (Aan S T h2) hST);refine G.l (ι:=Nat×List Value×List Rat×Nat) (fun i=>[(0,sV a n c),(3,.p 0 0),(5,iV 0),(6,sV (some ⟨g,0,none⟩) n cap),(16,iV n),(17,iV i.1)])
  (fun _=>[(0,⟨103,[bV yb,sV ya yn yc,bV yb',sV ya' yn' yc']⟩)])
  (fun i u' m'=>i.1<=n/\i.2.2.1.length=n/\F8 x (n-i.1) i.1 i.2.2.1=E9 x p/\i.2.2.2<=N4 n i.1/\SzL i.2.2.1 (bd S T i.2.2.2)/\AtP An u' i.2.1 i.2.2.1/\Ae PH.mt m' (.slice (some ⟨g,0,none⟩) n cap) 103 4 i.2.1)
  (fun i=>n-i.1) (0,es0,p,0)
  ⟨Atu _,hN,by dsimp only;rw[Awx,<-hN];rfl,Atb _,hs,hF0'.mono (fun _ _ h=>h.mono l1),hA1⟩ ?_
 rintro J ⟨i,es,cur,t⟩ hJ u2 m2 l2 ⟨hi,hcl,hgo,ht,hsz,hF,hA⟩;simp only at hi hcl hgo ht hsz hF hA hJ;by_cases hlt:i<n
 ·refine G.lT (i:Int) (n:Int) ?_;refine G.sub (n:Int) 2 ((n:Int)-2) kV rfl oV oV ?_;refine G.l (ι:=Int×Nat×List Value×List Rat×Nat) (fun j=>[(0,sV a n c),(3,.p 0 0),(5,iV 0),(6,sV (some ⟨g,0,none⟩) n cap),(7,iV i),(8,iV j.1),(16,iV n),(17,iV i)])
   (fun _=>[(0,⟨103,[bV yb,sV ya yn yc,bV yb',sV ya' yn' yc']⟩)])
   (fun j u' m'=>j.1=(j.2.1:Int)-1/\(i<=j.2.1/\j.2.1<=n-1)/\j.2.2.2.1.length=n/\I3 x i j.2.1 j.2.2.2.1=I3 x i (n-1) cur/\j.2.2.2.2<=N4 n i+(n-1-j.2.1)/\SzL j.2.2.2.1 (bd S T j.2.2.2.2)/\AtP An u' j.2.2.1 j.2.2.2.1/\Ae PH.mt m' (.slice (some ⟨g,0,none⟩) n cap) 103 4 j.2.2.1)
   (fun j=>j.2.1) ((n:Int)-2,n-1,es,cur,t)
   ⟨dV,⟨dV,Atb _⟩,hcl,rfl,dV,hsz,hF,hA⟩ ?_
  have htri:N4 n i+(n-1-i)<=N4 n n:=Afw n (i:=i+1) oV;rintro J2 ⟨zk,kk,es2,cur2,t2⟩ hJ2 u3 m3 l3 ⟨hzk,hkk,hcl2,hgo2,ht2,hsz2,hF2,hA2⟩;simp only at hzk hkk hcl2 hgo2 ht2 hsz2 hF2 hA2 hJ2;have hel2:=hF2.1;by_cases hge:(i:Int)<=zk
  ·obtain⟨k,rfl⟩:∃ k:Nat,zk=(k:Int):=⟨zk.toNat,oV⟩;obtain rfl:kk=k+1:=oV
   refine G.hT (k:Int) (i:Int) ?_;have hk:k<cur2.length:=oV
   have hk1:k+1<cur2.length:=oV
   obtain⟨e1,he1,hf1'⟩:=hF2.at hk;obtain⟨x1,x2,x3,x4,x5,x6,x7,x8,rfl⟩:=hf1'.opn;obtain⟨e2,he2,hf2'⟩:=hF2.at hk1;obtain⟨z1,z2,z3,z4,z5,z6,z7,z8,rfl⟩:=hf2'.opn;refine G.a g 0 n cap k 4 oV ?_;refine G.lM (some 4) g (0+k*4) _ (hA2.el he1) ?_;refine G.i k ?_;refine G.a g 0 n cap (k+1) 4 oV ?_;refine G.lM (some 4) g (0+(k+1)*4) _ (hA2.el he2) ?_;have hl:PH.le u u3:=l1.trans (l2.trans l3);have hsa:Sz cur2[k] (bd S T t2):=hsz2 _ (Ath hk);have hsb:Sz cur2[k+1] (bd S T t2):=hsz2 _ (Ath hk1);have hsm:=Yx hx hsb;have hsn:=F6 hsa hsm;refine G.c call42 (L6 (hy.mono hl) hf2' (hx.mono oV) (szt hsb oV)) ?_;intro v4 u4 l4 k4;obtain⟨y1,y2,y3,y4,y5,y6,y7,y8,rfl⟩:=k4.opn;refine G.c call57 (D7 (hf1'.mono l4) k4 (szt hsa oV) (hsm.mono (by have:=As9 (Aan S T (t:=t2+1) (d:=N4 n n) oV) hST;simp only[bd]at this;omega))) ?_;intro v5 u5 l5 k5;obtain⟨w1,w2,w3,w4,w5,w6,w7,w8,rfl⟩:=k5.opn;refine G.a g 0 n cap k 4 oV ?_;refine G.storeA 4 PH.mt es2 g n cap k (.agg #[.bool w1,.slice w2 w3 w4,.bool w5,.slice w6 w7 w8]) kV hA2 oV rfl rfl ?_;intro m6 hA6;refine G.sub (k:Int) 1 ((k:Int)-1) kV rfl oV oV ?_;refine G.b (hJ2 ((k:Int)-1,k,es2.set k (.agg #[.bool w1,.slice w2 w3 w4,.bool w5,.slice w6 w7 w8]),cur2.set k (cur2[k]+x*cur2[k+1]),t2+1) _ _ _ cV ((l3.trans l4).trans l5) ⟨rfl,⟨dV,dV⟩,by simp[hcl2],?_,dV,?_,?_,hA6⟩ dV)
   ·dsimp only;rw[<-hgo2,I3,if_neg oV,F3 hk,F3 hk1]
   ·exact (hsz2.mono (Afp S T t2)).set hsn
   ·exact (hF2.mono (fun _ _ h=>h.mono (l4.trans l5))).set k k5
  ·refine G.hF zk (i:Int) ?_;have hend:I3 x i kk cur2=cur2:=by
    cases kk with
    |zero=>rfl
    |succ k=>rw[I3,if_pos oV]
   refine G.i i ?_;refine G.b (hJ (i+1,es2,cur2,t2) _ _ _ cV (l2.trans l3) ⟨dV,hcl2,?_,by dsimp only[N4];omega,hsz2,hF2,hA2⟩ dV);dsimp only;rw[<-hgo,show n-i=(n-(i+1))+1 by omega,F8,hcl,<-hgo2,hend]
 ·obtain rfl:i=n:=oV
  refine G.lF (i:Int) (i:Int) ?_;rw[Avc,F8]at hgo;have hlz:zer cur<cur.length:=by rw[hgo,G0,hN];exact hz
  have hel:=hF.1;have hvl:=Ak6 cur;refine G.l (ι:=Nat) (fun e=>[(0,sV a i c),(5,iV e),(6,sV (some ⟨g,0,none⟩) i cap)]) (fun _=>[])
   (fun e u' m'=>e<=zer cur/\m'=m2) (fun e=>zer cur-e) 0 ⟨Atu _,rfl⟩ ?_
  rintro J2 e hJ2 u3 m3 l3 ⟨he,rfl⟩;have hec:e<cur.length:=oV
  obtain⟨e1,he1,hf1'⟩:=hF.at hec;obtain⟨x1,x2,x3,x4,x5,x6,x7,x8,rfl⟩:=hf1'.opn;rw[<-F3 hec]at hf1';refine G.a g 0 i cap e 4 oV ?_;refine G.lM (some 4) g (0+e*4) _ (hA.el he1) ?_;have hb20:=As9 (Aan S T ht) hST;refine G.c call96 (Jz (hf1'.mono l3) (hsz.at hec) oV) ?_;rintro v4 u4 l4 rfl;by_cases hlt2:e<zer cur
  ·refine G.eT' (sg (gR cur e)) 0 (If.2 (Ac5 hlt2)) ?_;refine G.i e ?_;exact G.b (hJ2 (e+1) _ _ _ cV (l3.trans l4) ⟨oV,rfl⟩ oV)
  ·obtain rfl:e=zer cur:=oV
   refine G.eF' (sg (gR cur (zer cur))) 0 (fun h=>Ad7 hlz (If.1 h)) ?_;generalize hE:zer cur=E at *
   refine G.a g 0 i cap E 4 oV ?_;refine G.lM (some 4) g (0+E*4) _ (hA.el he1) ?_;refine G.c call96 (Jz (hf1'.mono (l3.trans l4)) (hsz.at hec) oV) ?_;rintro v5 u5 l5 rfl;refine G.sliceFrom g 0 i cap E 4 kV oV oV ?_;have hvs:=Aix (l:=cur) (by rw[hE];exact hec);rw[hE]at hvs;have hsa:=Aq2 (gR cur E);refine G.l (ι:=Nat×Nat×Int) (fun j=>[(0,sV a i c),(5,iV E),(9,iV j.2.1),(10,iV j.2.2),(59,sV (some ⟨g,0+E*4,none⟩) (i-E) (cap-E)),(60,iV (i-E:Nat)),(61,iV j.1)]) (fun _=>[])
    (fun j u' m'=>j.1<=i-E/\j.2.1<=j.1/\j.2.1+chg j.2.2 (cur.drop (E+j.1))=var cur/\-1<=j.2.2/\j.2.2<=1/\m'=m3) (fun j=>i-E-j.1) (0,0,sg (gR cur E))
    ⟨Atu _,Atb _,by dsimp only;rw[Avb,Aud];exact hvs,hsa.1,hsa.2,rfl⟩ ?_
   rintro J3 ⟨j,gr,s⟩ hJ3 u6 m6 l6 ⟨hj,hgr,hch,hs1,hs2,rfl⟩;simp only at hj hgr hch hs1 hs2 hJ3;by_cases hltj:j<i-E
   ·refine G.lT (j:Int) ((i-E:Nat):Int) ?_;have hjc:E+j<cur.length:=oV
    obtain⟨e7,he7,hf7⟩:=hF.at hjc;obtain⟨w1,w2,w3,w4,w5,w6,w7,w8,rfl⟩:=hf7.opn;rw[<-F3 hjc]at hf7;have hEl:=hA.el he7;rw[show 0+(E+j)*4=0+E*4+j*4 by omega]at hEl;refine G.a g (0+E*4) (i-E) (cap-E) j 4 hltj ?_;refine G.lM (some 4) g (0+E*4+j*4) _ hEl ?_;refine G.c call96 (Jz (hf7.mono (((l3.trans l4).trans l5).trans l6)) (hsz.at hjc) oV) ?_;rintro v8 u8 l8 rfl;refine G.neg s (-s) kV rfl oV oV ?_;have hdr:cur.drop (E+j)=gR cur (E+j)::cur.drop (E+j+1):=by rw[F3 hjc];exact Aw9 hjc
    rw[hdr,chg]at hch;by_cases hq:sg (gR cur (E+j)) = -s
    ·rw[if_pos hq]at hch;refine G.eT' (sg (gR cur (E+j))) (-s) hq ?_;refine G.i gr ?_;refine G.neg s (-s) kV rfl oV oV ?_;refine G.i j ?_;exact G.b (hJ3 (j+1,gr+1,-s) _ _ _ cV (l6.trans l8) ⟨dV,dV,by dsimp only;rw[show E+(j+1)=E+j+1 by omega];omega,dV,dV,rfl⟩ dV)
    ·rw[if_neg hq]at hch;refine G.eF' (sg (gR cur (E+j))) (-s) hq ?_;refine G.i j ?_;exact G.b (hJ3 (j+1,gr,s) _ _ _ cV (l6.trans l8) ⟨dV,dV,by dsimp only;rw[show E+(j+1)=E+j+1 by omega];omega,hs1,hs2,rfl⟩ dV)
   ·obtain rfl:j=i-E:=oV
    refine G.lF ((i-E:Nat):Int) ((i-E:Nat):Int) ?_;rw[Aue oV,chg]at hch;refine G.sub (i:Int) 1 ((i:Int)-1) kV rfl oV oV ?_;refine G.sub ((i:Int)-1) (E:Int) ((i:Int)-1-(E:Int)) kV rfl oV oV ?_;refine G.sub ((i:Int)-1-(E:Int)) (gr:Int) ((i:Int)-1-(E:Int)-(gr:Int)) kV rfl oV oV ?_;refine G.drop PH.mt kV (PH.mt_le _) ?_;refine G.r (.tuple #[.int .i64 ((i:Int)-1-(E:Int)-(gr:Int)),.int .i64 (E:Int)]) ⟨rfl,?_⟩;unfold C7 Co;rw[<-hgo,hE,hN,<-hch];simp
theorem Ali (h:Bn u v p)(hy:An u y x)(hs:SzL p S)(hx:Sz x T)(hST:S+T+1<=500000)(hn:p.length<=5)(hz:zer (E9 x p)<p.length) :
 Fn0 prog 53 [v,y] u fun v' _=>v'=.tuple #[.int .i64 (C7 p x),.int .i64 (Co p x:Int)] :=
 Alf h hy hs hx (Aj6 (by have:=(R7 (n:=p.length) oV).2 hn;omega) hST) oV oV hz
end
section
variable {M:List (List Rat)}{q:Rat}{u:PH}
structure F4 where
 b:Bool
 a:Option Addr
 n:Nat
 c:Nat
 b':Bool
 a':Option Addr
 n':Nat
 c':Nat
def fv (f:F4):Value:=.agg #[.bool f.b,.slice f.a f.n f.c,.bool f.b',.slice f.a' f.n' f.c']
def fc (f:F4):List SV:=[.v (.bool f.b),.v (.slice f.a f.n f.c),.v (.bool f.b'),.v (.slice f.a' f.n' f.c')]
theorem An.opF {v:Value}(h:An u v q):∃ f,v=fv f:=by
 obtain⟨b,a,n,c,b',a',n',c',rfl⟩:=h.opn;exact⟨⟨b,a,n,c,b',a',n',c'⟩,rfl⟩
theorem Re (f:F4):Ax 4 [fv f]:=by
 intro x hx;simp at hx;subst hx;exact⟨rfl,fun y hy=>by simp[fv,Value.cells]at hy;rcases hy with rfl|rfl|rfl|rfl<;>rfl⟩
def Bp (r:Value×List Value):Arr:=⟨r.1,103,4,r.2⟩
def C5 (v:Value)(es:List Value):Arr:=⟨v,103,4,es⟩
def Cv (g n:Nat)(rows:List (Value×List Value)):Arr:=⟨.slice (some ⟨g,0,none⟩) n n,123,1,rows.map (·.1)⟩
theorem Bag.perm {l l':List Arr}(h:l.Perm l'):∀ {m:PH},Bag m l->Bag m l':=by
 induction h with
 |nil=>exact fun h=>h
 |cons x _ ih=>exact fun⟨m0,h1,h2⟩=>⟨m0,h1,ih h2⟩
 |swap x y l =>
  rintro m ⟨m1,hy,m0,hx,hl⟩;obtain⟨m2,k1,k2,_⟩:=At.swap hy hx;exact⟨m2,k2,m0,k1,hl⟩
 |trans _ _ h1 h2=>exact fun h=>h2 (h1 h)
section bag
variable {o:Arr} {rows:List (Value×List Value)} {rest:List Arr} {i j n:Nat} {r r':Value×List Value} {x x':Arr}
theorem Gz (h:rows[i]?=some r):(o::(rows.map Bp++rest))[i+1]?=some (Bp r):=by
 have hlt:i<rows.length:=by
  rcases At8 i rows.length with h'|h'
  ·exact h'
  ·rw[Att h']at h;cases h
 rw[Aya,Atl (by simpa using hlt),Aty,h];rfl
theorem Xv (h:i<rows.length):(o::(rows.map Bp++rest)).set (i+1) (Bp r')=o::((rows.set i r').map Bp++rest):=by
 rw[Avi,List.set_append_left _ _ (by simpa using h),Axb]
theorem H7 (hn:rows.length=n)(h:rest[j]?=some x):(o::(rows.map Bp++rest))[n+1+j]?=some x:=by
 rw[show n+1+j=(n+j)+1 by omega,Aya,At1 gV];simp[hn,h]
theorem Abp (hn:rows.length=n):(o::(rows.map Bp++rest)).set (n+1+j) x'=o::(rows.map Bp++rest.set j x'):=by
 rw[show n+1+j=(n+j)+1 by omega,Avi,Awm _ _ gV];simp[hn]
end bag
def MAt (u:PH)(rows:List (Value×List Value))(M:List (List Rat)):Prop:=rows.length=M.length/\∀ (i:Nat) (r:Value×List Value),rows[i]?=some r->AtP An u r.2 (gM M i)
theorem MAt.mono {u u':PH}{rows:List (Value×List Value)}{M:List (List Rat)}(h:MAt u rows M)(hl:PH.le u u'):MAt u' rows M:=⟨h.1,fun i r hr=>(h.2 i r hr).mono (fun _ _ k=>k.mono hl)⟩
theorem Sl {i j:Nat}{q:List Rat}(hi:i<M.length):gM (M.set i q) j=if i=j then q else gM M j:=by
 unfold gM;simp only[As7,Au5];split
 ·rename_i e;subst e;simp
 ·rfl
theorem MAt.set {rows:List (Value×List Value)}{i:Nat}{r:Value×List Value}{q:List Rat}(h:MAt u rows M)(hi:i<rows.length)(hr:AtP An u r.2 q):MAt u (rows.set i r) (M.set i q):=by
 refine⟨by simp[h.1],fun j r' hj=>?_⟩;rw[Sl (by rw[<-h.1];exact hi)];rw[Au5]at hj;by_cases e:i=j
 ·subst e;rw[if_pos rfl,if_pos hi]at hj;simp only[Atd]at hj;rw[if_pos rfl,<-hj];exact hr
 ·rw[if_neg e]at hj⊢;exact h.2 j r' hj
def SqM (n:Nat)(M:List (List Rat)):Prop:=M.length=n/\∀ i,i<n->(gM M i).length=n
def SzM (M:List (List Rat))(k:Nat):Prop:=∀ i j,i<M.length->j<(gM M i).length->Sz (gR (gM M i) j) k
theorem SzM.mono {M:List (List Rat)}{j k:Nat}(h:SzM M j)(hjk:j<=k):SzM M k:=fun a b h1 h2=>(h a b h1 h2).mono hjk
theorem SqM.set {n : Nat}  {i : Nat} {q : List Rat} (h : SqM n M) (hi : i < n) (hq : q.length = n) : SqM n (M.set i q) :=
  ⟨by simp [h.1], fun j hj => by rw [Sl (by rw [h.1]; exact hi)]; split; · exact hq
                                 · exact h.2 j hj⟩
theorem Xx {l:List Rat}{i j:Nat}(hi:i<l.length):gR (l.set i q) j=if i=j then q else gR l j:=by
 unfold gR;simp only[As7,Au5];split
 ·rename_i e;subst e;simp
 ·rfl
theorem Q5 {i:Nat}(h:i<M.length):gM M i=M[i]:=by simp[gM,h]
def cb (T:Nat):Nat->Nat
 |0=>1
 |k+1=>72*cb T k+36*T+86
theorem Asl {T k n:Nat}(hn:n<=6)(hk:k<n)(hT:T<=3\/n<=4/\T<=400):cb T k<=8000000000:=by
 have h0:cb T 0=1:=rfl;have h1:cb T 1=72*cb T 0+36*T+86:=rfl;have h2:cb T 2=72*cb T 1+36*T+86:=rfl;have h3:cb T 3=72*cb T 2+36*T+86:=rfl;have h4:cb T 4=72*cb T 3+36*T+86:=rfl;have h5:cb T 5=72*cb T 4+36*T+86:=rfl
 match k,hk with
 |0,_=>omega
 |1,_=>omega
 |2,_=>omega
 |3,_=>omega
 |4,_=>omega
 |5,_=>omega
 |k+6,h=>omega
theorem Alw {q r:Rat}{j k:Nat}(h:Sz q j)(h':Sz r k)(hr:r≠0):Sz (q/r) (j+k):=by
 rw[<-Aga q r];have a1:=Fu q.num.natAbs r.den;have a3:=Fu q.den r.num.natAbs;have b1:=h.1;have b2:=h.2;have b3:=h'.1;have b4:=h'.2;have hn:r.num≠0:=fun e=>hr (Axp.1 e);have hd:(q.den:Int)≠0:=by have:=q.den_pos;omega
 have c1:nl (q.num*(r.den:Int)).natAbs<=j+k:=by rw[Au7];simp only[Atv];omega
 have c2:nl ((q.den:Int)*r.num).natAbs<=j+k:=by rw[Au7];simp only[Atv];omega
 rcases Int.lt_or_lt_of_ne (Int.mul_ne_zero hd hn) with hlt|hgt
 ·have e:Au0 (q.num*(r.den:Int)) ((q.den:Int)*r.num)=Au0 (-(q.num*(r.den:Int))) (-((q.den:Int)*r.num)):=(Rat.neg_divInt_neg _ _).symm;rw[e];exact Mr oV (by rw[Avp];exact c1) (by rw[Avp];exact c2)
 ·exact Mr hgt c1 c2
end
section
variable {A:List (List Rat)}{i n:Nat}{rows:List (Value×List Value)}{v:Value}
def zF:Value:=.agg #[.bool false,.slice none 0 0,.bool false,.slice none 0 0]
theorem H1 {g n:Nat}{m0 m:PH}:(Cv g n rows).At m0 m=Ae m0 m (.slice (some ⟨g,0,none⟩) n n) 123 1 (rows.map (·.1)):=rfl
theorem H3 {es:List Value}{m0 m:PH}:(C5 v es).At m0 m=Ae m0 m v 103 4 es:=rfl
theorem W3 {r:Value×List Value}{m0 m:PH}:(Bp r).At m0 m=Ae m0 m r.1 103 4 r.2:=rfl
def E1:Value×List Value:=(.slice none 0 0,[])
theorem Bag.nils {l:List Arr}{m:PH}(h:Bag m l):∀ n,Bag m ((As6 n E1).map Bp++l)
 |0=>h
 |n+1=>⟨m,Ae.nil _ _ _,Bag.nils h n⟩
theorem MAt.at {u:PH}{M:List (List Rat)}(h:MAt u rows M)(hi:i<rows.length):∃ r,rows[i]?=some r/\AtP An u r.2 (gM M i):=⟨rows[i],As5 hi,h.2 i _ (As5 hi)⟩
theorem Vc.cell {u:PH}{a:Option Addr}{n c i j:Nat}(h:Vc u (.slice a n c) A)(hi:i<A.length)(hj:j<(gM A i).length) :
 ∃ b off b' off' c' f,a=some ⟨b,off,none⟩/\ElP u b (off+i*1) (.slice (some ⟨b',off',none⟩) (gM A i).length c')/\ElP u b' (off'+j*4) (fv f)/\An u (fv f) (gR (gM A i) j):=by
 obtain⟨b,off,e,rfl,h1,h2⟩:=LP.at h (As5 hi);rw[<-Q5 hi]at h2;obtain⟨a',c',rfl⟩:=h2.opn;obtain⟨b',off',b1,a1,n1,c1,b2,a2,n2,c2,rfl,k1,k2⟩:=h2.at hj;exact⟨b,off,b',off',c',⟨b1,a1,n1,c1,b2,a2,n2,c2⟩,rfl,h1,k1,k2⟩
structure St where
 k:Nat
 g:Nat
 rows:List (Value×List Value)
 M:List (List Rat)
 es:List Value
 qs:List Rat
 gb:List Arr
structure Asi (u m:PH)(n T gO cO:Nat)(A:List (List Rat))(s:St):Prop where
 hk:s.k<=n
 ql:s.qs.length=s.k+1
 at':AtP An u s.es s.qs
 mat:MAt u s.rows s.M
 sq:SqM n s.M
 szM:SzM s.M (cb T s.k)
 szq:SzL s.qs (cb T s.k)
 go:F1 A n (n-s.k) (s.k+1) s.M s.qs=Ao A
 bag:Bag m (Cv s.g n s.rows::(s.rows.map Bp++C5 (.slice (some ⟨gO,0,none⟩) (n+1) cO) (As6 (n-s.k) zF++s.es)::s.gb))
theorem Aqu (n j:Nat):gR (As6 n 0) j=0:=by
 unfold gR;rw[As7,Avg];split<;>rfl
theorem Ade (r:List Rat)(h:i<n):gM (As6 n r) i=r:=by
 unfold gM;rw[As7,Avg,if_pos h];rfl
theorem Mt:Sz 0 1:=Nv (z:=0) fV
theorem AtP.rep {u:PH}{e:Value}{q:Rat}(h:An u e q)(n:Nat):AtP An u (As6 n e) (As6 n q):=by
 refine⟨mV,fun j x hj=>?_⟩;rw[Avg]at hj⊢;split at hj
 ·rename_i hlt;simp only[Atd]at hj;subst hj;exact⟨e,by rw[if_pos hlt],h⟩
 ·cases hj
section steps
variable {fn:Func} {Post:By} {u m:PH}
end steps
theorem Alc {u:PH}{T:Nat}(h:Bx u v (Br A))(hs:Sq A)(h4:A.length<=6)(hT:T<=3\/A.length<=4/\T<=400)(hA:∀ r∈A,SzL r T) :
 Fn0 prog 52 [v] u fun v' u'=>Bn u' v' (Ao A)/\SzL (Ao A) (cb T A.length):=by
 obtain⟨a,c,rfl⟩:=h.opn;rw[Ba]at h⊢;have hrl:∀ r∈A,r.length=A.length:=hs.row;refine Fn0.o func52 ?_;refine G.l (ι:=Nat×List Value×(Option Addr×Nat×Nat)) (fun i=>[(3,iV A.length),(4,sV i.2.2.1 i.2.2.2.1 i.2.2.2.2),(20,sV a A.length c),(21,iV A.length),(22,iV i.1)]) (fun _=>[])
  (fun i u' m'=>i.1<=A.length/\AtP Bn u' i.2.1 (A.take i.1)/\Ae PH.mt m' (.slice i.2.2.1 i.2.2.2.1 i.2.2.2.2) 123 1 i.2.1)
  (fun i=>A.length-i.1) (0,[],(none,0,0)) ⟨Atu _,AtP.nil,Ae.nil _ _ _⟩ ?_
 rintro J ⟨k,Ip,⟨a2,n2,c2⟩⟩ hJ u2 m2 l2 ⟨hk,hF,hA2⟩;simp only at hk hF hA2 hJ;have hel:=hF.1;rw[Atm]at hel;by_cases hlt:k<A.length
 ·refine G.lT (k:Int) (A.length:Int) ?_;have htk:A[k]?=some A[k]:=As5 hlt;have hmem:=Ath hlt;obtain⟨ba,oa,a3,c3,rfl,e3,s3⟩:=(h.mono l2).row (Ex htk);rw[Ata]at e3 s3;refine G.a ba oa A.length c k 1 oV ?_;refine G.lU none ba (oa+k*1) _ e3 ?_;refine G.c call117 (P5 s3 (hs.tx _ hmem) (by rw[hrl _ hmem];omega)) ?_;intro v4 u4 l4 k4;obtain⟨a4,c4,rfl⟩:=k4.lp.opn;refine G.B 123 1 24 (.slice none 0 0) [.slice a4 A[k].length c4] (G3 _ _ _) ?_;intro g6 u6 l6 e6;refine G.append 123 1 24 (.slice none 0 0) PH.mt Ip [.slice a4 A[k].length c4] (.slice a2 n2 c2) g6 0 1 1 kV rfl rfl oV hA2 e6 (G3 _ _ _) rfl oV oV oV ?_;intro v7 m7 hA7;obtain⟨a7,c7,rfl⟩:=hA7.shape;refine G.i k ?_;refine G.b (hJ (k+1,Ip++[Au8 a4 A[k].length c4],(a7,(Ip++[Au8 a4 A[k].length c4]).length,c7)) _ _ _ cV ((l2.trans l4).trans l6) ⟨dV,?_,hA7⟩ dV);dsimp only;rw[At0,htk];exact (hF.mono (fun _ _ h=>h.mono (l4.trans l6))).snoc (k4.mono l6)
 ·obtain rfl:k=A.length:=oV
  rw[At9]at hF;refine G.lF (A.length:Int) (A.length:Int) ?_;refine G.give PH.mt Ip _ kV hA2 (fun _=>.inl rfl) ?_;intro u3 l3 hL3;have hlv:Ip.length=A.length:=by rw[hF.1]
  obtain⟨_,_,e0⟩:=hL3.opn;simp only[Atr]at e0;obtain⟨rfl,rfl,rfl⟩:=e0;rw[hlv]at hL3⊢;have hFM:Vc u3 (.slice a2 A.length c2) A:=⟨Ip,hL3,hF.mono (fun _ _ h=>h.mono l3)⟩;clear hL3 hF hA2 hJ hlv hel;generalize hN:A.length=n at *
  refine G.i n ?_;refine G.make 103 4 64 zF (n+1) kV rfl rfl oV oV oV ?_;rintro v4 m4 hO4 ⟨aO,rfl⟩;obtain⟨gO,rfl,_⟩:=hO4.some';refine G.c call56 (Dk (z:=1) oV oV) ?_;intro v5 u5 l5 k5;obtain⟨f5,rfl⟩:=k5.opF;refine G.a gO 0 (n+1) (n+1) n 4 oV ?_;refine G.storeA 4 PH.mt _ gO (n+1) (n+1) n (fv f5) kV hO4 mV rfl rfl ?_;intro m6 hO6;have hset:(As6 (n+1) zF).set n (fv f5)=As6 n zF++[fv f5]:=by
   rw[Ayv,Awm _ _ mV];simp
  rw[hset]at hO6;refine G.make 123 1 24 (.slice none 0 0) n kV rfl rfl oV oV oV ?_;rintro v7 m7 hM7 ⟨aM,rfl⟩;obtain⟨gM',rfl,_⟩:=hM7.some';have hb0:Bag m6 [C5 (.slice (some ⟨gO,0,none⟩) (n+1) (n+1)) (As6 n zF++[fv f5])]:=⟨PH.mt,hO6,trivial⟩;have hb1:Bag m7 (Cv gM' n (As6 n E1)::((As6 n E1).map Bp++[C5 (.slice (some ⟨gO,0,none⟩) (n+1) (n+1)) (As6 n zF++[fv f5])])):=by
   refine (hb0.nils n).add (x:=Cv gM' n (As6 n E1)) ?_;rw[H1,Aw5];exact hM7
  clear hO4 hO6 hM7 hb0;refine G.l (ι:=Nat×List (Value×List Value)) (fun i=>[(3,iV n),(4,sV a2 n c2),(7,sV (some ⟨gO,0,none⟩) (n+1) (n+1)),(8,sV (some ⟨gM',0,none⟩) n n),(42,iV n),(43,iV i.1)]) (fun _=>[])
   (fun i u' m'=>i.1<=n/\i.2.length=n/\(∀ j r,i.2[j]?=some r->if j<i.1 then AtP An u' r.2 (As6 n 0) else r=E1)/\Bag m' (Cv gM' n i.2::(i.2.map Bp++[C5 (.slice (some ⟨gO,0,none⟩) (n+1) (n+1)) (As6 n zF++[fv f5])])))
   (fun i=>n-i.1) (0,As6 n E1)
   ⟨Atu _,mV,fun j r hj=>by rw[if_neg (Nat.not_lt_zero _)];exact Av2 (Ato hj),hb1⟩ ?_
  rintro J2 ⟨i,rows⟩ hJ2 u8 m8 l8 ⟨hi,hrn,hrow,hbag⟩;simp only at hi hrn hrow hbag hJ2;by_cases hlt2:i<n
  ·refine G.lT (i:Int) (n:Int) ?_;refine G.c call56 (Dk (z:=0) oV oV) ?_;intro v9 u9 l9 k9;obtain⟨f9,rfl⟩:=k9.opF;refine G.B 103 4 64 zF [fv f9] (Re f9) ?_;intro g10 u10 l10 e10;have hLP:Ad u10 (.slice (some ⟨g10,0,none⟩) 1 1) 4 [fv f9]:=⟨_,1,rfl,Atb _,fun j e hj=>⟨g10,0,rfl,e10 j e hj⟩⟩;refine G.callO _ _ kV call118 (Ajb (n:=n) hLP (Re f9) oV) ?_;intro v11 u11 mc11 l11 hA11 hf11;have hA11':=hA11.join hf11;obtain⟨a11,c11,rfl⟩:=hA11.shape;rw[Aur]at hA11'⊢;have hri:rows[i]?=some E1:=by
    have hx:=hrow i rows[i] (As5 oV);rw[if_neg oV]at hx;rw[As5 oV,hx]
   obtain⟨m0,hx0,hput⟩:=hbag.focus (i+1) (Gz hri);have hm0:m0=m8:=by
    rcases hx0.2 with ⟨_,_,e⟩|⟨_,_,_,_,_,e,_⟩
    ·exact e.symm
    ·simp[Bp,E1]at e
   subst hm0;have hbag2:=hput (Bp (.slice a11 n c11,As6 n (fv f9))) _ hA11';rw[Xv oV]at hbag2;obtain⟨m0',hx1,hput1⟩:=hbag2.focus 0 rfl;rw[H1]at hx1;refine G.a gM' 0 n n i 1 hlt2 ?_;refine G.storeA 1 m0' _ gM' n n i (.slice a11 n c11) kV hx1 (by simp[hrn,hlt2]) rfl rfl ?_;intro m12 hx12;have hbag3:=hput1 (Cv gM' n (rows.set i (.slice a11 n c11,As6 n (fv f9)))) m12 (by
    rw[H1,Axb];exact hx12)
   refine G.i i ?_;refine G.b (hJ2 (i+1,rows.set i (.slice a11 n c11,As6 n (fv f9))) _ _ _ cV (((l8.trans l9).trans l10).trans l11) ⟨dV,by dsimp only;simp[hrn],?_,hbag3⟩ dV);intro j r hj;dsimp only at hj⊢;rw[Au5]at hj;by_cases e:i=j
   ·subst e;rw[if_pos rfl,if_pos oV]at hj;simp only[Atd]at hj;rw[if_pos oV,<-hj];exact AtP.rep (k9.mono (l10.trans l11)) n
   ·rw[if_neg e]at hj;have:=hrow j r hj;by_cases hji:j<i
    ·rw[if_pos hji]at this;rw[if_pos oV];exact this.mono (fun _ _ h=>h.mono ((l9.trans l10).trans l11))
    ·rw[if_neg hji]at this;rw[if_neg oV];exact this
  ·obtain rfl:i=n:=oV
   refine G.lF (i:Int) (i:Int) ?_;have hMat:MAt u8 rows (As6 i (As6 i 0)):=⟨by simp[hrn],fun j r hj=>by
    have hjl:j<i:=by
     rcases At8 j rows.length with h'|h'
     ·omega
     ·rw[Att h']at hj;cases hj
    rw[Ade _ hjl];have:=hrow j r hj;rw[if_pos hjl]at this;exact this⟩
   have hA':∀ i j,i<A.length->j<(gM A i).length->Sz (gR (gM A i) j) T:=fun i j h1 h2=>by
    have hm:gM A i∈A:=by rw[Q5 h1];exact Ath h1
    exact (hA _ hm).at h2
   have hAl:∀ i,i<A.length->(gM A i).length=A.length:=fun i h1=>by rw[Q5 h1,hN];exact hrl _ (Ath h1)
   have one:((1:Int):Rat)=1:=fV
   have zero:((0:Int):Rat)=0:=fV
   rw[one]at k5;have hinit:Asi u8 m8 i T gO (i+1) A ⟨0,gM',rows,As6 i (As6 i 0),[fv f5],[1],[]⟩:=by
    refine⟨Atu _,rfl,?_,hMat,⟨mV,fun j hj=>by rw[Ade _ hj];simp⟩,fun a b h1 h2=>?_,fun q hq=>?_,?_,hbag⟩
    ·exact AtP.snoc (es:=[]) (xs:=[]) AtP.nil (k5.mono l8)
    ·simp only[Aur]at h1;rw[Ade _ h1,Aqu];exact Mt
    ·simp at hq;subst hq;exact Nv (z:=1) fV
    ·simp only[Awx,Aud];unfold Ao;rw[hN]
   refine G.l (ι:=St) (fun s=>[(3,iV i),(4,sV a2 i c2),(7,sV (some ⟨gO,0,none⟩) (i+1) (i+1)),(8,sV (some ⟨s.g,0,none⟩) i i),(10,iV (s.k+1:Nat))]) (fun _=>[])
    (fun s u' m'=>Asi u' m' i T gO (i+1) A s) (fun s=>i-s.k) ⟨0,gM',rows,As6 i (As6 i 0),[fv f5],[1],[]⟩ hinit ?_
   clear hinit hMat hbag hrow hrn hJ2 hb1;generalize i=n at *
   rintro J3 ⟨k,gl,lrows,M,es,qs,gb⟩ hJ3 u9 m9 l9 ⟨hkn,hql,hat,hmat,hsq,hszM,hszq,hgo,hbag⟩;simp only at hkn hql hat hmat hsq hszM hszq hgo hbag hJ3;have hell:=hat.1;by_cases hk1:k<n
   ·refine G.kT ((k+1:Nat):Int) (n:Int) ?_;obtain⟨B,hB⟩:∃ B,B=cb T k:=⟨_,rfl⟩;have hBle:B<=8000000000:=by rw[hB];exact Asl h4 hk1 hT
    have hT4:T<=400:=oV
    have hB1:cb T (k+1)=72*B+36*T+86:=by rw[hB];rfl
    rw[<-hB]at hszM hszq;obtain⟨eo,heo,hfo⟩:=hat.at (j:=0) oV;rw[<-F3 oV]at hfo;obtain⟨fo,rfl⟩:=hfo.opF;have hsc:Sz (gR qs 0) B:=hszq.at oV;refine G.l (ι:=Nat×List (Value×List Value)×List (List Rat)) (fun j=>[(3,iV n),(4,sV a2 n c2),(7,sV (some ⟨gO,0,none⟩) (n+1) (n+1)),(8,sV (some ⟨gl,0,none⟩) n n),(10,iV (k+1:Nat)),(60,iV n),(61,iV j.1)]) (fun _=>[])
     (fun j u' m'=>j.1<=n/\MAt u' j.2.1 j.2.2/\SqM n j.2.2/\SzM j.2.2 (2*B+1)/\(∀ a b,j.1<=a->a<n->b<n->Sz (gR (gM j.2.2 a) b) B)/\Ez (gR qs 0) (n-j.1) j.1 j.2.2=Ez (gR qs 0) n 0 M/\Bag m' (Cv gl n j.2.1::(j.2.1.map Bp++C5 (.slice (some ⟨gO,0,none⟩) (n+1) (n+1)) (As6 (n-k) zF++es)::gb)))
     (fun j=>n-j.1) (0,lrows,M)
     ⟨Atu _,hmat,hsq,hszM.mono oV,fun a b _ h1 h2=>hszM a b (by rw[hsq.1];exact h1) (by rw[hsq.2 a h1];exact h2),rfl,hbag⟩ ?_
    rintro J4 ⟨i,rows,M'⟩ hJ4 u10 m10 l10 ⟨hi,hmat',hsq',hsz',hszd,hdg,hbag'⟩;simp only at hi hmat' hsq' hsz' hszd hdg hbag' hJ4;have hrn:rows.length=n:=by rw[hmat'.1,hsq'.1]
    by_cases hlti:i<n
    ·refine G.lT (i:Int) (n:Int) ?_;obtain⟨⟨rv,res⟩,hri,hra⟩:=hmat'.at (i:=i) oV;have hrl':res.length=n:=by have:=hra.1;rw[hsq'.2 i hlti]at this;exact this
     obtain⟨gr,cr,e⟩:=hbag'.ptr (i+1) (Gz hri) (by intro e;simp only[Bp]at e;rw[e]at hrl';simp at hrl';omega);simp only[Bp]at e;rw[hrl']at e;subst e;obtain⟨e1,he1,hf1⟩:=hra.at (j:=i) (by rw[hsq'.2 i hlti];exact hlti);rw[<-F3 (by rw[hsq'.2 i hlti];exact hlti)]at hf1;obtain⟨f1,rfl⟩:=hf1.opF;have hro:ElP m10 gl (0+i*1) (.slice (some ⟨gr,0,none⟩) n cr):=hbag'.el 0 (x:=Cv gl n rows) rfl rfl (by show (rows.map (·.1))[i]?=_;rw[Aty,hri];rfl);have hre:ElP m10 gr (0+i*4) (fv f1):=hbag'.el (i+1) (Gz hri) rfl he1;have hoe:ElP m10 gO (0+(n-k)*4) (fv fo):=hbag'.el (n+1+0) (H7 hrn rfl) rfl (by show (As6 (n-k) zF++es)[n-k]?=_;rw[At1 mV];simpa using heo);refine G.a gl 0 n n i 1 hlti ?_;refine G.lM none gl (0+i*1) _ hro ?_;refine G.a gl 0 n n i 1 hlti ?_;refine G.lM none gl (0+i*1) _ hro ?_;refine G.a gr 0 n cr i 4 hlti ?_;refine G.lM (some 4) gr (0+i*4) _ hre ?_;refine G.s (n:Int) ((k+1:Nat):Int) ((n-(k+1):Nat):Int) ?_;refine G.p ((n-(k+1):Nat):Int) 1 ((n-k:Nat):Int) ?_;refine G.a gO 0 (n+1) (n+1) (n-k) 4 oV ?_;refine G.lM (some 4) gO (0+(n-k)*4) _ hoe ?_;have hs1:=hszd i i (Atb _) hlti hlti;refine G.c call57 (D7 hf1 (hfo.mono l10) (hs1.mono oV) (hsc.mono oV)) ?_;intro v11 u11 l11 k11;obtain⟨f11,rfl⟩:=k11.opF;have hs11:Sz (gR (gM M' i) i+gR qs 0) (2*B+1):=(F6 hs1 hsc).mono oV;obtain⟨m0,hx,hput⟩:=hbag'.focus (i+1) (Gz hri);rw[W3]at hx;refine G.a gr 0 n cr i 4 hlti ?_;refine G.storeA 4 m0 res gr n cr i (fv f11) kV hx oV rfl rfl ?_;intro m12 hx12;have hbag2:=hput (Bp (.slice (some ⟨gr,0,none⟩) n cr,res.set i (fv f11))) m12 hx12;rw[Xv oV]at hbag2;have houter:(rows.set i (.slice (some ⟨gr,0,none⟩) n cr,res.set i (fv f11))).map (·.1)=rows.map (·.1):=by
      rw[Axb];apply Awe;intro j;rw[Au5];split
      ·rename_i e;subst e;rw[if_pos gV,Aty,hri];rfl
      ·rfl
     refine G.i i ?_;have hgs:∀ a b,gR (gM (M'.set i ((gM M' i).set i (gR (gM M' i) i+gR qs 0))) a) b=if i=a then (if i=b then gR (gM M' i) i+gR qs 0 else gR (gM M' i) b) else gR (gM M' a) b:=by
      intro a b;rw[Sl (by rw[hsq'.1];exact hlti)];by_cases e:i=a
      ·rw[if_pos e,if_pos e,Xx (by rw[hsq'.2 i hlti];exact hlti)]
      ·rw[if_neg e,if_neg e]
     have hsqn:=hsq'.set (i:=i) hlti (q:=(gM M' i).set i (gR (gM M' i) i+gR qs 0)) (by rw[Avx,hsq'.2 i hlti]);refine G.b (hJ4 (i+1,rows.set i (.slice (some ⟨gr,0,none⟩) n cr,res.set i (fv f11)),M'.set i ((gM M' i).set i (gR (gM M' i) i+gR qs 0))) _ _ _ cV (l10.trans l11) ⟨dV,?_,hsqn,?_,?_,?_,?_⟩ dV)
     ·exact (hmat'.mono l11).set oV ((hra.mono (fun _ _ h=>h.mono l11)).set i k11)
     ·intro a b h1 h2;dsimp only at h1 h2⊢;rw[hsqn.1]at h1;rw[hsqn.2 a h1]at h2;rw[hgs];split
      ·split
       ·exact hs11
       ·exact hsz' i b (by rw[hsq'.1];exact hlti) (by rw[hsq'.2 i hlti];exact h2)
      ·exact hsz' a b (by rw[hsq'.1];exact h1) (by rw[hsq'.2 a h1];exact h2)
     ·intro a b h1 h2 h3;dsimp only at h1⊢;rw[hgs,if_neg oV];exact hszd a b oV h2 h3
     ·dsimp only;rw[<-hdg,show n-i=(n-(i+1))+1 by omega,Ez]
     ·dsimp only;have:Cv gl n (rows.set i (.slice (some ⟨gr,0,none⟩) n cr,res.set i (fv f11)))=Cv gl n rows:=by unfold Cv;rw[houter]
      rw[this];exact hbag2
    ·obtain rfl:i=n:=oV
     refine G.lF (i:Int) (i:Int) ?_;rw[Avc,Ez]at hdg;rw[hdg]at hmat' hsq' hsz';clear hszd hJ4 hszM hmat hsq hdg;generalize hM1:Ez (gR qs 0) i 0 M=M1 at *
     generalize i=n at *
     have hrn:rows.length=n:=by rw[hmat'.1,hsq'.1]
     obtain⟨NB,hNB⟩:∃ NB,NB=12*B+6*T+13:=⟨_,rfl⟩;obtain⟨W,hW⟩:∃ W,W=T+(2*B+1)+1:=⟨_,rfl⟩;have hbagN:=hbag'.nils n;refine G.make 123 1 24 (.slice none 0 0) n kV rfl rfl oV oV oV ?_;rintro v11 m11 hM11 ⟨aN,rfl⟩;obtain⟨gN,rfl,_⟩:=hM11.some';have hbag2:Bag m11 (Cv gN n (As6 n E1)::((As6 n E1).map Bp++(Cv gl n rows::(rows.map Bp++C5 (.slice (some ⟨gO,0,none⟩) (n+1) (n+1)) (As6 (n-k) zF++es)::gb)))):=by
      refine hbagN.add (x:=Cv gN n (As6 n E1)) ?_;rw[H1,Aw5];exact hM11
     clear hbagN hM11 hbag';refine G.c call56 (Dk (z:=0) oV oV) ?_;intro v12 u12 l12 k12;rw[zero]at k12;obtain⟨f12,rfl⟩:=k12.opF;refine G.l (ι:=Nat×List (Value×List Value)×List (List Rat)×F4×Rat) (fun j=>[(3,iV n),(4,sV a2 n c2),(7,sV (some ⟨gO,0,none⟩) (n+1) (n+1)),(8,sV (some ⟨gl,0,none⟩) n n),(10,iV (k+1:Nat)),(12,sV (some ⟨gN,0,none⟩) n n),(13,.p 25001 0),(90,iV n),(91,iV j.1)])
      (fun j=>[(25001,⟨103,fc j.2.2.2.1⟩)])
      (fun j u' m'=>j.1<=n/\j.2.1.length=n/\j.2.2.1.length=j.1/\(∀ x r,j.2.1[x]?=some r->if x<j.1 then AtP An u' r.2 (gM j.2.2.1 x) else r=E1)/\Fb A M1 n (n-j.1) j.1 j.2.2.1 j.2.2.2.2=Fb A M1 n n 0 [] 0/\(∀ x,x<j.1->(gM j.2.2.1 x).length=n)/\SzM j.2.2.1 NB/\Sz j.2.2.2.2 (1+j.1*(NB+1))/\An u' (fv j.2.2.2.1) j.2.2.2.2 /\
       Bag m' (Cv gN n j.2.1::(j.2.1.map Bp++(Cv gl n rows::(rows.map Bp++C5 (.slice (some ⟨gO,0,none⟩) (n+1) (n+1)) (As6 (n-k) zF++es)::gb)))))
      (fun j=>n-j.1) (0,As6 n E1,[],f12,0)
      ⟨Atu _,mV,rfl,fun x r hx=>by rw[if_neg (Nat.not_lt_zero _)];exact Av2 (Ato hx),rfl,fun x hx=>absurd hx (Nat.not_lt_zero _),fun a b h1 _=>absurd h1 (Nat.not_lt_zero _),Mt.mono oV,k12,hbag2⟩ ?_
     clear hbag2;rintro J5 ⟨i,nrows,N,tr,trq⟩ hJ5 u13 m13 l13 ⟨hi,hnn,hNl,hnrow,hnx,hNr,hszN,hstr,htr,hbag3⟩;simp only at hi hnn hNl hnrow hnx hNr hszN hstr htr hbag3 hJ5;have hlu:PH.le u10 u13:=l12.trans l13;by_cases hlti:i<n
     ·refine G.lT (i:Int) (n:Int) ?_;have hnil:nrows[i]?=some E1:=by
       have hx:=hnrow i nrows[i] (As5 oV);rw[if_neg oV]at hx;rw[As5 oV,hx]
      have hset0:nrows.set i E1=nrows:=by
       apply Awe;intro x;rw[Au5];split
       ·rename_i e;subst e;rw[if_pos oV,hnil]
       ·rfl
      refine G.l (ι:=Nat×(Option Addr×Nat×Nat)×List Value×List Rat) (fun j=>[(3,iV n),(4,sV a2 n c2),(7,sV (some ⟨gO,0,none⟩) (n+1) (n+1)),(8,sV (some ⟨gl,0,none⟩) n n),(10,iV (k+1:Nat)),(12,sV (some ⟨gN,0,none⟩) n n),(13,.p 25001 0),(90,iV n),(91,iV i),(14,iV i),(94,iV n),(95,iV j.1)])
       (fun j=>[(25001,⟨103,fc tr⟩)])
       (fun j u' m'=>j.1<=n/\j.2.2.2.length=j.1/\AtP An u' j.2.2.1 j.2.2.2/\Eh (gM A i) M1 n (n-j.1) j.1 j.2.2.2=Eh (gM A i) M1 n n 0 []/\SzL j.2.2.2 NB /\
        Bag m' (Cv gN n (nrows.set i (.slice j.2.1.1 j.2.1.2.1 j.2.1.2.2,j.2.2.1))::((nrows.set i (.slice j.2.1.1 j.2.1.2.1 j.2.1.2.2,j.2.2.1)).map Bp++(Cv gl n rows::(rows.map Bp++C5 (.slice (some ⟨gO,0,none⟩) (n+1) (n+1)) (As6 (n-k) zF++es)::gb)))))
       (fun j=>n-j.1) (0,(none,0,0),[],[])
       ⟨Atu _,rfl,AtP.nil,rfl,fun q hq=>absurd hq mV,by dsimp only;rw[show ((Au8 none 0 0,([]:List Value)):Value×List Value)=E1 from rfl,hset0];exact hbag3⟩ ?_
      rintro J6 ⟨j,⟨ca,cn,cc⟩,ces,L⟩ hJ6 u14 m14 l14 ⟨hj,hLl,hcat,hrg,hszL,hbag4⟩;simp only at hj hLl hcat hrg hszL hbag4 hJ6;have hcl:ces.length=j:=by rw[hcat.1,hLl]
      have hri:(nrows.set i (.slice ca cn cc,ces))[i]?=some (.slice ca cn cc,ces):=by rw[Au5,if_pos rfl,if_pos oV]
      have hcn:cn=ces.length:=by
       obtain⟨_,_,e⟩:=hbag4.shape (i+1) (Gz hri);simp only[Bp,Atr]at e;exact e.2.1
      have hnl':(nrows.set i (.slice ca cn cc,ces)).length=n:=by simp[hnn]
      have hno:ElP m14 gN (0+i*1) (.slice ca cn cc):=hbag4.el 0 (x:=Cv gN n _) rfl rfl (by show (List.map _ _)[i]?=_;rw[Aty,hri];rfl);by_cases hltj:j<n
      ·refine G.lT (j:Int) (n:Int) ?_;refine G.c call56 (Dk (z:=0) oV oV) ?_;intro v15 u15 l15 k15;rw[zero]at k15;obtain⟨f15,rfl⟩:=k15.opF;refine G.l (ι:=Nat×F4×Rat) (fun x=>[(3,iV n),(4,sV a2 n c2),(7,sV (some ⟨gO,0,none⟩) (n+1) (n+1)),(8,sV (some ⟨gl,0,none⟩) n n),(10,iV (k+1:Nat)),(12,sV (some ⟨gN,0,none⟩) n n),(13,.p 25001 0),(90,iV n),(91,iV i),(14,iV i),(94,iV n),(95,iV j),(15,iV j),(16,.p 32001 0),(99,iV n),(100,iV x.1)])
        (fun x=>[(25001,⟨103,fc tr⟩),(32001,⟨103,fc x.2.1⟩)])
        (fun x u' m'=>x.1<=n/\Is (gM A i) M1 j (n-x.1) x.1 x.2.2=Is (gM A i) M1 j n 0 0/\Sz x.2.2 (1+x.1*W)/\An u' (fv x.2.1) x.2.2/\m'=m14)
        (fun x=>n-x.1) (0,f15,0)
        ⟨Atu _,rfl,Mt.mono oV,k15,rfl⟩ ?_
       rintro J7 ⟨x,sm,smq⟩ hJ7 u16 m16 l16 ⟨hx,hsg,hszs,hsm,rfl⟩;simp only at hx hsg hszs hsm hJ7;have hxW:x*W<=6*W:=Ats _ oV;by_cases hltx:x<n
       ·refine G.lT (x:Int) (n:Int) ?_;have hl3:PH.le u3 u16:=l5.trans (l8.trans (l9.trans (l10.trans (l12.trans (l13.trans (l14.trans (l15.trans l16)))))));obtain⟨b1,o1,b2,o2,c3,fa,rfl,ea1,ea2,fa2⟩:=(hFM.mono hl3).cell (i:=i) (j:=x) oV (by rw[hAl i oV];omega);rw[hAl i oV,hN]at ea1;refine G.a b1 o1 n c2 i 1 hlti ?_;refine G.lU none b1 (o1+i*1) _ ea1 ?_;refine G.a b2 o2 n c3 x 4 hltx ?_;refine G.lU (some 4) b2 (o2+x*4) _ ea2 ?_;obtain⟨⟨rv,res⟩,hrx,hra⟩:=hmat'.at (i:=x) oV;have hrl':res.length=n:=by have:=hra.1;rw[hsq'.2 x hltx]at this;exact this
        obtain⟨gr,cr,e⟩:=hbag4.ptr (n+1+(x+1)) (H7 hnl' (Gz hrx)) (by intro e;simp only[Bp]at e;rw[e]at hrl';simp at hrl';omega);simp only[Bp]at e;rw[hrl']at e;subst e;obtain⟨e1,he1,hf1⟩:=hra.at (j:=j) (by rw[hsq'.2 x hltx];exact hltj);rw[<-F3 (by rw[hsq'.2 x hltx];exact hltj)]at hf1;obtain⟨f1,rfl⟩:=hf1.opF;have hro:ElP m16 gl (0+x*1) (.slice (some ⟨gr,0,none⟩) n cr):=hbag4.el (n+1+0) (x:=Cv gl n rows) (H7 hnl' rfl) rfl (by show (rows.map (·.1))[x]?=_;rw[Aty,hrx];rfl);have hre:ElP m16 gr (0+j*4) (fv f1):=hbag4.el (n+1+(x+1)) (H7 hnl' (Gz hrx)) rfl he1;refine G.a gl 0 n n x 1 hltx ?_;refine G.lM none gl (0+x*1) _ hro ?_;refine G.a gr 0 n cr j 4 hltj ?_;refine G.lM (some 4) gr (0+j*4) _ hre ?_;have hsA:=hA' i x oV (by rw[hAl i oV];omega);have hsM:=hsz' x j (by rw[hsq'.1];exact hltx) (by rw[hsq'.2 x hltx];exact hltj);have hsP:=Yx hsA hsM;refine G.c call42 (L6 fa2 (hf1.mono (l12.trans (l13.trans (l14.trans (l15.trans l16))))) (hsA.mono oV) (hsM.mono oV)) ?_;intro v17 u17 l17 k17;obtain⟨f17,rfl⟩:=k17.opF;refine G.c call57 (D7 (hsm.mono l17) k17 (hszs.mono oV) (hsP.mono oV)) ?_;intro v18 u18 l18 k18;obtain⟨f18,rfl⟩:=k18.opF;refine G.i x ?_;refine G.b (hJ7 (x+1,f18,smq+gR (gM A i) x*gR (gM M1 x) j) _ _ _ cV ((l16.trans l17).trans l18) ⟨dV,?_,?_,k18,rfl⟩ dV)
        ·dsimp only;rw[<-hsg,show n-x=(n-(x+1))+1 by omega,Is]
        ·dsimp only;refine (F6 hszs hsP).mono ?_;have e:=Nat.succ_mul x W;simp only[Nat.succ_eq_add_one]at e;omega
       ·obtain rfl:x=n:=oV
        refine G.lF (x:Int) (x:Int) ?_;rw[Avc,Is]at hsg;have hszf:Sz smq NB:=hszs.mono oV;rw[hsg]at hszf hsm;subst hcn;refine G.a gN 0 x x i 1 hlti ?_;refine G.lM none gN (0+i*1) _ hno ?_;refine G.B 103 4 64 zF [fv sm] (Re sm) ?_;intro g17 u17 l17 e17;obtain⟨m0,hx0,hput⟩:=hbag4.focus (i+1) (Gz hri);rw[W3]at hx0;refine G.append 103 4 64 zF m0 ces [fv sm] (.slice ca ces.length cc) g17 0 1 1 kV rfl rfl oV hx0 e17 (Re sm) rfl oV oV oV ?_;intro v18 m18 hx18;obtain⟨a18,c18,rfl⟩:=hx18.shape;have hbag5:=hput (Bp (.slice a18 (ces++[fv sm]).length c18,ces++[fv sm])) m18 hx18;rw[Xv oV]at hbag5;obtain⟨m0',hx1,hput1⟩:=hbag5.focus 0 rfl;rw[H1]at hx1;refine G.a gN 0 x x i 1 hlti ?_;refine G.storeA 1 m0' _ gN x x i (.slice a18 (ces++[fv sm]).length c18) kV hx1 (by simp[hnn,hlti]) rfl rfl ?_;intro m19 hx19;have hbag6:=hput1 (Cv gN x ((nrows.set i (.slice ca ces.length cc,ces)).set i (.slice a18 (ces++[fv sm]).length c18,ces++[fv sm]))) m19 (by
         rw[H1,Axb];exact hx19)
        rw[Avj,List.set_set]at hbag6;refine G.i j ?_;refine G.b (hJ6 (j+1,(a18,(ces++[fv sm]).length,c18),ces++[fv sm],L++[Is (gM A i) M1 j x 0 0]) _ _ _ cV (((l14.trans l15).trans l16).trans l17) ⟨dV,by dsimp only;simp[hLl],?_,?_,?_,hbag6⟩ dV)
        ·exact (hcat.mono (fun _ _ h=>h.mono ((l15.trans l16).trans l17))).snoc (hsm.mono l17)
        ·dsimp only;rw[<-hrg,show x-j=(x-(j+1))+1 by omega,Eh]
        ·intro q hq;rcases Ati.1 hq with hq|hq
         ·exact hszL q hq
         ·simp at hq;subst hq;exact hszf
      ·obtain rfl:j=n:=oV
       refine G.lF (j:Int) (j:Int) ?_;rw[Avc,Eh]at hrg;subst hcn;obtain⟨gr,cr,e⟩:=hbag4.ptr (i+1) (Gz hri) (by intro e;simp only[Bp]at e;rw[e]at hcl;simp at hcl;omega);simp only[Bp,Atr]at e;obtain⟨rfl,_,rfl⟩:=e;rw[hcl]at hno;obtain⟨e1,he1,hf1⟩:=hcat.at (j:=i) oV;rw[<-F3 oV]at hf1;obtain⟨f1,rfl⟩:=hf1.opF;have hre:ElP m14 gr (0+i*4) (fv f1):=hbag4.el (i+1) (Gz hri) rfl he1;refine G.a gN 0 j j i 1 hlti ?_;refine G.lM none gN (0+i*1) _ hno ?_;refine G.a gr 0 j cc i 4 hlti ?_;refine G.lM (some 4) gr (0+i*4) _ hre ?_;have hsL:Sz (gR L i) NB:=hszL.at oV;have hiN:i*(NB+1)<=6*(NB+1):=Ats _ oV;refine G.c call57 (D7 (htr.mono l14) hf1 (hstr.mono oV) (hsL.mono oV)) ?_;intro v15 u15 l15 k15;obtain⟨f15,rfl⟩:=k15.opF;refine G.i i ?_;have hgN:∀ x,gM (N++[L]) x=if x<i then gM N x else if x=i then L else []:=by
        intro x;unfold gM;rw[As7];by_cases h1:x<i
        ·rw[if_pos h1,Atl oV,As7]
        ·rw[if_neg h1,At1 oV,hNl];by_cases h2:x=i
         ·rw[if_pos h2,h2,Avc];rfl
         ·rw[if_neg h2,Att gV];rfl
       refine G.b (hJ5 (i+1,nrows.set i (.slice (some ⟨gr,0,none⟩) ces.length cc,ces),N++[L],f15,trq+gR L i) _ _ _ cV ((l13.trans l14).trans l15) ⟨dV,by dsimp only;simp[hnn],by dsimp only;simp[hNl],?_,?_,?_,?_,?_,k15,hbag4⟩ dV)
       ·intro x r hxr;dsimp only at hxr⊢;rw[hgN];rw[Au5]at hxr;by_cases e:i=x
        ·subst e;rw[if_pos rfl,if_pos oV]at hxr;simp only[Atd]at hxr;rw[if_pos oV,if_neg oV,if_pos rfl,<-hxr];exact hcat.mono (fun _ _ h=>h.mono l15)
        ·rw[if_neg e]at hxr;have:=hnrow x r hxr;by_cases hxi:x<i
         ·rw[if_pos hxi]at this;rw[if_pos oV,if_pos hxi];exact this.mono (fun _ _ h=>h.mono (l14.trans l15))
         ·rw[if_neg hxi]at this;rw[if_neg oV];exact this
       ·dsimp only;rw[<-hnx,show j-i=(j-(i+1))+1 by omega,Fb,<-hrg]
       ·intro x hx;dsimp only at hx⊢;rw[hgN];by_cases hxi:x<i
        ·rw[if_pos hxi];exact hNr x hxi
        ·rw[if_neg hxi,if_pos oV];exact hLl
       ·intro x y h1 h2;dsimp only at h1 h2⊢;rw[hgN]at h2⊢;by_cases hxi:x<i
        ·rw[if_pos hxi]at h2⊢;exact hszN x y oV h2
        ·have:x=i:=by simp[hNl]at h1;omega
         rw[if_neg hxi,if_pos this]at h2⊢;exact hszL.at h2
       ·dsimp only;refine (F6 hstr hsL).mono ?_;have e:=Nat.succ_mul i (NB+1);simp only[Nat.succ_eq_add_one]at e;omega
     ·obtain rfl:i=n:=oV
      refine G.lF (i:Int) (i:Int) ?_;rw[Avc,Fb]at hnx;refine G.s (i:Int) ((k+1:Nat):Int) ((i-(k+1):Nat):Int) ?_;refine G.neg ((k+1:Nat):Int) (-((k+1:Nat):Int)) kV rfl oV oV ?_;refine G.c call56 (Dk (z:=-((k+1:Nat):Int)) oV oV) ?_;intro v14 u14 l14 k14;obtain⟨f14,rfl⟩:=k14.opF;have hiN:i*(NB+1)<=6*(NB+1):=Ats _ oV;have hnz:((-((k+1:Nat):Int):Int):Rat)≠0:=by
       intro e;have:=Rat.intCast_eq_zero_iff.1 e;omega
      have hsk:Sz ((-((k+1:Nat):Int):Int):Rat) 1:=Nv oV;refine G.c call39 (Ib (htr.mono l14) k14 (hstr.mono oV) (hsk.mono oV) hnz) ?_;intro v15 u15 l15 k15;obtain⟨f15,rfl⟩:=k15.opF;have hsd:=Alw hstr hsk hnz;obtain⟨m0,hx0,hput⟩:=hbag3.focus (i+1+(i+1+0)) (H7 hnn (H7 hrn rfl));rw[H3]at hx0;refine G.a gO 0 (i+1) (i+1) (i-(k+1)) 4 oV ?_;refine G.storeA 4 m0 _ gO (i+1) (i+1) (i-(k+1)) (fv f15) kV hx0 gV rfl rfl ?_;intro m16 hx16;have hset:(As6 (i-k) zF++es).set (i-(k+1)) (fv f15)=As6 (i-(k+1)) zF++(fv f15::es):=by
       rw[show i-k=(i-(k+1))+1 by omega,Ayv,List.append_assoc,Awm _ _ mV];simp
      rw[hset]at hx16;have hbag4:=hput (C5 (.slice (some ⟨gO,0,none⟩) (i+1) (i+1)) (As6 (i-(k+1)) zF++(fv f15::es))) m16 hx16;rw[Abp hnn,Abp hrn]at hbag4;have hperm:Bag m16 (Cv gN i nrows::(nrows.map Bp++C5 (.slice (some ⟨gO,0,none⟩) (i+1) (i+1)) (As6 (i-(k+1)) zF++(fv f15::es))::(Cv gl i rows::(rows.map Bp++gb)))):=by
       refine Bag.perm ?_ hbag4;refine A0g _ (List.Perm.append_left _ ?_);rw[Avj];exact (A0g _ List.perm_middle).trans (List.Perm.swap _ _ _)
      refine G.p ((k+1:Nat):Int) 1 ((k+1+1:Nat):Int) ?_;have e2:Fb A M1 i i 0 [] 0=(N,trq):=hnx.symm;refine G.b (hJ3 ⟨k+1,gN,nrows,N,fv f15::es,trq/((-((k+1:Nat):Int):Int):Rat)::qs,Cv gl i rows::(rows.map Bp++gb)⟩ _ _ _ cV (((((l9.trans l10).trans l12).trans l13).trans l14).trans l15) ⟨dV,by dsimp only;simp[hql],?_,?_,?_,?_,?_,?_,hperm⟩ dV)
      ·refine⟨by simp[hell],fun x q hxq=>?_⟩;cases x with
       |zero =>
        simp only[List.getElem?_cons_zero,Atd]at hxq;subst hxq;exact⟨fv f15,rfl,k15⟩
       |succ x =>
        simp only[Aya]at hxq;obtain⟨e,h1,h2⟩:=hat.2 x q hxq;exact⟨e,by simpa using h1,h2.mono ((((l10.trans l12).trans l13).trans l14).trans l15)⟩
      ·refine⟨dV,fun x r hxr=>?_⟩;dsimp only at hxr⊢;have hxl:x<i:=by
        rcases At8 x nrows.length with h'|h'
        ·omega
        ·rw[Att h']at hxr;cases hxr
       have:=hnrow x r hxr;rw[if_pos hxl]at this;exact this.mono (fun _ _ h=>h.mono (l14.trans l15))
      ·exact⟨hNl,hNr⟩
      ·dsimp only;rw[hB1];exact hszN.mono oV
      ·intro q hq;dsimp only;rw[hB1];rcases List.mem_cons.1 hq with rfl|hq
       ·exact hsd.mono oV
       ·exact (hszq q hq).mono oV
      ·dsimp only;rw[<-hgo,show i-k=(i-(k+1))+1 by omega,F1,hM1,e2]
   ·obtain rfl:k=n:=oV
    refine G.kF ((k+1:Nat):Int) (k:Int) ?_;rw[Avc,F1]at hgo;have hrn:lrows.length=k:=by rw[hmat.1,hsq.1]
    obtain⟨m0,hx,_⟩:=hbag.take (k+1+0) (H7 hrn rfl);rw[H3,Avc,Av3,Ava]at hx;refine G.give m0 es _ kV hx (fun _=>.inl rfl) ?_;intro u10 l10 hL;refine G.drop PH.mt kV (PH.mt_le _) ?_;rw[hgo]at hat hszq;exact G.r (.slice (some ⟨gO,0,none⟩) (k+1) (k+1)) ⟨rfl,⟨es,hL,hat.mono (fun _ _ h=>h.mono l10)⟩,hszq⟩
end
section
variable {A:List (List Rat)}{S T T':Nat}{p:List Rat}{u:PH}{v:Value}{x:Rat}
theorem M6 (A:List (List Rat))(n:Nat):∀ (f k:Nat) (M:List (List Rat)) (out:List Rat),(F1 A n f k M out).length=f+out.length
 |0,_,_,out=>by simp[F1]
 |f+1,k,M,out=>by rw[F1,M6 A n f];simp;omega
theorem Cw (A:List (List Rat)):(Ao A).length=A.length+1:=by rw[Ao,M6];rfl
theorem Ri (A:List (List Rat))(n:Nat):∀ (f k:Nat) (M:List (List Rat)) (out:List Rat),out≠[]->(F1 A n f k M out).getLast?=out.getLast?
 |0,_,_,out,_=>rfl
 |f+1,k,M,out,h=>by
  rw[F1,Ri A n f _ _ _ mV];cases out with
  |nil=>exact absurd rfl h
  |cons x l=>rw[List.getLast?_cons_cons]
theorem Up (A:List (List Rat)):gR (Ao A) A.length=1:=by
 have h:=Ri A A.length A.length 1 (As6 A.length (As6 A.length 0)) [1] mV;rw[show F1 A A.length A.length 1 (As6 A.length (As6 A.length 0)) [1]=Ao A from rfl,List.getLast?_eq_getElem?,Cw]at h;simp at h;simp[gR,h]
theorem Ab6 (x:Rat)(i:Nat):∀ (k:Nat) (l:List Rat),k<l.length->gR (I3 x i k l) (l.length-1)=gR l (l.length-1)
 |0,l,_=>rfl
 |k+1,l,h=>by
  unfold I3;split
  ·rfl
  ·have:=Ab6 x i k (l.set k (gR l k+x*gR l (k+1))) gV;rw[Avx]at this;rw[this,Xx oV,if_neg oV]
theorem Tv (x:Rat):∀ (f i:Nat) (l:List Rat),l≠[]->gR (F8 x f i l) (l.length-1)=gR l (l.length-1)
 |0,_,l,_=>rfl
 |f+1,i,l,h=>by
  have hp:=Avq.2 h;have:=Tv x f (i+1) (I3 x i (l.length-1) l) (by intro e;have:=Hn x i (l.length-1) l;rw[e]at this;simp at this;omega);rw[Hn]at this;rw[F8,this,Ab6 x i _ l oV]
theorem Adv {l:List Rat}(h:l≠[])(hl:gR l (l.length-1)≠0):zer l<l.length:=by
 have hp:=Avq.2 h;rcases At8 (zer l) l.length with h1|h1
 ·exact h1
 ·exact absurd (Ac5 oV) hl
theorem P7 (x:Rat)(h:p≠[])(hl:gR p (p.length-1)≠0):zer (E9 x p)<p.length:=by
 have h1:=G0 x p;have h2:=Tv x p.length 0 p h;have:=Adv (l:=E9 x p) (by intro e;rw[e]at h1;simp at h1;exact h (Auo h1.symm)) (by rw[h1];unfold E9;rw[h2];exact hl);omega
theorem Ame (A:List (List Rat))(x:Rat):zer (E9 x (Ao A))<(Ao A).length:=by
 refine P7 x (by intro e;have:=Cw A;rw[e]at this;simp at this) ?_;rw[Cw,Nat.add_sub_cancel,Up];decide
theorem Lz (p:List Rat)(x:Rat)(h:p.length<=7):-20<=C7 p x/\C7 p x<=20:=by
 have h1:=Ak6 (E9 x p);have h2:=Adf (E9 x p);rw[G0]at h1 h2;unfold C7;omega
theorem Jt (p:List Rat)(x:Rat)(h:p.length<=7):Co p x<=7:=by
 have h2:=Adf (E9 x p);rw[G0]at h2;unfold Co;omega
theorem Aex {v y z:Value}{lo hi:Rat}(h:Bn u v p)(hy:An u y lo)(hz:An u z hi)(hs:SzL p S)(hx:Sz lo T)(hx':Sz hi T)(hST:S+T+1<=500000)(hn:p.length<=5)(h0:p≠[])(hl:gR p (p.length-1)≠0) :
 Fn0 prog 71 [v,y,z] u fun v' _=>v'=.int .i64 (Au p lo hi):=by
 obtain⟨a,c,rfl⟩:=h.opn;obtain⟨fy,rfl⟩:=hy.opF;obtain⟨fz,rfl⟩:=hz.opF;have b1:=Lz p lo oV;have b2:=Lz p hi oV;have b3:=Jt p lo oV;have b4:=Jt p hi oV;refine Fn0.o func71 ?_;refine G.c call53 (Ali (y:=fv fy) h hy hs hx hST hn (P7 lo h0 hl)) ?_;rintro v1 u1 l1 rfl;refine G.c call53 (Ali (y:=fv fz) (h.mono l1) (hz.mono l1) hs hx' hST hn (P7 hi h0 hl)) ?_;rintro v2 u2 l2 rfl;refine G.add (C7 p hi) (Co p hi:Int) (C7 p hi+(Co p hi:Int)) kV rfl oV oV ?_;refine G.sub (C7 p hi+(Co p hi:Int)) (C7 p lo) (C7 p hi+(Co p hi:Int)-C7 p lo) kV rfl oV oV ?_;refine G.sub (C7 p hi+(Co p hi:Int)-C7 p lo) (Co p lo:Int) (Au p lo hi) kV rfl (by unfold Au;omega) (by unfold Au;omega) ?_;exact G.r _ ⟨rfl,rfl⟩
structure Aa2 (A:List (List Rat))(T:Nat):Prop where
 sq:Sq A
 sym:Aaw A
 le:A.length<=6
 tle:T<=3\/A.length<=4/\T<=400
 sz:∀ r∈A,SzL r T
 light:∃ L K,6*K<=600/\Vi A L K
structure M3 (A:List (List Rat))(T:Nat):Prop where
 sq:Sq A
 sym:Aaw A
 le:A.length<=4
 tle:T<=400
 sz:∀ r∈A,SzL r T
 light:∃ L K,6*K<=600/\Vi A L K
theorem M3.w (h:M3 A T):Aa2 A T:=⟨h.sq,h.sym,by have:=h.le;omega,.inr ⟨h.le,h.tle⟩,h.sz,h.light⟩
theorem Aa2.large (hA:Aa2 A T)(ht:D1 u)(h:Bx u v (Br A)):Fn0 prog 48 [v] u fun v' _=>v'=.bool false:=by
 obtain⟨L,K,hK,hL⟩:=hA.light;have hle:=hA.le;exact Arp ht h hA.sq.tx oV (fun r hr=>by rw[hA.sq.row r hr];omega) hK hL
theorem M3.large {u:PH}{v:Value}{A:List (List Rat)}{T:Nat}(hA:M3 A T)(ht:D1 u)(h:Bx u v (Br A)):Fn0 prog 48 [v] u fun v' _=>v'=.bool false:=hA.w.large ht h
theorem Mb (ht:D1 u)(h:Bx u v (Br A))(hA:M3 A T)(htx:∀ q∈Ao A,Tx q) :
 Fn0 prog 19 [v] u fun v' u'=>∃ r,v'=.tuple #[r,.int .i64 0]/\Eg u' r ((Ao A).map Ap):=by
 have hbe:=fun (u':PH) (v:Value) (hv:Bx u' v (Br A))=>Wb hv hA.sq hA.sym;have hla:=fun (u':PH) (v:Value) (ht':D1 u') (hv:Bx u' v (Br A))=>hA.large ht' hv;have hch:=fun (u':PH) (v:Value) (hv:Bx u' v (Br A))=>Alc hv hA.sq hA.w.le hA.w.tle hA.sz;obtain⟨a,c,rfl⟩:=h.opn;refine Fn0.o func19 ?_;refine G.c call46 (hbe _ _ h) ?_;rintro v1 u1 l1 rfl;refine G.nF 0 0 ?_;refine G.c call48 (hla _ _ (ht.mono l1) (h.mono l1)) ?_;rintro v2 u2 l2 rfl;refine G.c call52 (hch _ _ (h.mono (l1.trans l2))) ?_;rintro v3 u3 l3 ⟨k3,_⟩;obtain⟨a3,c3,rfl⟩:=k3.opn;refine G.c call67 (Ty (ht.mono ((l1.trans l2).trans l3)) k3 htx (by rw[Cw];have:=hA.le;omega)) ?_;rintro v4 u4 l4 ⟨r,rfl,hr⟩;obtain⟨a4,c4,rfl⟩:=Ad.opn hr;exact G.r _ ⟨rfl,_,rfl,hr⟩
structure Nj (x:Rat)(n T:Nat):Prop where
 tx:Tx x
 sz:Sz x T
 light:∃ L K,6*K<=600/\Vi ((As6 n x).map fun q=>[q]) L K
theorem Akf (t:List UInt8)(n:Nat):As6 n (Value.string (mkS t))=Bo (As6 n t):=by simp[Bo]
theorem Adh (ht:D1 u)(h:Bx u v (Br A))(hA:Aa2 A T)(hx:Nj x A.length T')(hSS:SzL (Ao A) (cb T A.length)->SzL (Ao A) S)(hST:bd S T' (N4 (A.length+1) (A.length+1))<=1000000000000)(hTT:T'<=500000) :
 Fn0 prog 12 [v,.string (mkS (Ap x))] u fun v' _=>v'=.tuple #[.int .i64 (C7 (Ao A) x),.int .i64 (Co (Ao A) x:Int),.int .i64 0]:=by
 have hbe:=fun (u':PH) (v:Value) (hv:Bx u' v (Br A))=>Wb hv hA.sq hA.sym;have hla:=fun (u':PH) (v:Value) (ht':D1 u') (hv:Bx u' v (Br A))=>hA.large ht' hv;have hch:=fun (u':PH) (v:Value) (hv:Bx u' v (Br A))=>Alc hv hA.sq hA.le hA.tle hA.sz;have hle:=hA.le;have hz:=Ame A x;have hcl:=Cw A;obtain⟨L,K,hK,hL⟩:=hx.light;obtain⟨a,c,rfl⟩:=h.opn;rw[Ba]at h⊢;refine Fn0.o func12 ?_;refine G.c call46 (hbe _ _ h) ?_;rintro v1 u1 l1 rfl;refine G.nF 0 0 ?_;refine G.c call47 (Fn hx.tx) ?_;rintro v2 u2 l2 rfl;refine G.c call48 (hla _ _ (ht.mono (l1.trans l2)) (h.mono (l1.trans l2))) ?_;rintro v3 u3 l3 rfl;refine G.B 34 1 16 (.string (mkS [])) [.string (mkS (Ap x))] (Dv [Ap x]) ?_;intro g4 u4 l4 e4;have hLP:Ad u4 (.slice (some ⟨g4,0,none⟩) 1 1) 1 [.string (mkS (Ap x))]:=⟨_,1,rfl,Atb _,fun j e hj=>⟨g4,0,rfl,e4 j e hj⟩⟩;refine G.c call51 (Amw (n:=A.length) hLP (Dv [Ap x]) oV) ?_;intro v5 u5 l5 k5;rw[Akf]at k5;obtain⟨a5,c5,rfl⟩:=Ad.opn k5;refine G.c call50 (Anq k5 (by rw[Aur];omega)) ?_;intro v6 u6 l6 k6;have e6:(As6 A.length (Ap x)).map (fun t=>[t])=Br ((As6 A.length x).map fun q=>[q]):=by simp[Br]
 rw[e6]at k6;have hl6:PH.le u u6:=((((l1.trans l2).trans l3).trans l4).trans l5).trans l6;have hhe:=fun (v:Value) (hv:Bx u6 v (Br ((As6 A.length x).map fun q=>[q])))=>Al5 (N:=6) (ht.mono hl6) hv (fun r hr q hq=>by
  simp only[Aw5]at hr;have:=Av2 hr;subst this;simp at hq;subst hq;exact hx.tx) gV (fun r hr=>by
  simp only[Aw5]at hr;have:=Av2 hr;subst this;simp) oV hK oV hL.den hL.pos hL.nl hL.dig
 obtain⟨a6,c6,rfl⟩:=k6.opn;refine G.c call49 (hhe _ k6) ?_;rintro v7 u7 l7 rfl;have hl7:=hl6.trans l7;refine G.c call52 (hch _ _ (h.mono hl7)) ?_;rintro v8 u8 l8 ⟨k8,s8⟩;obtain⟨a8,c8,rfl⟩:=k8.opn;refine G.c call54 (Ep hx.tx) ?_;intro v9 u9 l9 k9;obtain⟨f9,rfl⟩:=k9.opF;refine G.c call53 (Alf (k8.mono l9) k9 (hSS s8) hx.sz (by rw[hcl];exact hST) hTT oV hz) ?_;rintro v10 u10 l10 rfl;exact G.r _ ⟨rfl,rfl⟩
theorem Ane (ht:D1 u)(h:Bx u v (Br A))(hA:M3 A T)(hx:Nj x A.length T')(hST:cb T A.length+T'+1<=500000) :
 Fn0 prog 12 [v,.string (mkS (Ap x))] u fun v' _=>v'=.tuple #[.int .i64 (C7 (Ao A) x),.int .i64 (Co (Ao A) x:Int),.int .i64 0]:=Adh ht h hA.w hx id (Aj6 (by have:=hA.le;have:=(R7 (n:=A.length+1) oV).2 oV;omega) hST) oV
theorem Ar2 (ht:D1 u)(h:Bx u v (Br A))(hA:M3 A T)(hx:Nj x A.length T')(hSS:SzL (Ao A) (cb T A.length)->SzL (Ao A) S)(hST:S+T'+1<=500000) :
 Fn0 prog 73 [v,.string (mkS (Ap x))] u fun v' _=>v'=.tuple #[.int .i64 (C7 (Ao A) x+(Co (Ao A) x:Int)),.bool true]:=by
 have hb:=fun (v:Value) (hv:Bx u v (Br A))=>Adh ht hv hA.w hx hSS (Aj6 (by have:=hA.le;have:=(R7 (n:=A.length+1) oV).2 oV;omega) hST) oV;have hle:=hA.le;have b1:=Lz (Ao A) x (by rw[Cw];omega);have b3:=Jt (Ao A) x (by rw[Cw];omega);obtain⟨a,c,rfl⟩:=h.opn;refine Fn0.o func73 ?_;refine G.c call12 (hb _ h) ?_;rintro v1 u1 l1 rfl;refine G.add (C7 (Ao A) x) (Co (Ao A) x:Int) (C7 (Ao A) x+(Co (Ao A) x:Int)) kV rfl oV oV ?_;refine G.eT' 0 0 rfl ?_;exact G.r _ ⟨rfl,rfl⟩
end
end Go.Proofs.YtnafchoihfnkeaaGreatDoor
