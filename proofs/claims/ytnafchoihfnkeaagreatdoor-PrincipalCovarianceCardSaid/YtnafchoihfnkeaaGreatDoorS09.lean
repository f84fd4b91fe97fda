/- Parts of one proof, joined by a program. -/
import Derived.Test.YtnafchoihfnkeaaGreatDoorS08
import Derived.RangeFuncSeq
import Derived.RangeFuncGives
import Derived.RangeFuncIn
import Derived.OrdersIn
import Derived.OwnWalkIn
set_option linter.defProp false
set_option linter.unusedVariables false
set_option linter.unusedSimpArgs false
set_option linter.unusedSectionVars false
set_option maxHeartbeats 16000000
namespace Go.Proofs.YtnafchoihfnkeaaGreatDoor
open Go.Proofs.Tryz
open Go.RowKit Go.MapKept
open _root_.Array renaming getD_eq_getD_getElem? -> Aus, getElem?_eq_getElem -> Aup, getElem?_setIfInBounds_ne -> Avk
open Bool renaming and_eq_true -> Atj, not_eq_true' -> Avs
open Classical renaming byContradiction -> Au2, em -> A2k
open Int renaming lt_or_le -> Axn, toNat_natCast -> Avo
open Lib renaming itoa -> Atn
open List renaming Pairwise.nil -> Azj, all_eq_true -> Atx, any_eq_false -> Azp, append_of_mem -> Ay9, findIdx?_eq_some_iff_getElem -> Axz, foldl_append -> Azo, foldl_cons -> Aye, getD_eq_getElem?_getD -> As7, getElem?_eq_getElem -> As5, getElem?_eq_some_iff -> Atc, getElem?_map -> Aty, getElem?_mapIdx -> A1v, getElem?_set -> Au5, getElem_map -> Awp, getElem_mem -> Ath, getElem_of_mem -> Avy, getElem_take -> Azn, length_append -> Atg, length_map -> Ata, length_nil -> Av1, length_singleton -> Aux, length_take -> Atm, map_append -> Atk, map_cons -> Auk, map_nil -> Axd, mem_append -> Ati, mem_append_left -> Avn, mem_cons -> At6, mem_cons_of_mem -> Auv, mem_cons_self -> Aw3, mem_map -> Ate, mem_of_getElem? -> Ato, mem_singleton -> Aub, nodup_append -> Awq, pairwise_append -> Av8, pairwise_iff_getElem -> Avr, pairwise_singleton -> Azh, range -> At3, range_succ -> Ayh, rel_of_pairwise_cons -> Awl, take_add_one -> At0, take_append_drop -> Awg, take_length -> At9
open Nat renaming add_assoc -> Avl, beq -> Auy, blt_eq -> A0v, eq_of_beq_eq_true -> Aug, lt_or_ge -> At8, pow_le_pow_right -> Atq, zero_le -> Atu
open Option renaming getD_some -> Awo, map_some -> Awh, some.inj -> Auq, some.injEq -> Atd
open Rat renaming add_comm -> Awz, zero_add -> Ax8
open Value renaming bool -> Ayi, cells -> Atw, int -> Auj
theorem Aiq {u:PH}{s:Src}{ts:List Int}{k:Nat}{v w x y:Value}{T:List (List UInt8×Nat)}(h:Li u s ts)(hk:k<=s.n)(hT:Ad u v 2 (T.map Ej))(hl:T.length<=1000)(hkd:∀ a∈T,1<=a.2/\a.2<=3)(hw:∃ a n c,w=.slice a n c)(hx:∃ a n c,x=.slice a n c)(hy:∃ z:Int,y=.int .i64 z) :
 Ak prog 27 [s.ptr,.agg #[v,w,x,y]] u (s.M k) fun r u' m'=>∃ (ss:List (List UInt8)) (k':Nat),Ad u' r 1 (ss.map nmV)/\ss.length=T.length/\(∀ (i:Nat) (x:List UInt8×Nat) (t:List UInt8),T[i]?=some x->ss[i]?=some t->Vt x.2 t)/\k'<=s.n/\m'=s.M k':=by
 obtain⟨a,c,rfl⟩:=hT.opn;obtain⟨wa,wn,wc,rfl⟩:=hw;obtain⟨xa,xn,xc,rfl⟩:=hx;obtain⟨z,rfl⟩:=hy;rw[Ata]at hT⊢;refine Ak.o func27 ?_;refine G.l (ι:=Nat×Nat×List (List UInt8)×(Option Addr×Nat)) (fun i=>[(0,.v s.ptr),(5,sV i.2.2.2.1 i.2.2.1.length i.2.2.2.2),(9,sV a T.length c),(10,iV T.length),(11,iV i.1)]) (fun _=>[])
  (fun i u' m'=>i.1<=T.length/\i.2.1<=s.n/\i.2.2.1.length=i.1/\(∀ (j:Nat) (x:List UInt8×Nat) (t:List UInt8),T[j]?=some x->i.2.2.1[j]?=some t->Vt x.2 t)/\Bag m' [s.arr i.2.1,Aen i.2.2.2.1 i.2.2.2.2 i.2.2.1])
  (fun i=>T.length-i.1) (0,k,[],(none,0))
  ⟨Atu _,hk,rfl,fun j x t _ ht=>by simp at ht,s.bag0 k ⟨PH.mt,Ae.nil _ _ _,trivial⟩⟩ ?_
 rintro J ⟨i,k1,ss,⟨na,nc⟩⟩ hJ u1 m1 l1 ⟨hi,hk1,hsl,hss,hbag⟩;simp only at hi hk1 hsl hss hbag hJ;obtain⟨m0,hsrc,hL⟩:=hbag;obtain⟨rfl,hg0⟩:=Src.split hsrc;by_cases hlt:i<T.length
 ·refine G.lT (i:Int) (T.length:Int) ?_;have hTi:T[i]?=some T[i]:=As5 hlt;obtain⟨hk1',hk3'⟩:=hkd T[i] (Ath hlt);obtain⟨ba,oa,rfl,ea⟩:=Ad.at' (hT.mono l1) (j:=i) (e:=Ej T[i]) (by simp[hTi]);generalize T[i]=q at ea hTi hk1' hk3';refine G.a ba oa T.length c i 2 hlt ?_;refine G.lU (some 2) ba (oa+i*2) (.agg #[.string (mkS q.1),.int .i64 (q.2:Int)]) ea ?_;refine G.D call77 (Src.apart hg0) (Aiv (x:=q) (h.mono l1) hk1 hk1' hk3') ?_;rintro v2 u2 m2 l2 ⟨t,k2,rfl,hv,hk2,rfl⟩ _;refine G.B 9 1 16 (.string (mkS [])) [.string (mkS t)] (Kz [t]) ?_;intro g3 u3 l3 e3;have hbag2:Bag (m0.or (s.M k2)) [s.arr k2,Aen na nc ss]:=⟨m0,Src.at hg0,hL⟩;obtain⟨mm,hx0,hput⟩:=hbag2.focus 1 rfl;rw[Afx]at hx0;refine G.k 9 1 16 (.string (mkS [])) mm (ss.map nmV) [.string (mkS t)] (.slice na ss.length nc) g3 0 1 1 hx0 e3 (Kz [t]) ?_;intro v4 m4 hx4;rw[show ss.map nmV++[.string (mkS t)]=(ss++[t]).map nmV by rw[Atk];rfl]at hx4;obtain⟨a4,c4,rfl⟩:=hx4.shape;rw[Ata]at hx4⊢;have hbag3:=hput (Aen a4 c4 (ss++[t])) m4 hx4;refine G.i i ?_;refine G.b (hJ (i+1,k2,ss++[t],(a4,c4)) _ _ _ cV ((l1.trans l2).trans l3) ⟨dV,hk2,by dsimp only;simp[hsl],?_,hbag3⟩ dV);intro j x' t' hx' ht';dsimp only at ht';rcases At8 j ss.length with hj|hj
  ·rw[List.getElem?_append_left hj]at ht';exact hss j x' t' hx' ht'
  ·rw[List.getElem?_append_right hj]at ht';have hj0:j-ss.length=0:=by
    obtain⟨h',_⟩:=Atc.1 ht';simp at h';omega
   rw[hj0]at ht';obtain rfl:j=i:=oV
   rw[hTi]at hx';cases hx';simp at ht';subst ht';exact hv
 ·obtain rfl:i=T.length:=oV
  refine G.lF (T.length:Int) (T.length:Int) ?_;refine G.giveP (ma:=m0) (sm:=s.M k1) kV rfl (Src.apart hg0) (s.h0 k k1) ?_;intro u2 l2 hm;exact G.r (.slice na ss.length nc) ⟨ss,k1,hL.list hm 0 rfl,hsl,hss,hk1,rfl⟩
section
variable {C:CF}{F:List Aq}{a i:Nat}{f:Aq}{lab:Int}{p:Par}{q:Rat}{ss:List (List UInt8)}{w:List UInt8}
structure CF.One (F:CF):Prop where
 c:F.c=1
 t:∀ k,F.t k=if 0<Bd k.1 k.2 then 0 else F.s k.1*F.s k.2
theorem CF.One.num:(CF.num 1).One:=⟨rfl,fun k=>by
 show (0:Rat)=if 0<Bd k.1 k.2 then 0 else (0:Rat)*0
 split
 ·rfl
 ·grind⟩
theorem Aqe (p:Par)(q:Rat)(k:Par):(CF.one1 p q).s k=if k=p then q else 0:=rfl
theorem CF.One.one1 (p:Par)(q:Rat):(CF.one1 p q).One:=⟨rfl,fun k=>by
 show (if k=(p,p) then q*q else 0)=if 0<Bd k.1 k.2 then 0 else (if k.1=p then q else 0)*(if k.2=p then q else 0)
 obtain⟨x,y⟩:=k;by_cases h:(x,y)=(p,p)
 ·obtain⟨e1,e2⟩:=Prod.mk.inj h;subst e2;rw[e1];have:=Fr.refl y;rw[if_pos rfl,if_neg (by simp only;omega)];simp
 ·rw[if_neg h];split
  ·rfl
  ·by_cases h1:x=p
   ·have h2:y≠p:=fun e=>h (by rw[h1,e]);simp only[h2,if_false];grind
   ·simp only[h1,if_false];grind⟩
theorem CF.One.mul {F G:CF}(hF:F.One)(hG:G.One):(F.mul G).One/\∀ p,(F.mul G).s p=F.s p+G.s p:=by
 have hs:∀ p,(F.mul G).s p=F.s p+G.s p:=fun p=>by
  show G.s p*F.c+F.s p*G.c=_;rw[hF.c,hG.c];grind
 refine⟨⟨?_,fun k=>?_⟩,hs⟩
 ·show F.c*G.c=1;rw[hF.c,hG.c];decide +kernel
 ·rw[hs,hs];show G.t k*F.c+F.t k*G.c+Hh F G k=_;rw[hF.c,hG.c,hF.t,hG.t];unfold Hh;split
  ·grind
  ·split
   ·rename_i he;rw[<-he];grind
   ·grind
abbrev LF:Type:=Option (Option (Par×Rat))
def LF.cf:LF->CF
 |none=>CF.num 0
 |some none=>CF.num 1
 |some (some x)=>CF.one1 x.1 x.2
def Hf (C:CF)(L:List LF):CF:=L.foldl (fun c y=>c.mul y.cf) C
theorem Wi (C:CF)(L:List LF)(x:LF):Hf C (L++[x])=(Hf C L).mul x.cf:=by unfold Hf;rw[Azo];rfl
theorem Amn (F:CF):(CF.num 0).mul F=CF.num 0:=by
 rw[CF.mul_comm];exact CF.mul_zero F
theorem Xn:∀ L,Hf (CF.num 0) L=CF.num 0
 |[]=>rfl
 |x::L=>by
  unfold Hf;rw[Aye,Amn];exact Xn L
theorem Ag8 {L:List LF}(h:none∈L):Hf C L=CF.num 0:=by
 obtain⟨A,B,rfl⟩:=Ay9 h;unfold Hf;rw[Azo,Aye];have:(List.foldl (fun c (y:LF)=>c.mul (LF.cf y)) C A).mul (LF.cf none)=CF.num 0:=CF.mul_zero _;rw[this];exact Xn B
theorem LF.one {x:LF}(h:x≠none):x.cf.One:=by
 match x,h with
 |some none,_=>exact CF.One.num
 |some (some x),_=>exact CF.One.one1 _ _
theorem T2:∀ {L:List LF} {C:CF},C.One->none∉L->(Hf C L).One
 |[],C,h,_=>h
 |x::L,C,h,hn=>by
  have hx:x≠none:=fun e=>hn (by rw[e];exact Aw3 ..);unfold Hf;rw[Aye];exact T2 (h.mul (LF.one hx)).1 fun e=>hn (Auv _ e)
theorem Yr {p:Par}:∀ {L:List LF} {C:CF},C.One->none∉L->(∀ q,some (some (p,q))∉L)->(Hf C L).s p=C.s p
 |[],C,h,_,_=>rfl
 |x::L,C,h,hn,hp=>by
  have hx:x≠none:=fun e=>hn (by rw[e];exact Aw3 ..);have hm:=h.mul (LF.one hx);unfold Hf;rw[Aye];have:=Yr (p:=p) hm.1 (fun e=>hn (Auv _ e)) fun q e=>hp q (Auv _ e);unfold Hf at this;rw[this,hm.2];have hz:x.cf.s p=0:=by
   match x,hx,hp with
   |some none,_,_=>rfl
   |some (some (p',q)),_,hp =>
    show (if p=p' then q else 0)=0;rw[if_neg fun e=>hp q (by rw[e];exact Aw3 ..)]
  rw[hz];grind
theorem Ao7 {L:List LF}(h:C.One)(hn:none∉L)(hc:C.s p=0)(ha:L[a]?=some (some (some (p,q))))(hd:∀ b q',L[b]?=some (some (some (p,q')))->b=a):(Hf C L).s p=q:=by
 obtain⟨hal,hae⟩:=Atc.1 ha;have e:L=L.take a++some (some (p,q))::L.drop (a+1):=by
  rw[<-hae,List.getElem_cons_drop,Awg]
 have hnA:none∉L.take a:=fun hh=>hn (List.mem_of_mem_take hh);have hnB:none∉L.drop (a+1):=fun hh=>hn (List.mem_of_mem_drop hh);have hpA:∀ q',some (some (p,q'))∉L.take a:=fun q' hh=>by
  obtain⟨b,hb,hb2⟩:=Avy hh;rw[Atm]at hb;rw[Azn]at hb2;have:=hd b q' (by rw[As5 oV,hb2]);omega
 have hpB:∀ q',some (some (p,q'))∉L.drop (a+1):=fun q' hh=>by
  obtain⟨b,hb,hb2⟩:=Avy hh;rw[List.length_drop]at hb;rw[List.getElem_drop]at hb2;have:=hd (a+1+b) q' (by rw[As5 oV,hb2]);omega
 rw[e];have hA:=Yr (p:=p) h hnA hpA;have hA1:=T2 h hnA;have hM:=hA1.mul (CF.One.one1 p q);have hB:=Yr (p:=p) hM.1 hnB hpB;have:Hf C (L.take a++some (some (p,q))::L.drop (a+1))=Hf ((Hf C (L.take a)).mul (CF.one1 p q)) (L.drop (a+1)):=by
  unfold Hf;rw[Azo,Aye];rfl
 rw[this,hB,hM.2,hA,hc,Aqe,if_pos rfl];grind
noncomputable def Vb (t:List UInt8):Rat:=open Classical in if h:∃ q,SmW q/\t=Ap q then h.choose else 0
theorem Air {t:List UInt8}(h:∃ q,SmW q/\t=Ap q):SmW (Vb t)/\Ap (Vb t)=t:=by
 unfold Vb;rw[dif_pos h];exact⟨h.choose_spec.1,h.choose_spec.2.symm⟩
noncomputable def Ji (i:Nat)(f:Aq)(w:List UInt8):LF:=if f.2.1=2 then some (some (((i:Int),w),1)) else if w = [] then (if f.2.2=1 then none else some none) else some (some (((i:Int),[]),Vb w))
noncomputable def Rk (w:List UInt8):LF:=if w = [] then none else some (some ((-1,[]),Vb w))
noncomputable def Ge (F:List Aq)(lab:Int)(a:Nat)(w:List UInt8):LF:=if (a:Int)=lab then Rk w else match F.findIdx? (fun f=>f.1==a) with|some k=>Ji k (F.getD k (0,0,0)) w|none=>some none
noncomputable def E4 (F:List Aq)(lab:Int)(ss:List (List UInt8)):List LF:=ss.mapIdx (Ge F lab)
theorem Ii (h:ss[a]?=some w):(E4 F lab ss)[a]?=some (Ge F lab a w):=by
 unfold E4;rw[A1v,h];rfl
theorem Gj :(E4 F lab ss).length=ss.length:=by unfold E4;simp
theorem Ak2 (hn:(F.map (·.1)).Nodup)(hf:F[i]?=some f):F.findIdx? (fun g=>g.1==f.1)=some i:=by
 obtain⟨hi,rfl⟩:=Atc.1 hf;refine Axz.2 ⟨hi,mV,fun j hj=>?_⟩;simp only[beq_iff_eq];intro e;have:=(List.getElem_inj (xs:=F.map (·.1)) (h₀:=by rw[Ata];omega) (h₁:=by rw[Ata];omega) (i:=j) (j:=i) hn).1 (by rw[Awp,Awp];exact e);omega
theorem Xq (hn:(F.map (·.1)).Nodup)(hf:F[i]?=some f)(hl:(f.1:Int)≠lab):Ge F lab f.1 w=Ji i f w:=by
 unfold Ge;rw[if_neg hl,Ak2 hn hf];simp[As7,hf]
theorem Gt (h:(a:Int)≠lab):Ge F lab a w=some none\/∃ (i:Nat) (f:Aq),F[i]?=some f/\f.1=a/\Ge F lab a w=Ji i f w:=by
 unfold Ge;rw[if_neg h];cases hx:F.findIdx? (fun f=>f.1==a) with
 |none=>exact .inl rfl
 |some k =>
  obtain⟨hk,h1,_⟩:=Axz.1 hx;right;refine⟨k,F[k],As5 hk,by simpa using h1,?_⟩;simp[As7,As5 hk]
theorem Ah5 (hl:-1<=lab){a b:Nat}{q q':Rat}(ha:(E4 F lab ss)[a]?=some (some (some (p,q))))(hb:(E4 F lab ss)[b]?=some (some (some (p,q')))):b=a:=by
 have key:∀ {a:Nat} {q:Rat},(E4 F lab ss)[a]?=some (some (some (p,q)))->((a:Int)=lab/\p.1 = -1)\/∃ (i:Nat) (f:Aq),F[i]?=some f/\f.1=a/\p.1=(i:Int):=by
  intro a q ha;unfold E4 at ha;rw[A1v]at ha;cases hw:ss[a]? with
  |none=>rw[hw]at ha;cases ha
  |some w =>
   rw[hw]at ha;simp only[Awh,Atd]at ha;by_cases h:(a:Int)=lab
   ·left;unfold Ge Rk at ha;rw[if_pos h]at ha;split at ha
    ·cases ha
    ·cases ha;exact⟨h,rfl⟩
   ·right;rcases Gt (F:=F) (w:=w) h with e|⟨i,f,h1,h2,h3⟩
    ·rw[e]at ha;cases ha
    ·rw[h3]at ha;refine⟨i,f,h1,h2,?_⟩;unfold Ji at ha;split at ha
     ·cases ha;rfl
     ·split at ha
      ·split at ha<;>cases ha
      ·cases ha;rfl
 rcases key ha with ⟨h1,h2⟩|⟨i,f,h1,h2,h3⟩<;>rcases key hb with ⟨k1,k2⟩|⟨i',f',k1,k2,k3⟩
 ·omega
 ·omega
 ·omega
 ·obtain rfl:i'=i:=oV
  rw[h1]at k1;cases k1;omega
end
section
variable {q:Rat}{t:List UInt8}{x:LF}
theorem Akd {m:PH}{b:Nat}{t:TypeId}{xs:List Value}{e:Value}(hm:m b=some (.cells xs.toArray t (0,0)))(he:e.cells=xs.toArray):ElP m b 0 e:=fun i x hx=>by
 refine⟨_,_,_,hm,?_⟩;rw[he]at hx;simpa using hx
theorem Lw.up {u:PH}{v:Value}{F:CF}{K K':Nat}(h:Lw u v F K)(hk:K<=K'):Lw u v F K':=by
 obtain⟨T,Q,a1,c1,a2,c2,e,hT,hQ,cT,cQ,kT,kQ⟩:=h;exact⟨T,Q,a1,c1,a2,c2,e,hT,hQ,cT,cQ,oV,oV⟩
theorem SmW.dat (h:SmW q):Dat q:=⟨by have:=h.num;omega,h.le⟩
theorem SmW.sb (h:SmW q):SB q:=h.dn.small oV (pw jV)
theorem SmW.sb2 (h:SmW q):SB (q*q):=(h.dn.mul h.dn).small oV (pw jV)
theorem Oq:SmW 1:=⟨jV,jV⟩
def LF.Small:LF->Prop
 |some (some x)=>SmW x.2/\PV x.1
 |_=>True
theorem LF.Small.cfd (h:x.Small):CFD 2 343731600 x.cf:=by
 match x,h with
 |none,_=>exact CFD.count (Dn.zero _ _)
 |some none,_=>exact CFD.count ⟨144,jV,fV⟩
 |some (some x),h =>
  have hq:Dn 2 343731600 x.2:=by
   have:=h.1.dn.mul (show Dn 1 18540 1 from⟨12,jV,fV⟩);rw[show x.2*1=x.2 by grind]at this;exact this.mono oV
  exact Ajk ⟨144,jV,fV⟩ hq ((h.1.dn.mul h.1.dn).mono oV)
theorem LF.Small.cfv (h:x.Small):CFV x.cf:=by
 match x,h with
 |none,_=>exact CFV.count 0
 |some none,_=>exact CFV.count 1
 |some (some x),h=>exact Ajp h.2
theorem O0 {L:List LF}(h:∀ x∈L,x.Small):∀ i,i<=L.length->CFD (2*i) (1374926400^i) (Hf (CF.num 1) (L.take i))/\CFV (Hf (CF.num 1) (L.take i))
 |0,_=>⟨CFD.count ⟨1,jV,fV⟩,CFV.count 1⟩
 |i+1,hi=>by
  obtain⟨h1,h2⟩:=O0 h i oV;have hx:=h _ (Ath (show i<L.length by omega));have e:L.take (i+1)=L.take i++[L[i]]:=by rw[At0,As5 oV];rfl
  rw[e,Wi];refine⟨?_,h2.mul hx.cfv⟩;have:=h1.mul hx.cfd;rw[show 2*(i+1)=2*i+2 by omega];exact this.mono (by rw[Nat.pow_succ];omega)
theorem K1 (h:Rg 2 t)(hne:t≠[]):SmW (Vb t)/\Ap (Vb t)=t:=by
 rcases h with e|⟨e,_⟩|⟨e,_⟩|⟨_,q,hq,e⟩
 ·exact absurd e hne
 ·omega
 ·omega
 ·exact Air ⟨q,hq,e⟩
theorem Adm {T:List (List UInt8×Nat)}{F:List Aq}{lab:Int}{a:Nat}{x:List UInt8×Nat}(hF:Ef T F lab)(hl2:∀ l:Nat,lab=(l:Int)->∃ n,T[l]?=some (n,2))(hfl:F.length<=8)(hx:T[a]?=some x)(hv:Rg x.2 t):(Ge F lab a t).Small:=by
 by_cases hlab:(a:Int)=lab
 ·obtain⟨n,hn⟩:=hl2 a hlab.symm;rw[hx]at hn;cases hn;unfold Ge Rk;rw[if_pos hlab];by_cases ht:t = []
  ·rw[if_pos ht];trivial
  ·rw[if_neg ht];exact⟨(K1 hv ht).1,⟨by show (-1:Int)<=-1;omega,by show (-1:Int)<=1000;omega,.inl rfl⟩⟩
 ·rcases Gt (F:=F) (w:=t) hlab with e|⟨i,f,h1,rfl,h3⟩
  ·rw[e];trivial
  ·rw[h3];obtain⟨hi,_⟩:=Atc.1 h1;obtain⟨n,k,hk,hkind,_⟩:=hF.ok f (Ato h1);rw[hk]at hx;cases hx;unfold Ji;rcases hkind with ⟨k1,k2,k3⟩|⟨k1,k2,k3⟩
   ·rw[if_neg oV];by_cases ht:t = []
    ·rw[if_pos ht];split<;>trivial
    ·rw[if_neg ht];subst k2;exact⟨(K1 hv ht).1,⟨by show (-1:Int)<=(i:Int);omega,by show (i:Int)<=1000;omega,.inl rfl⟩⟩
   ·rw[if_pos k1];refine⟨Oq,⟨by show (-1:Int)<=(i:Int);omega,by show (i:Int)<=1000;omega,?_⟩⟩;rcases hv with e|⟨_,hw⟩|⟨e,_⟩|⟨e,_⟩
    ·exact .inl e
    ·exact .inr hw
    ·omega
    ·omega
end
section
variable {F:List Aq}{T:List (List UInt8×Nat)}{f:Aq}{i:Nat}{lab:Int}{ss:List (List UInt8)}
structure Do (T:List (List UInt8×Nat))(ss:List (List UInt8)):Prop where
 len:ss.length=T.length
 val:∀ (i:Nat) (x:List UInt8×Nat) (t:List UInt8),T[i]?=some x->ss[i]?=some t->Rg x.2 t
theorem Do.at (h:Do T ss)(hi:i<ss.length):∃ x,T[i]?=some x/\Rg x.2 ss[i]:=by
 have:=h.len;have e:T[i]?=some (T[i]'oV):=As5 oV;exact⟨_,e,h.val i _ _ e (As5 hi)⟩
def Agy (ss:List (List UInt8))(f:Aq):Bool:=f.2.1==1&&f.2.2==1&&(ss.getD f.1 []).isEmpty
def Vx (F:List Aq)(lab:Int)(ss:List (List UInt8)):Bool:=!(decide (0<=lab)&&(ss.getD lab.toNat []).isEmpty) && !F.any (Agy ss)
theorem Aob (hF:Ef T F lab)(ht:Do T ss)(hf:f∈F):f.1<ss.length:=by
 obtain⟨n,k,h,_⟩:=hF.ok f hf;obtain⟨h1,_⟩:=Atc.1 h;have:=ht.len;omega
theorem Ac0 (hF:Ef T F lab)(ht:Do T ss)(hf:F[i]?=some f):(E4 F lab ss)[f.1]?=some (Ji i f (ss.getD f.1 [])):=by
 have hm:=Ato hf;have hl:=Aob hF ht hm;obtain⟨n,k,_,_,hne⟩:=hF.ok f hm;rw[Ii (w:=ss[f.1]) (As5 hl),Xq hF.nodup hf hne];simp[As7,As5 hl]
theorem Ahc {l:Nat}(hl:lab=(l:Int))(h:l<ss.length):(E4 F lab ss)[l]?=some (Rk (ss.getD l [])):=by
 rw[Ii (w:=ss[l]) (As5 h)];unfold Ge;rw[if_pos hl.symm];simp[As7,As5 h]
theorem Y2 (hF:Ef T F lab)(ht:Do T ss)(h1:-1<=lab)(h2:∀ l:Nat,lab=(l:Int)->l<ss.length):Vx F lab ss=true↔none∉E4 F lab ss:=by
 unfold Vx;simp only[Atj,Avs,Bool.and_eq_false_iff,decide_eq_false_iff_not,Int.not_le];constructor
 ·rintro⟨a,b⟩ hm;obtain⟨i,hi,hi2⟩:=Avy hm;have hi3:(E4 F lab ss)[i]?=some none:=by rw[As5 hi,hi2]
  have hil:i<ss.length:=by rw[Gj]at hi;exact hi
  rw[Ii (w:=ss[i]) (As5 hil)]at hi3;simp only[Atd]at hi3;by_cases hlab:(i:Int)=lab
  ·unfold Ge Rk at hi3;rw[if_pos hlab]at hi3;split at hi3
   ·rename_i he;rcases a with a|a
    ·omega
    ·rw[<-hlab]at a;simp[As7,As5 hil,he]at a
   ·cases hi3
  ·rcases Gt (F:=F) (w:=ss[i]) hlab with e|⟨j,f,g1,g2,g3⟩
   ·rw[e]at hi3;cases hi3
   ·rw[g3]at hi3;unfold Ji at hi3;split at hi3
    ·cases hi3
    ·rename_i k2;split at hi3
     ·rename_i he;split at hi3
      ·rename_i k3;have hfm:=Ato g1;obtain⟨n,k,_,hk,_⟩:=hF.ok f hfm;have k1:f.2.1=1:=by rcases hk with ⟨h,_⟩|⟨h,_⟩;exact h;exact absurd h k2
       have:Agy ss f=true:=by
        unfold Agy;rw[g2];simp[k1,k3,As7,As5 hil,he]
       have hb:=Azp.1 b f hfm;rw[this]at hb;exact absurd rfl hb
      ·cases hi3
     ·cases hi3
 ·intro hn;constructor
  ·rcases A2k (lab<0) with h|h
   ·exact .inl h
   ·right;obtain⟨l,hl⟩:∃ l:Nat,lab=(l:Int):=⟨lab.toNat,oV⟩;have hlt:=h2 l hl;have:=Ahc (F:=F) hl hlt;rw[hl,Avo];cases he:ss.getD l [] with
    |cons x y=>rfl
    |nil =>
     rw[he]at this;exact absurd (Ato this) (by simpa[Rk] using hn)
  ·rw[Azp];intro f hf hd;obtain⟨i,hi,rfl⟩:=Avy hf;have:=Ac0 hF ht (As5 hi);unfold Agy at hd;simp only[Atj,beq_iff_eq,List.isEmpty_iff]at hd;obtain⟨⟨d1,d2⟩,d3⟩:=hd;rw[d3]at this;refine hn ?_;have e:Ji i F[i] []=none:=by unfold Ji;rw[if_neg oV,if_pos rfl,if_pos d2]
   rw[e]at this;exact Ato this
noncomputable def cfT (F:List Aq)(lab:Int)(ss:List (List UInt8)):CF:=Hf (CF.num 1) (E4 F lab ss)
theorem Amx (hF:Ef T F lab)(ht:Do T ss)(h1:-1<=lab)(h2:∀ l:Nat,lab=(l:Int)->l<ss.length)(hc:Vx F lab ss=false):cfT F lab ss=CF.num 0:=by
 refine Ag8 ?_;rcases A2k (none∈E4 F lab ss) with h|h
 ·exact h
 ·rw[(Y2 hF ht h1 h2).2 h]at hc;cases hc
theorem Ae6 (hF:Ef T F lab)(ht:Do T ss)(h1:-1<=lab)(h2:∀ l:Nat,lab=(l:Int)->l<ss.length)(hc:Vx F lab ss=true):(cfT F lab ss).One :=
 T2 CF.One.num ((Y2 hF ht h1 h2).1 hc)
theorem Aq9 (hF:Ef T F lab)(ht:Do T ss)(h1:-1<=lab)(h2:∀ l:Nat,lab=(l:Int)->l<ss.length)(hc:Vx F lab ss=true){a:Nat}{p:Par}{q:Rat}(h:(E4 F lab ss)[a]?=some (some (some (p,q)))):(cfT F lab ss).s p=q :=
 Ao7 CF.One.num ((Y2 hF ht h1 h2).1 hc) rfl h fun b q' hb=>Ah5 h1 h hb
theorem Lo {u:PH}{R:List Ch}(ok:Bz u T R F lab)(ht:Do T ss):∀ x∈E4 F lab ss,x.Small:=fun x hx=>by
 obtain⟨i,hi,rfl⟩:=Avy hx;rw[Gj]at hi;have e:=Ii (F:=F) (lab:=lab) (w:=ss[i]) (As5 hi);rw[As5 (by rw[Gj];exact hi),Atd]at e;rw[e];obtain⟨y,hy,hv⟩:=ht.at hi;exact Adm ok.feat ok.l2 ok.f2 hy hv
end
section
variable {i:Nat}
structure Ahb (u:PH)(v tv:Value)(T:List (List UInt8×Nat))(R:List Ch)(F:List Aq)(lab:Int)(ss:List (List UInt8)):Prop where
 sch:Ir u v T R F lab
 ok:Bz u T R F lab
 lst:Ad u tv 1 (ss.map nmV)
 fit:Do T ss
theorem Ahb.mono {u u':PH}{v tv:Value}{T:List (List UInt8×Nat)}{R:List Ch}{F:List Aq}{lab:Int}{ss:List (List UInt8)}(h:Ahb u v tv T R F lab ss)(hl:PH.le u u'):Ahb u' v tv T R F lab ss :=
 ⟨h.sch.mono hl,h.ok.mono hl,h.lst.mono hl,h.fit⟩
theorem Age {u:PH}{a:Option Addr}{n c:Nat}{ss:List (List UInt8)}(h:Ad u (.slice a n c) 1 (ss.map nmV))(hi:i<ss.length):∃ b off,a=some ⟨b,off,none⟩/\ElP u b (off+i*1) (.string (mkS (ss.getD i []))):=by
 have e:ss.getD i []=ss[i]:=by simp[As7,As5 hi]
 rw[e];exact Ad.at' h (j:=i) (by simp[nmV,As5 hi])
theorem As2 (h:i<=8):1374926400^i<10^100:=Nat.lt_of_le_of_lt (Atq oV h) jV
theorem Ar6 (h:i<8):8*(1374926400^i*343731600)<10^100:=by
 have h1:1374926400^i<=1374926400^8:=Atq oV oV;have h2:1374926400^8<10^80:=jV
 have h3:(10:Nat)^80*100000000000<10^100:=jV
 omega
end
section
variable {F:List Aq}{R:List Ch}{T:List (List UInt8×Nat)}{a:Option Addr}{c k n:Nat}{l:List Nat}{m m0 u:PH}
def nmA (j:Nat):List UInt8:=[97]++[Vk j]
def nmR (j:Nat):List UInt8:=[114]++[Vk j]
theorem Aqk (h:n<=6):Pb ((At3 n).map nmA):=by
 have h2:∀ n:Fin 7,(((At3 n.val).map nmA).all Hl&&decide ((At3 n.val).map nmA).Nodup)=true:=jV
 exact Aa5 (h2 ⟨n,oV⟩)
theorem Ars (h:n<=6):Pb ((At3 n).map nmR):=by
 have h2:∀ n:Fin 7,(((At3 n.val).map nmR).all Hl&&decide ((At3 n.val).map nmR).Nodup)=true:=jV
 exact Aa5 (h2 ⟨n,oV⟩)
structure TOK (T:List (List UInt8×Nat)):Prop where
 nm:T.map (·.1)=(At3 T.length).map nmA
 kd:∀ a∈T,1<=a.2/\a.2<=3
 le:T.length<=6
theorem TOK.nil:TOK []:=⟨rfl,fun a ha=>by simp at ha,mV⟩
theorem TOK.snoc (h:TOK T)(h1:1<=k)(h3:k<=3)(hl:T.length<6):TOK (T++[(nmA T.length,k)]):=by
 refine⟨?_,fun a ha=>?_,gV⟩
 ·rw[Atk,h.nm,Atg,Aux,Ayh,Atk];rfl
 ·rcases Ati.1 ha with e|e
  ·exact h.kd a e
  ·obtain rfl:=Aub.1 e;exact⟨h1,h3⟩
structure TOM (N:Nat)(T:List (List UInt8×Nat)):Prop extends TOK T where
 lem:T.length<=N
theorem TOM.nil (N:Nat):TOM N []:=⟨TOK.nil,Atu _⟩
theorem TOM.snocm {N:Nat}(h:TOM N T)(h1:1<=k)(h3:k<=3)(hl:T.length<N)(hN:N<=6):TOM N (T++[(nmA T.length,k)]) :=
 ⟨h.toTOK.snoc h1 h3 oV,by rw[Atg,Aux];omega⟩
theorem TOK.att (h:TOK T):Ake T:=⟨by rw[h.nm];exact Aqk h.le,h.kd⟩
structure LOK (l:List Nat)(n:Nat):Prop where
 asc:l.Pairwise (· < ·)
 lt:∀ a∈l,a<n
 len:l.length<=n
theorem LOK.nil:LOK [] 0:=⟨Azj,fun a ha=>by simp at ha,mV⟩
theorem LOK.up (h:LOK l n):LOK l (n+1):=⟨h.asc,fun a ha=>by have:=h.lt a ha;omega,by have:=h.len;omega⟩
theorem LOK.snoc (h:LOK l n):LOK (l++[n]) (n+1):=by
 refine⟨Av8.2 ⟨h.asc,Azh _ _,fun a ha b hb=>?_⟩,fun a ha=>?_,by simp;have:=h.len;omega⟩
 ·obtain rfl:=Aub.1 hb;exact h.lt a ha
 ·rcases Ati.1 ha with e|e
  ·have:=h.lt a e;omega
  ·obtain rfl:=Aub.1 e;omega
theorem LOK.zero (h:0<n):LOK [0] n:=⟨Azh _ _,fun a ha=>by
 obtain rfl:=Aub.1 ha;exact h,gV⟩
structure ROK (u:PH)(n:Nat)(R:List Ch):Prop where
 nm:R.map (·.1)=(At3 R.length).map nmR
 ne:∀ r∈R,r.2.1≠[]
 ok:∀ r∈R,LOK r.2.1 n
 all:∀ a<n,∃ r∈R,a∈r.2.1
 at':∀ r∈R,Ad u (.slice r.2.2.1 r.2.1.length r.2.2.2) 1 (Ah r.2.1)
theorem ROK.nil :ROK u 0 []:=⟨rfl,fun a ha=>by simp at ha,fun a ha=>by simp at ha,fun a ha=>oV,fun a ha=>by simp at ha⟩
theorem ROK.mono {u u':PH}{n:Nat}{R:List Ch}(h:ROK u n R)(hl:PH.le u u'):ROK u' n R:=⟨h.nm,h.ne,h.ok,h.all,fun r hr=>(h.at' r hr).mono hl⟩
theorem ROK.snoc {n n':Nat}(h:ROK u n R)(hn:n<=n')(hl:LOK l n')(hne:l≠[])(hall:∀ a,n<=a->a<n'->a∈l)(hat:Ad u (.slice a l.length c) 1 (Ah l)):ROK u n' (R++[(nmR R.length,l,(a,c))]):=by
 refine⟨?_,fun r hr=>?_,fun r hr=>?_,fun a ha=>?_,fun r hr=>?_⟩
 ·rw[Atk,h.nm,Atg,Aux,Ayh,Atk];rfl
 ·rcases Ati.1 hr with e|e
  ·exact h.ne r e
  ·obtain rfl:=Aub.1 e;exact hne
 ·rcases Ati.1 hr with e|e
  ·have:=h.ok r e;exact⟨this.asc,fun a ha=>by have:=this.lt a ha;omega,by have:=this.len;omega⟩
  ·obtain rfl:=Aub.1 e;exact hl
 ·rcases At8 a n with e|e
  ·obtain⟨r,hr,hm⟩:=h.all a e;exact⟨r,Avn _ hr,hm⟩
  ·exact⟨_,List.mem_append_right _ (Aub.2 rfl),hall a e ha⟩
 ·rcases Ati.1 hr with e|e
  ·exact h.at' r e
  ·obtain rfl:=Aub.1 e;exact hat
theorem ROK.rel (h:ROK u n R)(hn:n<=6)(hR:R.length<=6):Nh u n R:=by
 refine⟨by rw[h.nm];exact Ars hR,h.ne,fun r hr=>(h.ok r hr).lt,fun r hr=>by have:=(h.ok r hr).len;omega,fun r hr k x y hx hy=>?_,h.all,h.at'⟩;obtain⟨h1,rfl⟩:=Atc.1 hx;obtain⟨h2,rfl⟩:=Atc.1 hy;exact Avr.1 (h.ok r hr).asc k (k+1) h1 h2 oV
structure FOK (T:List (List UInt8×Nat))(F:List Aq)(lab:Int)(a:Nat):Prop where
 feat:Ef T F lab
 lt:∀ f∈F,f.1<a
 len:F.length<=a
 l1:-1<=lab
 l2:∀ l:Nat,lab=(l:Int)->l<a/\∃ n,T[l]?=some (n,2)
theorem FOK.nil :FOK T [] (-1) 0:=⟨⟨fun f hf=>by simp at hf,mV⟩,fun f hf=>by simp at hf,mV,oV,fun l hl=>oV⟩
theorem FOK.skip {lab:Int}{a:Nat}(h:FOK T F lab a):FOK T F lab (a+1):=⟨h.feat,fun f hf=>by have:=h.lt f hf;omega,by have:=h.len;omega,h.l1,fun l hl=>by
 obtain⟨h1,h2⟩:=h.l2 l hl;exact⟨oV,h2⟩⟩
theorem FOK.lab {lab:Int}{a:Nat}{n:List UInt8}(h:FOK T F lab a)(ha:T[a]?=some (n,2)):FOK T F (a:Int) (a+1):=by
 refine⟨⟨fun f hf=>?_,h.feat.nodup⟩,fun f hf=>by have:=h.lt f hf;omega,by have:=h.len;omega,oV,fun l hl=>?_⟩
 ·obtain⟨n,k,h1,h2,h3⟩:=h.feat.ok f hf;exact⟨n,k,h1,h2,by have:=h.lt f hf;omega⟩
 ·obtain rfl:l=a:=oV
  exact⟨oV,n,ha⟩
theorem FOK.put {lab:Int}{a k:Nat}{n:List UInt8}{g:Nat×Nat}(h:FOK T F lab a)(ha:T[a]?=some (n,k))(hg:(g.1=1/\k=2/\g.2<=1)\/(g.1=2/\k=3/\g.2=0)):FOK T (F++[(a,g)]) lab (a+1):=by
 refine⟨⟨fun f hf=>?_,?_⟩,fun f hf=>?_,by simp;have:=h.len;omega,h.l1,fun l hl=>?_⟩
 ·rcases Ati.1 hf with e|e
  ·exact h.feat.ok f e
  ·obtain rfl:=Aub.1 e;refine⟨n,k,ha,hg,fun e=>?_⟩;have:=(h.l2 a e.symm).1;omega
 ·rw[Atk];refine Awq.2 ⟨h.feat.nodup,mV,fun x hx y hy=>?_⟩;obtain⟨f,hf,rfl⟩:=Ate.1 hx;have:=h.lt f hf;simp at hy;omega
 ·rcases Ati.1 hf with e|e
  ·have:=h.lt f e;omega
  ·obtain rfl:=Aub.1 e;show a<a+1;omega
 ·obtain⟨h1,h2⟩:=h.l2 l hl;exact⟨oV,h2⟩
theorem Aqm {lab:Int}(hT:TOK T)(hR:ROK u T.length R)(hF:FOK T F lab T.length)(h0:0<T.length)(h1:0<R.length)(h2:R.length<=6):Bz u T R F lab :=
 ⟨hT.att,hR.rel hT.le h2,hF.feat,h0,by have:=hT.le;omega,h1,h2,by have:=hF.len;have:=hT.le;omega,hF.l1,fun l hl=>(hF.l2 l hl).2⟩
def Y1 (a:Option Addr)(c:Nat)(T:List (List UInt8×Nat)):Arr:=⟨.slice a T.length c,77,2,T.map Ej⟩
def Vs (a:Option Addr)(c:Nat)(R:List Ch):Arr:=⟨.slice a R.length c,155,2,R.map Gw⟩
def Uv (a:Option Addr)(c:Nat)(F:List Aq):Arr:=⟨.slice a F.length c,82,3,F.map Ce⟩
def Abj (a:Option Addr)(c:Nat)(l:List Nat):Arr:=⟨.slice a l.length c,3,1,Ah l⟩
theorem Am9 :(Y1 a c T).At m0 m=Ae m0 m (.slice a T.length c) 77 2 (T.map Ej):=rfl
theorem Afy :(Vs a c R).At m0 m=Ae m0 m (.slice a R.length c) 155 2 (R.map Gw):=rfl
theorem Yq :(Uv a c F).At m0 m=Ae m0 m (.slice a F.length c) 82 3 (F.map Ce):=rfl
theorem Zi :(Abj a c l).At m0 m=Ae m0 m (.slice a l.length c) 3 1 (Ah l):=rfl
theorem Ago (x:List UInt8×Nat):Ax 2 [Ej x]:=by
 intro e he;simp at he;subst he;exact⟨rfl,fun y hy=>by simp[Ej,Atw]at hy;rcases hy with rfl|rfl<;>rfl⟩
theorem O6 (x:Ch):Ax 2 [Gw x]:=by
 intro e he;simp at he;subst he;exact⟨rfl,fun y hy=>by simp[Gw,Atw]at hy;rcases hy with rfl|rfl<;>rfl⟩
theorem Id (x:Aq):Ax 3 [Ce x]:=by
 intro e he;simp at he;subst he;exact⟨rfl,fun y hy=>by simp[Ce,Atw]at hy;rcases hy with rfl|rfl|rfl<;>rfl⟩
end
section
variable {A T:List Nat}{i x:Nat}{listed:Array Bool}{o:Oper}{s0:S}
variable [Ca] [Df]
section
variable {P:Program} {id:Nat} {ops:Array Oper} {dr:Bool} {Fin:S->PH->PH->Prop} {c:Cx} {Q:Exit->Act->World->Prop}
theorem Ob.append {l2:List Nat}:∀ {l1:List Nat} {s:S} {u m:PH},Ob P id ops dr (fun s u m=>Ob P id ops dr Fin l2 s u m) l1 s u m->Ob P id ops dr Fin (l1++l2) s u m
 |[],s,u,m,h=>by
  cases h with
  |nil h=>exact h
 |i::l1,s,u,m,h=>by
  cases h with
  |auto ho hg hd he hl=>exact .auto ho hg hd he hl.append
  |skip ho hg hd hl=>exact .skip ho hg hd hl.append
  |ask ho hg hd hv hs hal hw hl=>exact .ask ho hg hd hv hs hal hw hl.append
  |big ho hg hd hv hs hf hk hw hl=>exact .big ho hg hd hv hs hf hk hw fun v u' m' h1 h2=>(hl v u' m' h1 h2).append
theorem Ob.fin {Fin':S->PH->PH->Prop}(hf:∀ s u m,Fin s u m->Fin' s u m):∀ {l:List Nat} {s:S} {u m:PH},Ob P id ops dr Fin l s u m->Ob P id ops dr Fin' l s u m
 |[],s,u,m,h=>by
  cases h with
  |nil h=>exact .nil (hf _ _ _ h)
 |i::l1,s,u,m,h=>by
  cases h with
  |auto ho hg hd he hl=>exact .auto ho hg hd he (hl.fin hf)
  |skip ho hg hd hl=>exact .skip ho hg hd (hl.fin hf)
  |ask ho hg hd hv hs hal hw hl=>exact .ask ho hg hd hv hs hal hw (hl.fin hf)
  |big ho hg hd hv hs hf' hk hw hl=>exact .big ho hg hd hv hs hf' hk hw fun v u' m' h1 h2=>(hl v u' m' h1 h2).fin hf
structure Lk (ops:Array Oper)(listed:Array Bool)(T:List Nat):Prop where
 sz:listed.size=ops.size
 mem:∀ i,i<ops.size->(listed.getD i true=false↔i∈T)
 lt:∀ i∈T,i<ops.size
 nd:T.Nodup
 cl:Acn ops listed
theorem Wn :i∈Region.ready .any ops listed↔i<ops.size/\listed.getD i true=false/\∃ o,ops[i]?=some o/\∀ e∈o.after,Region.binds .any e=true->listed.getD e.on false=true:=by
 simp only[Region.ready,List.mem_filter,List.mem_range,Atj,Avs];refine and_congr_right fun hi=>and_congr_right fun _=>?_;have ho:ops[i]?=some ops[i]:=Aup hi;rw[ho];simp only[Awh,Awo,Array.all_eq_true'];constructor
 ·grind
 ·grind
theorem Lk.no (h:Lk ops listed T)(hx:x∈T):listed.getD x false=true->False:=by
 intro hl;have hxl:=h.lt x hx;have:=(h.mem x hxl).2 hx;have h3:x<listed.size:=by grind
 simp only[Aus,Aup h3,Awo]at hl this;rw[this]at hl;cases hl
theorem Lk.next {A B:List Nat}(h:Lk ops listed (A++i::B))(ho:ops[i]?=some o)(hpre:∀ e∈o.after,Region.binds .any e=true->listed.getD e.on false=true):Lk ops (listed.setIfInBounds i true) (A++B):=by
 obtain⟨hsz,hT,hTl,hnd,hcl⟩:=h;have hnd':(A++B).Nodup/\i∉A++B:=by grind
 refine⟨by simpa using hsz,fun j hj=>?_,fun j hj=>hTl j ?_,hnd'.1,?_⟩
 ·by_cases hji:j=i
  ·simp_all
  ·have:=hT j hj;simp only[Aus,Avk (fun h=>hji h.symm)]at this⊢;rw[this];simp[hji]
 ·grind
 ·intro j hj o' ho' e he hb;have keep:∀ k,listed.getD k false=true->(listed.setIfInBounds i true).getD k false=true:=by
   intro k hk;by_cases hki:k=i
   ·grind
   ·simp only[Aus,Avk (fun h=>hki h.symm)]at hk⊢;exact hk
  by_cases hji:j=i
  ·grind
  ·refine keep _ (hcl j ?_ o' ho' e he hb);simp only[Aus,Avk (fun h=>hji h.symm)]at hj⊢;exact hj
theorem Lk.swaps (h:Lk ops listed T)(hA:∀ x∈A,x∈T)(ho:ops[i]?=some o)(hpre:∀ e∈o.after,Region.binds .any e=true->listed.getD e.on false=true)(hP:∀ x∈A,Hg ops s0 x i=true):∀ x∈A,Abl ops s0 x i=true:=by
 intro x hx;have hp:=hP x hx;unfold Hg at hp;simp only[Atj,Bool.or_eq_true]at hp;have hpi:∀ o',ops[i]?=some o'->∀ e∈o'.after,Region.binds .any e=true->listed.getD e.on false=true:=fun o' ho'=>by rw[ho]at ho';obtain rfl:=Auq ho';exact hpre
 rcases hp.2 with (h'|h')|h'
 ·exact (h.no (hA x hx) (T6 hpi h')).elim
 ·exact h'
 ·exact (h.no (hA x hx) (Kq h.cl ops.size i hpi h')).elim
theorem Lk.any {s0:S}(hL0:M2 s0)(hE:(At3 ops.size).all (Kj ops)=true)(hF:∀ s u m ρ a w,Fin s u m->Rel c s u m ρ a w->Q .normal a w){n:Nat}{T:List Nat}{listed:Array Bool}{s:S}{u m:PH}{ρ:Nat->Nat}{a:Act}{w:World}(h:Lk ops listed T)(hn:T.length=n)
 (hP:T.Pairwise (fun x y=>Hg ops s0 x y=true)) (hag:Gc ops s0 s) (hO:Ob P id ops true Fin T s u m) (hr:Rel c s u m ρ a w):Go.wpAny P .any ops Q n listed a w :=
 Ob.wpAny hL0 hE hF n T listed hn h.sz h.mem h.lt h.nd h.cl hP hag hO hr
theorem Lk.perm {T T':List Nat}(h:Lk ops listed T)(hp:T.Perm T'):Lk ops listed T' :=
 ⟨h.sz,fun i hi=>(h.mem i hi).trans hp.mem_iff,fun i hi=>h.lt i (hp.mem_iff.2 hi),hp.nodup_iff.1 h.nd,h.cl⟩
theorem Lk.first {t:Nat}(h:Lk ops listed (t::T))(hE:(At3 ops.size).all (Kj ops)=true)(hd:∀ x∈T,dir ops t x=false):t∈Region.ready .any ops listed:=by
 have hp:=h.lt t mV;refine Wn.2 ⟨hp,(h.mem t hp).2 mV,ops[t],Aup hp,fun e he hb=>?_⟩;rw[Atx]at hE;have hed:=hE t (by simpa using hp);unfold Kj at hed;rw[Aup hp]at hed;simp only[Atx]at hed;have:=hed e (by simpa using he);simp only[hb,Bool.not_true,Bool.false_or,Atj]at this;have hlt:e.on<ops.size:=A0v▸this.1;have hne:e.on≠t:=fun h=>by rw[h]at this;simp at this
 have hdir:dir ops t e.on=true:=by
  unfold dir;rw[Aup hp];simp only[List.any_eq_true,Atj];exact⟨e,by simpa using he,hb,mV⟩
 cases hl:listed.getD e.on true with
 |true =>
  have h1:e.on<listed.size:=by have:=h.sz;omega
  simp only[Aus,Aup h1]at hl⊢;exact hl
 |false =>
  have hm:=(h.mem e.on hlt).1 hl;rcases At6.1 hm with hm|hm
  ·grind
  ·grind
theorem Jq {x y:Nat}(h:Hg ops s0 x y=true):dir ops x y=false:=by
 unfold Hg at h;simp only[Atj,Avs]at h;exact h.1.1
theorem Ob.wpAny2 (hL0:M2 s0)(hE:(At3 ops.size).all (Kj ops)=true)(hF:∀ s u m ρ a w,Fin s u m->Rel c s u m ρ a w->Q .normal a w){p q:Nat}{post:List Nat}(hpost:∀ y∈post,bef ops ops.size y p=true)(hpq:dir ops p q=false) :
 ∀ (n:Nat) (pre:List Nat) (listed:Array Bool) {s:S} {u m:PH} {ρ:Nat->Nat} {a:Act} {w:World},pre.length+(post.length+2)=n->Lk ops listed (pre++p::q::post) ->
  (pre++p::post).Pairwise (fun x y=>Hg ops s0 x y=true)->(pre++q::post).Pairwise (fun x y=>Hg ops s0 x y=true)->Gc ops s0 s ->
  Ob P id ops true (fun s u m=>Ob P id ops true Fin (p::q::post) s u m/\Ob P id ops true Fin (q::p::post) s u m) pre s u m->Rel c s u m ρ a w->Go.wpAny P .any ops Q n listed a w:=by
 intro n;induction n with
 |zero=>intro pre listed s u m ρ a w hlen;omega
 |succ n ih =>
  intro pre listed s u m ρ a w hlen hLeft hP1 hP2 hag hO hr;refine⟨fun hnil=>?_,fun i hi=>?_⟩
  ·exfalso;cases pre with
   |nil =>
    have:=hLeft.first hE fun x hx=>by
     rcases At6.1 hx with rfl|hx
     ·exact hpq
     ·exact Jq (Awl hP1 hx)
    rw[hnil]at this;cases this
   |cons t T' =>
    have:=Lk.first (t:=t) (T:=T'++p::q::post) hLeft hE fun x hx=>by
     simp only[Ati,At6]at hx;rcases hx with hx|rfl|rfl|hx
     ·exact Jq (Awl hP1 (by simp[hx]))
     ·exact Jq (Awl hP1 mV)
     ·exact Jq (Awl hP2 mV)
     ·exact Jq (Awl hP1 (by simp[hx]))
    rw[hnil]at this;cases this
  ·obtain⟨h1,h2,o,ho,hpre⟩:=Wn.1 hi;have hm:=(hLeft.mem i h1).1 h2;simp only[Ati,At6]at hm;rcases hm with hm|hm|hm|hm
   ·obtain⟨A,B,rfl⟩:=Ay9 hm;have hLeft':Lk ops listed (A++i::(B++p::q::post)):=by grind
    have hP1':(A++i::(B++p::post)).Pairwise (fun x y=>Hg ops s0 x y=true):=by grind
    have hsw:=hLeft'.swaps (A:=A) (s0:=s0) (fun x hx=>by simp[hx]) ho hpre fun x hx=>(Av8.1 hP1').2.2 x hx i mV;have hO':=Ob.bubble hL0 A hsw hr.lv hag hO;refine wpOp_mono (fun a' w' ⟨s',u',m',ρ',r1,ra,r2⟩=>?_) (hO'.step (Q:=Q) hr);refine ih (A++B) _ (by simp at hlen⊢;omega) (by rw[List.append_assoc];exact hLeft'.next ho hpre) ?_ ?_ (hag.trans ra) r2 r1
    ·grind
    ·grind
   ·subst hm;have hsw:=hLeft.swaps (A:=pre) (s0:=s0) (fun x hx=>by simp[hx]) ho hpre fun x hx=>(Av8.1 hP1).2.2 x hx i mV;have hO':=Ob.bubble hL0 pre hsw hr.lv hag (Ob.append (l2:=i::q::post) (hO.fin fun s u m h=>h.1));refine wpOp_mono (fun a' w' ⟨s',u',m',ρ',r1,ra,r2⟩=>?_) (hO'.step (Q:=Q) hr);exact (hLeft.next ho hpre).any hL0 hE hF gV hP2 (hag.trans ra) r2 r1
   ·subst hm;have hLeft':Lk ops listed (pre++i::p::post):=hLeft.perm ((List.Perm.swap i p post).append_left pre);have hsw:=hLeft'.swaps (A:=pre) (s0:=s0) (fun x hx=>by simp[hx]) ho hpre fun x hx=>(Av8.1 hP2).2.2 x hx i mV;have hO':=Ob.bubble hL0 pre hsw hr.lv hag (Ob.append (l2:=i::p::post) (hO.fin fun s u m h=>h.2));refine wpOp_mono (fun a' w' ⟨s',u',m',ρ',r1,ra,r2⟩=>?_) (hO'.step (Q:=Q) hr);exact (hLeft'.next ho hpre).any hL0 hE hF gV hP1 (hag.trans ra) r2 r1
   ·exfalso;exact hLeft.no (x:=p) mV (Kq hLeft.cl ops.size i (fun o' ho'=>by rw[ho]at ho';obtain rfl:=Auq ho';exact hpre) (hpost i hm))
def U1 (P:Program)(id:Nat)(ops:Array Oper):List Nat->S->Option S
 |[],s=>some s
 |i::l,s=>match ops[i]? with
  |some o=>match Gh s o with
   |true=>match gv s ops o with
    |some true=>match eff P (id*1000+i) s o.op with
     |some (x,hw)=>U1 P id ops l ((s.put o.dst x).setb hw)
     |none=>none
    |some false=>U1 P id ops l (s.put o.dst (.v undef))
    |none=>none
   |false=>none
  |none=>none
theorem Ob.autos:∀ {l:List Nat} {s s':S} {u m:PH},U1 P id ops l s=some s'->Fin s' u m->Ob P id ops dr Fin l s u m
 |[],s,s',u,m,h,hf=>by
  unfold U1 at h;cases h;exact .nil hf
 |i::l,s,s',u,m,h,hf=>by
  unfold U1 at h;split at h
  ·rename_i o ho;split at h
   ·rename_i hd;split at h
    ·rename_i hg;split at h
     ·rename_i x hw he;exact .auto ho hg hd he (Ob.autos h hf)
     ·cases h
    ·rename_i hg;exact .skip ho hg hd (Ob.autos h hf)
    ·cases h
   ·cases h
  ·cases h
def Ala (ops:Array Oper)(s:S)(pre:List Nat)(p q:Nat)(post:List Nat):Bool :=
 Auy (pre.length+(post.length+2)) ops.size&&(At3 ops.size).all (fun i=>(pre++p::q::post).contains i)&&(pre++p::q::post).all (fun i=>Nat.blt i ops.size)&&Qk ops s (pre++p::post)&&Qk ops s (pre++q::post) &&
  (At3 ops.size).all (Kj ops)&&post.all (fun y=>bef ops ops.size y p) && !dir ops p q && !Auy p q
end
section
variable {P:Program} {fn:Func} {Post:By}
theorem Lp {ops:Array Oper}{s:S}(h:T.Pairwise (fun x y=>Hg ops s x y=true)):T.Nodup:=by
 refine h.imp fun {x y} hxy e=>?_;unfold Hg at hxy;subst e;simp at hxy
theorem Sym.reg_two (hm:P.follows .mixedOrders=true){id:Nat}{ops:Array Oper}{pre post:List Nat}{p q:Nat}{s:S}(hB:Ala ops s pre p q post=true){k:List KI}{u m:PH}
 (h:Ob P id ops true (fun s u m=>Ob P id ops true (Vv P fn Post k) (p::q::post) s u m/\Ob P id ops true (Vv P fn Post k) (q::p::post) s u m) pre s u m):Vv P fn Post (.code (.region id ops true)::k) s u m:=by
 intro c ρ a w hm0 hr;unfold Ala at hB;simp only[Atj,Avs]at hB;obtain⟨⟨⟨⟨⟨⟨⟨⟨b1,b2⟩,b3⟩,b4⟩,b5⟩,b6⟩,b7⟩,b8⟩,b9⟩:=hB;have b1:=Aug b1;rw[Atx]at b2 b3 b7;have P1:=G4 b4;have P2:=G4 b5;have n1:=Lp P1;have n2:=Lp P2;have hne:p≠q:=fun e=>by rw[e]at b9;simp at b9
 refine wp_region_any hm ?_;refine Ob.wpAny2 (c:=c) hr.lv b6 (fun s u m ρ a w hf hr=>hf c ρ a w hm0 hr) b7 b8 _ pre _ b1 ⟨mV,fun i hi=>?_,fun i hi=>A0v▸b3 i hi,?_,fun i hi=>?_⟩ P1 P2 (Gc.refl _ _) h hr.drew
 ·simp_all
 ·grind
 ·simp only[Aus]at hi;by_cases hlt:i<ops.size
  ·grind
  ·grind
def Apm (P:Program)(pre:List Nat)(p q:Nat)(post:List Nat)(st:List KI×S):Bool:=match st with
 |(.code (.region id ops true)::k,s)=>Ala ops s pre p q post&&(U1 P id ops pre s).isSome
 |_=>false
def Ae5 (P:Program)(pre l:List Nat)(st:List KI×S):List KI×S:=match st with
 |(.code (.region id ops true)::k,s)=>match U1 P id ops pre s with
  |some s'=>(.reg id ops true l::k,s')
  |none=>st
 |_=>st
end
section rules
variable {P:Program} [A7 P] {fn:Func} {Post:By} {st:List KI×S} {u m:PH}
theorem G.both (pre:List Nat)(p q:Nat)(post:List Nat)(h:Apm P pre p q post (adv P st)=true)(k1:G P fn Post (Ae5 P pre (p::q::post) (adv P st)) u m)(k2:G P fn Post (Ae5 P pre (q::p::post) (adv P st)) u m):G P fn Post st u m:=by
 refine G.stp ⟨?_⟩;generalize adv P st=st' at h k1 k2;unfold Apm at h;split at h
 ·rename_i id ops k s;rw[Atj]at h;obtain⟨h1,h2⟩:=h;obtain⟨s',hs'⟩:=Option.isSome_iff_exists.1 h2;have e:∀ l,Ae5 P pre l (.code (.region id ops true)::k,s)=(.reg id ops true l::k,s'):=fun l=>by unfold Ae5;simp only[hs']
  rw[e]at k1 k2;exact Sym.reg_two A7.mx h1 (Ob.autos hs' ⟨k1.out,k2.out⟩)
 ·cases h
end rules
end
section
section
variable {P:Program} {id:Nat} {ops:Array Oper} {dr:Bool} {Fin:S->PH->PH->Prop} {c:Cx} {Q:Exit->Act->World->Prop} {F:Fence}
end
section rules
variable {P:Program} [A7 P] {fn:Func} {Post:By} {st:List KI×S} {u m:PH}
end rules
end
theorem ElP.sub {u:PH}{b off:Nat}{e x:Value}{k:Nat}(h:ElP u b off e)(hx:∀ i y,x.cells[i]?=some y->e.cells[k+i]?=some y):ElP u b (off+k) x:=fun i y hy=>by
 obtain⟨cs,t,fr,h1,h2⟩:=h (k+i) y (hx i y hy);exact⟨cs,t,fr,h1,by rw[Avl];exact h2⟩
section
section
variable {P:Program} {l:Nat} {J J':S->PH->PH->Prop} {s:S} {u m:PH}
end
section
variable {P:Program} [A7 P] {fn:Func} {Post:By} {st:List KI×S} {u m:PH}
end
end
section
variable {b sz:Nat}{es:List Value}{m m0:PH}{o:Obj}{t:TypeId}{v:Value}
theorem Ae.base (h:Ae m0 m v t sz es)(hb:m0 b≠none):Ae (m0.upd b o) (m.upd b o) v t sz es:=by
 obtain⟨ho,h⟩:=h;rcases h with ⟨h1,h2,rfl⟩|⟨g,cap,rest,h1,rfl,h2,h3,h4,h5⟩
 ·exact⟨ho,.inl ⟨h1,h2,rfl⟩⟩
 ·have hne:g≠b:=fun e=>by subst e;exact hb h1
  exact⟨ho,.inr ⟨g,cap,rest,by rw[Ac _ _ hne];exact h1,Jb _ _ _ hne,h2,h3,h4,h5⟩⟩
theorem Ae.see (h:Ae m0 m v t sz es)(hb:m0 b=some o):m b=some o:=h.le b o hb
end
section
variable {l:Nat}{m:PH}{o:Obj}
theorem Ao5 {l b:Nat}(h:b≠l):(m.upd b o).del l=(m.del l).upd b o:=by
 funext k
 by_cases e:k=l
 ·subst e;rw[Ac _ _ (fun e'=>h e'.symm)];simp[PH.del]
 ·by_cases e':k=b
  ·subst e';rw[Ab];simp[PH.del,e,Ab]
  ·rw[Ac _ _ e'];simp[PH.del,e,Ac _ _ e']
theorem Zd (h:m l=none):(m.upd l o).del l=m:=by
 funext k
 by_cases e:k=l
 ·subst e;simp[PH.del,h]
 ·simp[PH.del,e,Ac _ _ e]
theorem Aq7 (m:PH)(l:Nat):PH.le (m.del l) m:=fun g o h=>by
 unfold PH.del at h;split at h
 ·cases h
 ·exact h
theorem Ae.del {m0 m:PH}{v:Value}{t:TypeId}{sz:Nat}{es:List Value}{l:Nat}(h:Ae m0 m v t sz es)(hl:m0 l≠none):Ae (m0.del l) (m.del l) v t sz es:=by
 obtain⟨ho,h⟩:=h;rcases h with ⟨h1,h2,rfl⟩|⟨g,cap,rest,h1,rfl,h2,h3,h4,h5⟩
 ·exact⟨ho,.inl ⟨h1,h2,rfl⟩⟩
 ·have hne:g≠l:=fun e=>by subst e;exact hl h1
  exact⟨ho,.inr ⟨g,cap,rest,by unfold PH.del;rw[if_neg hne];exact h1,Ao5 hne,h2,h3,h4,h5⟩⟩
end
section
theorem Ae.fresh {m0 m:PH}{v:Value}{t:TypeId}{sz:Nat}{es:List Value}{b:Nat}{o:Obj}(h:Ae m0 m v t sz es)(hb:m b=none):Ae (m0.upd b o) (m.upd b o) v t sz es:=by
 obtain⟨ho,h⟩:=h;rcases h with ⟨h1,h2,rfl⟩|⟨g,cap,rest,h1,rfl,h2,h3,h4,h5⟩
 ·exact⟨ho,.inl ⟨h1,h2,rfl⟩⟩
 ·have hne:g≠b:=fun e=>by subst e;rw[Ab]at hb;cases hb
  exact⟨ho,.inr ⟨g,cap,rest,by rw[Ac _ _ hne];exact h1,Jb _ _ _ hne,h2,h3,h4,h5⟩⟩
section
variable {P:Program} [A7 P] {fn:Func} {Post:By} {st:List KI×S} {u m:PH}
theorem G.appendL (e:TypeId)(sz bt:Nat)(z:Value)(m0:PH)(es xs:List Value)(v:Value)(a:Option Addr)(n c:Nat)(h:Al P (adv P st)=.app (some (e,sz,bt,z)) true [v,.slice a n c])(hz:z.cells.toList.all Bh=true)(hzs:z.cells.size=sz)(hsz:0<sz)
 (ha:Ae m0 m v e sz es) (hx:Ad u (.slice a n c) sz xs) (ho:Ax sz xs) (hb:(es.length+xs.length)*bt<=140737488355328) (hb2:es.length+xs.length<=9223372036854775807)
 (k:∀ v' m',Ae m0 m' v' e sz (es++xs)->G P fn Post (nx (adv P st) v') u m'):G P fn Post st u m:=by
 have hxl:n=xs.length:=by obtain⟨_,_,e1,_⟩:=hx;cases e1;rfl
 cases xs with
 |nil =>
  simp only[Av1]at hxl;subst hxl;obtain⟨a1,c1,rfl⟩:=ha.shape;refine G.append0 e sz bt z a1 a es.length c1 c h ha.cap ?_;exact k _ _ (by rw[List.append_nil];exact ha)
 |cons x xs =>
  obtain⟨b,off,rfl,_⟩:=Ad.at' hx (j:=0) (e:=x) rfl;subst hxl;exact G.append e sz bt z m0 es (x::xs) v b off _ c h hz hzs hsz ha hx.els ho rfl mV hb hb2 k
end
theorem Akb {κ:Type}{l:List κ}(h:l.Nodup){i j:Nat}{x:κ}(h1:l[i]?=some x)(h2:l[j]?=some x):i=j:=by
 obtain⟨a1,a2⟩:=Atc.1 h1;obtain⟨b1,b2⟩:=Atc.1 h2;rcases Nat.lt_trichotomy i j with e|e|e
 ·exact absurd (a2.trans b2.symm) (Avr.1 h i j a1 b1 e)
 ·exact e
 ·exact absurd (b2.trans a2.symm) (Avr.1 h j i b1 a1 e)
end
section
variable {N:Nat}{k:Par×Par}{q:Rat}
def Apn (T:TypeId):Op->Bool
 |.indexAddr t _ _=>Auy t T
 |_=>false
section
variable {P:Program} [A7 P] {fn:Func} {Post:By} {st:List KI×S} {u m:PH}
theorem G.addrA (t e:TypeId)(n b off j sz:Nat)(h:Al P (adv P st)=.addr none (.pointer (some ⟨b,off,none⟩)) (.int .i64 (j:Int)))(hq:V9 (Apn t) (adv P st)=true)(hu:P.underlying t=some (.array n e))(hs:szB P e=some sz)(hj:j<n)
 (k:G P fn Post (nx (adv P st) (.pointer (some ⟨b,off+j*sz,none⟩))) u m):G P fn Post st u m:=by
 refine G.askQ (Apn t) h hq mV (fun env o hview hQ w _=>?_) k;obtain⟨t',X,I,e1,e2,e3,_⟩:=V3 hview;rw[e1]at hQ;have ht:=Aug hQ;subst ht;obtain⟨dst,opp,type,pos,after,guard⟩:=o;simp only at e1;subst e1;simp[execOp,Instr.indexAt,Instr.sureAddr,asIntOf,e2,e3,run_underlying hu,Be hs,Dp];intro hh;omega
end
theorem Agc {m:PH}{b:Nat}{t:TypeId}(h:m b=some (.cells [Auj .i64 k.1.1,.string (mkS k.1.2),.int .i64 k.2.1,.string (mkS k.2.2)].toArray t (0,0))):ElP m b (0+0*2) (A3 k.1)/\ElP m b (0+1*2) (A3 k.2):=by
 have h0:ElP m b 0 (.agg #[.int .i64 k.1.1,.string (mkS k.1.2),.int .i64 k.2.1,.string (mkS k.2.2)]):=Akd h rfl;refine⟨h0.sub (k:=0) fun i y hy=>?_,h0.sub (k:=2) fun i y hy=>?_⟩
 ·match i,hy with
  |0,hy=>simpa[A3,Atw] using hy
  |1,hy=>simpa[A3,Atw] using hy
 ·match i,hy with
  |0,hy=>simpa[A3,Atw] using hy
  |1,hy=>simpa[A3,Atw] using hy
theorem SB.ten (h:SB q):Sz q 10000000000:=h.sz.mono oV
theorem KO.fix (h:KO k):A5 k.1 k.2=k:=by unfold A5;rw[if_neg h]
theorem Di.at {κ:Type}[DecidableEq κ]{enc:κ->Value}{K:κ->Prop}{u:PH}{o:Obj}{f:κ->Rat}(h:Di enc K u o f N) :
 ∃ l:List (κ×Value),Et enc o l/\(∀ p∈l,QP u p.2 (f p.1)/\K p.1)/\(∀ k,k∉l.map (·.1)->f k=0)/\l.length<=N:=by
 obtain⟨l,h1,h2,h3,h4⟩:=h;exact⟨l,h1,fun p hp=>⟨(h2 p hp).1,(h2 p hp).2.1⟩,h3,h4⟩
theorem Aly {u mf:PH}{F H:CF}{N M:Nat}{vf vg vk:Value}(hf:Iq mf u vf F N)(hg:Pt u vg H M)(hk:QP u vk q)(hq:SB q)(sF:CFS F)(sH:CFS H)(sK:CFS (H.scale q))(sR:CFS (F.add (H.scale q))) :
 Ak prog 32 [vf,vg,vk] u mf fun v u' m'=>Iq m' u' v (F.add (H.scale q)) (N+M):=by
 obtain⟨b,a,n,c,b',a',n',c',g1,g2,o1,o2,rfl,hF,ne3,rfl,h1,h2⟩:=hf;obtain⟨wb,wa,wn,wc,wb',wa',wn',wc',w1,w2,p1,p2,rfl,hH,e1,e2,k1,k2⟩:=hg;obtain⟨kb,ka,kn,kc,ka',kn',kc',rfl,_⟩:=hk.opn;obtain⟨l1,⟨es1,clk1,rfl,hkv1,hst1⟩,hl1,hz1,hn1⟩:=k1.at;obtain⟨l2,⟨es2,clk2,rfl,hkv2,hst2⟩,hl2,hz2,hn2⟩:=k2.at;have hnd1:(l1.map (·.1)).Nodup:=Et.nodup (enc:=A3) ⟨es1,clk1,rfl,hkv1,hst1⟩;have hnd2:(l2.map (·.1)).Nodup:=Et.nodup (enc:=prV) ⟨es2,clk2,rfl,hkv2,hst2⟩;refine Ak.o func32 ?_;refine G.c call80 (G1 hH hk (SB.ten sH.c) hq.ten) ?_;intro v1 u1 le1 r1;obtain⟨b1,a1,x1,c1,a1',x1',c1',rfl,_⟩:=r1.opn;refine G.c call16 (Mk (hF.mono le1) r1 (SB.ten sF.c) (SB.ten sK.c)) ?_;intro v2 u2 le2 r2;obtain⟨b2,a2,x2,c2,a2',x2',c2',rfl,_⟩:=r2.opn;have le12:=le1.trans le2;obtain⟨m2,hm2,hg2,hh2⟩:∃ m2:PH,m2=(PH.mt.upd g1 o1).upd g2 o2/\m2 g1=some o1/\m2 g2=some o2:=⟨_,rfl,by rw[Ac _ _ ne3,Ab],Ab _ _ _⟩;rw[<-hm2];refine G.mapRange w1 es1 clk1 110 57 kV (.inl (le12 _ _ e1)) ?_;intro it him hiu;have i1:g1≠it:=fun e=>by subst e;rw[him]at hg2;cases hg2
 have i2:g2≠it:=fun e=>by subst e;rw[him]at hh2;cases hh2
 refine G.l (ι:=List MapEntry×List (Par×Value)) (fun _=>[(3,.p 0 0),(4,.p 1 0),(5,.p 2 0),(6,.p 3 0),(21,.v (.pointer (some ⟨it,0,none⟩)))])
  (fun _=>[(0,⟨92,[bV b2,sV a2 x2 c2,bV false,sV a2' x2' c2',.v (.map (some g1)),.v (.map (some g2))]⟩),(1,⟨92,[bV wb,sV wa wn wc,bV wb',sV wa' wn' wc',.v (.map (some w1)),.v (.map (some w2))]⟩),(2,⟨57,[bV kb,sV ka kn kc,bV false,sV ka' kn' kc']⟩),(3,⟨92,[bV false,sV none 0 0,bV false,sV none 0 0,.v (.map none),.v (.map none)]⟩)])
  (fun i u' m'=>Fc A3 es1 l1 i.1 i.2/\m' it=some (.mapIter (some w1) clk1 (Ar i.1) clk1)/\m' g2=some o2/\∃ o1',m' g1=some o1'/\Di A3 KT u' o1' (Dw F.s H.s q (i.2.map (·.1))) (N+i.2.length))
  (fun i=>l1.length-i.2.length) ([],[])
  ⟨Fc.nil _ _,Ab _ _ _,by rw[Ac _ _ i2];exact hh2,o1,by rw[Ac _ _ i1];exact hg2,by
   have:Dw F.s H.s q (([]:List (Par×Value)).map (·.1))=F.s:=by funext k;simp[Dw]
   dsimp only;rw[this];exact h1.mono le12⟩ ?_
 rintro J ⟨D,L⟩ hJ u3 m3 le3 ⟨hS,hit,hm2g,o1',hg1,hR⟩;simp only at hS hit hm2g hg1 hR hJ;have le13:=le12.trans le3;refine G.mapNextL Dr.inj it w1 es1 clk1 l1 D L kV kV hit (.inl (le13 _ _ e1)) hst1 hkv1 hnd1 hS ?done1 ?next1
 case next1 =>
  rintro⟨k,xv⟩ e hp hkn he hek hev hS';simp only at hkn hek hev;have hx:=(hl1 _ hp).1;simp only at hx;obtain⟨yb,ya,yn,yc,ya',yn',yc',rfl,_⟩:=hx.opn;refine G.mapEntry it w1 es1 clk1 D e kV (Ab _ _ _) (.inl (le13 _ _ e1)) hst1 he ?_;rw[hek,hev];refine G.c call80 (G1 (hx.mono le13) (hk.mono le13) (SB.ten (sH.s k)) hq.ten) ?_;intro v4 u4 le4 r4;obtain⟨b4,a4,x4,c4,a4',x4',c4',rfl,_⟩:=r4.opn;refine G.callG _ _ kV kV call81 (g:=g1) (o:=o1') (by rw[Ac _ _ i1];exact hg1)
   (Mi (g2:=some g2) (y1:=b2) (y2:=(a2,x2,c2)) (y3:=false) (y4:=(a2',x2',c2')) (hR.mono le4) r4 (sK.s k) (Mo sF.s sR.s k) (by
    have:Dw F.s H.s q (L.map (·.1)) k=F.s k:=by unfold Dw;rw[if_neg hkn]
    rw[this,Awz];exact sR.s k)) ?_
  intro v5 u5 o5 le5 r5;rw[H0 _ _ _ hkn]at r5;refine G.b (hJ (D++[e],L++[(k,_)]) _ _ _ cV ((le3.trans le4).trans le5)
   ⟨hS',by rw[Ac _ _ (Ne.symm i1),Ab],by rw[Ac _ _ (Ne.symm ne3),Ac _ _ i2];exact hm2g,o5,Ab _ _ _,by
    simpa[Avl] using r5⟩ (by have:=hS'.len;simp at this;dsimp only;simp;omega))
 case done1 =>
 intro hall;have hF1:Dw F.s H.s q (L.map (·.1))=(F.add (H.scale q)).s:=Je _ _ _ fun k hk=>hz1 k fun hm=>hk (by
  obtain⟨p,hp,rfl⟩:=Ate.1 hm;exact Ate.2 ⟨p,hall p hp,rfl⟩)
 rw[hF1]at hR;have hLl:=hS.len;refine G.mapRange w2 es2 clk2 162 57 kV (.inl (le13 _ _ e2)) ?_;intro it2 him2 hiu2;have j1:g1≠it2:=fun e=>by subst e;rw[him2]at hg1;cases hg1
 have j2:g2≠it2:=fun e=>by subst e;rw[him2]at hm2g;cases hm2g
 refine G.l (ι:=List MapEntry×List ((Par×Par)×Value)) (fun _=>[(3,.p 0 0),(4,.p 1 0),(5,.p 2 0),(6,.p 3 0),(35,.v (.pointer (some ⟨it2,0,none⟩)))])
  (fun _=>[(0,⟨92,[bV b2,sV a2 x2 c2,bV false,sV a2' x2' c2',.v (.map (some g1)),.v (.map (some g2))]⟩),(1,⟨92,[bV wb,sV wa wn wc,bV wb',sV wa' wn' wc',.v (.map (some w1)),.v (.map (some w2))]⟩),(2,⟨57,[bV kb,sV ka kn kc,bV false,sV ka' kn' kc']⟩),(3,⟨92,[bV false,sV none 0 0,bV false,sV none 0 0,.v (.map none),.v (.map none)]⟩)])
  (fun i u' m'=>Fc prV es2 l2 i.1 i.2/\m' it2=some (.mapIter (some w2) clk2 (Ar i.1) clk2)/\m' g1=some o1'/\∃ o2',m' g2=some o2'/\Di prV KO u' o2' (Dw F.t H.t q (i.2.map (·.1))) (N+i.2.length))
  (fun i=>l2.length-i.2.length) ([],[])
  ⟨Fc.nil _ _,Ab _ _ _,by rw[Ac _ _ j1];exact hg1,o2,by rw[Ac _ _ j2];exact hm2g,by
   have:Dw F.t H.t q (([]:List ((Par×Par)×Value)).map (·.1))=F.t:=by funext k;simp[Dw]
   dsimp only;rw[this];exact h2.mono le13⟩ ?_
 rintro J2 ⟨D2,L2⟩ hJ2 u6 m6 le6 ⟨hS2,hit2,hm1g,o2',hg22,hR2⟩;simp only at hS2 hit2 hm1g hg22 hR2 hJ2;have le16:=le13.trans le6;refine G.mapNextL Hi.inj it2 w2 es2 clk2 l2 D2 L2 kV kV hit2 (.inl (le16 _ _ e2)) hst2 hkv2 hnd2 hS2 ?done2 ?next2
 case next2 =>
  rintro⟨k,xv⟩ e hp hkn he hek hev hS';simp only at hkn hek hev;obtain⟨hx,hko⟩:=hl2 _ hp;simp only at hx hko;have hfix:=hko.fix;obtain⟨yb,ya,yn,yc,ya',yn',yc',rfl,_⟩:=hx.opn;refine G.mapEntry it2 w2 es2 clk2 D2 e kV (Ab _ _ _) (.inl (le16 _ _ e2)) hst2 he ?_;rw[hek,hev];refine G.pub 8003 162 [.int .i64 k.1.1,.string (mkS k.1.2),.int .i64 k.2.1,.string (mkS k.2.2)] kV kV ?_;intro bq hq1 hq2;have q1:g1≠bq:=fun e=>by subst e;rw[Ac _ _ j1,hm1g]at hq2;cases hq2
  have q2:g2≠bq:=fun e=>by subst e;rw[Ac _ _ j2,hg22]at hq2;cases hq2
  have q3:it2≠bq:=fun e=>by subst e;rw[Ab]at hq2;cases hq2
  obtain⟨pe1,pe2⟩:=Agc (m:=(m6.upd it2 (.mapIter (some w2) clk2 (Ar (D2++[e])) clk2)).upd bq (.cells [Auj .i64 k.1.1,.string (mkS k.1.2),.int .i64 k.2.1,.string (mkS k.2.2)].toArray 162 (0,0))) (Ab _ _ _);refine G.addrA 162 110 2 bq 0 0 2 kV kV kV kV oV ?_;refine G.lM (some 2) bq (0+0*2) (.agg #[.int .i64 k.1.1,.string (mkS k.1.2)]) pe1 ?_;refine G.addrA 162 110 2 bq 0 1 2 kV kV kV kV oV ?_;refine G.lM (some 2) bq (0+1*2) (.agg #[.int .i64 k.2.1,.string (mkS k.2.2)]) pe2 ?_;refine G.c call80 (G1 (hx.mono le16) (hk.mono le16) (SB.ten (sH.t k)) hq.ten) ?_;intro v4 u4 le4 r4;obtain⟨b4,a4,x4,c4,a4',x4',c4',rfl,_⟩:=r4.opn;refine G.callG _ _ kV kV call82 (g:=g2) (o:=o2') (by rw[Ac _ _ q2,Ac _ _ j2];exact hg22)
   (Gv (g1:=some g1) (y1:=b2) (y2:=(a2,x2,c2)) (y3:=false) (y4:=(a2',x2',c2')) (p:=k.1) (r:=k.2) (hR2.mono le4) r4 (sK.t k) (by rw[hfix];exact Mo sF.t sR.t k) (by
    have:Dw F.t H.t q (L2.map (·.1)) k=F.t k:=by unfold Dw;rw[if_neg hkn]
    rw[hfix,this,Awz];exact sR.t k)) ?_
  intro v5 u5 o5 le5 r5;rw[hfix,H0 _ _ _ hkn]at r5;refine G.b (hJ2 (D2++[e],L2++[(k,_)]) _ _ _ cV ((le6.trans le4).trans le5)
   ⟨hS',by rw[Ac _ _ (Ne.symm j2),Ac _ _ q3,Ab],by rw[Ac _ _ ne3,Ac _ _ q1,Ac _ _ j1];exact hm1g,o5,Ab _ _ _,by
    simpa[Avl] using r5⟩ (by have:=hS'.len;simp at this;dsimp only;simp;omega))
 case done2 =>
 intro hall2;have hF2:Dw F.t H.t q (L2.map (·.1))=(F.add (H.scale q)).t:=Je _ _ _ fun k hk=>hz2 k fun hm=>hk (by
  obtain⟨p,hp,rfl⟩:=Ate.1 hm;exact Ate.2 ⟨p,hall2 p hp,rfl⟩)
 rw[hF2]at hR2;have hLl2:=hS2.len;refine G.drop ((PH.mt.upd g1 o1').upd g2 o2') kV (fun g o hg=>by
  by_cases e:g=g2
  ·subst e;rw[Ab]at hg;cases hg;exact hg22
  ·rw[Ac _ _ e]at hg;by_cases e:g=g1
   ·subst e;rw[Ab]at hg;cases hg;exact hm1g
   ·rw[Ac _ _ e]at hg;cases hg) ?_
 exact G.r (.agg #[.bool b2,.slice a2 x2 c2,.bool false,.slice a2' x2' c2',.map (some g1),.map (some g2)]) ⟨_,_,_,_,_,_,_,_,g1,g2,o1',o2',rfl,r2.mono (le3.trans le6),ne3,rfl,(hR.mono le6).up oV,hR2.up oV⟩
end
theorem Amd {u:PH}{F H:CF}{N M:Nat}{v w:Value}(hv:Pt u v F N)(hw:Pt u w H M)(ok:App F H) :
 Ak prog 83 [v,w] u PH.mt fun v' u' m'=>Iq m' u' v' (F.mul H) (M+N+N*M):=by
 obtain⟨vb,va,vn,vc,vb',va',vn',vc',v1,v2,q1,q2,rfl,hvc,f1,f2,s1,s2⟩:=id hv;obtain⟨wb,wa,wn,wc,wb',wa',wn',wc',w1,w2,p1,p2,rfl,hwc,e1,e2,t1,t2⟩:=id hw;obtain⟨lv,⟨esv,clv,rfl,hkv,hsv⟩,hlv,hzv,hnv⟩:=s1.at;obtain⟨lw,⟨esw,clw,rfl,hkw,hsw⟩,hlw,hzw,hnw⟩:=t1.at;obtain⟨kv,⟨fsv,dlv,rfl,hkv2,hsv2⟩,hlv2,hzv2,hnv2⟩:=s2.at;obtain⟨kw,⟨fsw,dlw,rfl,hkw2,hsw2⟩,hlw2,hzw2,hnw2⟩:=t2.at;have hndv:(lv.map (·.1)).Nodup:=Et.nodup (enc:=A3) ⟨esv,clv,rfl,hkv,hsv⟩;have hndw:(lw.map (·.1)).Nodup:=Et.nodup (enc:=A3) ⟨esw,clw,rfl,hkw,hsw⟩;have hndv2:(kv.map (·.1)).Nodup:=Et.nodup (enc:=prV) ⟨fsv,dlv,rfl,hkv2,hsv2⟩;have hndw2:(kw.map (·.1)).Nodup:=Et.nodup (enc:=prV) ⟨fsw,dlw,rfl,hkw2,hsw2⟩;refine Ak.o func83 ?_;refine G.callO _ _ kV call30 (H4 (n:=0) oV oV) ?_;rintro v3 u3 m3 l3 ⟨b,a,n,c,b',a',n',c',g1,g2,o1,o2,rfl,_,ne3,rfl,h1,h2⟩ _;rw[C6];refine G.c call80 (G1 (hvc.mono l3) (hwc.mono l3) (SB.ten ok.a.c) (SB.ten ok.b.c)) ?_;intro v5 u5 l5 r5;obtain⟨b2,a2,x2,c2,a2',x2',c2',rfl,_⟩:=r5.opn;have le5:=l3.trans l5;obtain⟨m5,hm5,hg5,hh5⟩:∃ m5:PH,m5=(PH.mt.upd g1 o1).upd g2 o2/\m5 g1=some o1/\m5 g2=some o2:=⟨_,rfl,by rw[Ac _ _ ne3,Ab],Ab _ _ _⟩;rw[<-hm5];have hc1:CFS (F.scale H.c):=ok.d;have hc2:CFS (H.scale F.c):=ok.c;have hsum:∀ k,SB ((F.scale H.c).s k+H.s k*F.c):=fun k=>by rw[Awz];exact ok.e.s k
 have hsumt:∀ k,SB ((F.scale H.c).t k+H.t k*F.c):=fun k=>by rw[Awz];exact ok.e.t k
 have hz1:∀ k:Par,SB ((fun _:Par=>(0:Rat)) k+F.s k*H.c):=fun k=>by show SB (0+F.s k*H.c);rw[Ax8];exact hc1.s k
 have hz2:∀ k:Par×Par,SB ((fun _:Par×Par=>(0:Rat)) k+F.t k*H.c):=fun k=>by show SB (0+F.t k*H.c);rw[Ax8];exact hc1.t k
 have hS0:Di A3 KT u5 o1 (fun _=>0) 0:=h1.mono l5;have hP0:Di prV KO u5 o2 (fun _=>0) 0:=h2.mono l5;have le0:=le5;refine G.mapRange v1 esv clv 110 57 kV (.inl (le5 _ _ f1)) ?_;intro itA himA hiuA;have i1A:g1≠itA:=fun e=>by subst e;rw[himA]at hg5;cases hg5
 have i2A:g2≠itA:=fun e=>by subst e;rw[himA]at hh5;cases hh5
 refine G.l (ι:=List MapEntry×List ((Par)×Value)) (fun _=>[(2,.p 0 0),(3,.p 1 0),(4,.p 2 0),(5,.p 1001 0),(28,.v (.pointer (some ⟨itA,0,none⟩)))])
  (fun _=>[(0,⟨92,[bV vb,sV va vn vc,bV vb',sV va' vn' vc',.v (.map (some v1)),.v (.map (some v2))]⟩),(1,⟨92,[bV wb,sV wa wn wc,bV wb',sV wa' wn' wc',.v (.map (some w1)),.v (.map (some w2))]⟩),(2,⟨92,[bV false,sV none 0 0,bV false,sV none 0 0,.v (.map none),.v (.map none)]⟩),(1001,⟨92,[bV b2,sV a2 x2 c2,bV false,sV a2' x2' c2',.v (.map (some g1)),.v (.map (some g2))]⟩)])
  (fun i u' m'=>Fc A3 esv lv i.1 i.2/\m' itA=some (.mapIter (some v1) clv (Ar i.1) clv)/\m' g2=some o2/\∃ oo,m' g1=some oo/\Di A3 KT u' oo (Dw (fun _=>0) F.s H.c (i.2.map (·.1))) (0+i.2.length))
  (fun i=>lv.length-i.2.length) ([],[])
  ⟨Fc.nil _ _,Ab _ _ _,by rw[Ac _ _ i2A];exact hh5,_,by rw[Ac _ _ i1A];exact hg5,by
   have:Dw (fun _=>0) F.s H.c (([]:List ((Par)×Value)).map (·.1))=(fun _=>0):=by funext k;simp[Dw]
   dsimp only;rw[this];exact hS0⟩ ?_
 rintro JA ⟨D,LA⟩ hJA uA mA lA ⟨hS,hit,hothA,oA,hooA,hRA⟩;simp only at hS hit hothA hooA hRA hJA;have leA:=le5.trans lA;refine G.mapNextL Dr.inj itA v1 esv clv lv D LA kV kV hit (.inl (leA _ _ f1)) hsv hkv hndv hS ?doneA ?nextA
 case nextA =>
  rintro⟨k,xv⟩ e hp hkn he hek hev hS';simp only at hkn hek hev;obtain⟨hx,hko⟩:=hlv _ hp;simp only at hx hko;obtain⟨yb,ya,yn,yc,ya',yn',yc',rfl,_⟩:=hx.opn;refine G.mapEntry itA v1 esv clv D e kV (Ab _ _ _) (.inl (leA _ _ f1)) hsv he ?_;rw[hek,hev];refine G.c call80 (G1 (hx.mono leA) (hwc.mono leA) (SB.ten (ok.a.s k)) (SB.ten ok.b.c)) ?_;intro v4 u4 le4 r4;obtain⟨b4,a4,x4,c4,a4',x4',c4',rfl,_⟩:=r4.opn;refine G.callG _ _ kV kV call81 (g:=g1) (o:=oA) (by rw[Ac _ _ i1A];exact hooA)
   (Mi (g2:=some g2) (y1:=b2) (y2:=(a2,x2,c2)) (y3:=false) (y4:=(a2',x2',c2')) (hRA.mono le4) r4 (hc1.s k) (Mo (fun _=>SB.zero) hz1 k) (by
    have:Dw (fun _=>0) F.s H.c (LA.map (·.1)) k=(fun _=>0) k:=by unfold Dw;rw[if_neg hkn]
    rw[this,Awz];exact hz1 k)) ?_
  intro v5 u5 o5 le5' r5';rw[H0 _ _ _ hkn]at r5';refine G.b (hJA (D++[e],LA++[(k,_)]) _ _ _ cV ((lA.trans le4).trans le5')
   ⟨hS',by rw[Ac _ _ (Ne.symm i1A),Ab],by rw[Ac _ _ (Ne.symm ne3),Ac _ _ i2A];exact hothA,o5,Ab _ _ _,by
    simpa[Avl] using r5'⟩ (by have:=hS'.len;simp at this;dsimp only;simp;omega))
 case doneA =>
 intro hall;rw[Je _ _ _ fun k hk=>hzv k fun hm=>hk (by
  obtain⟨p,hp,rfl⟩:=Ate.1 hm;exact Ate.2 ⟨p,hall p hp,rfl⟩)]at hRA
 have hLlA:=hS.len;have hSA:=hRA.congr (f':=(F.scale H.c).s) (fun k=>by show 0+F.s k*H.c=F.s k*H.c;rw[Ax8]);have hPA:=hP0.mono lA;clear hJA hS hit hall hRA;refine G.mapRange w1 esw clw 110 57 kV (.inl (leA _ _ e1)) ?_;intro itB himB hiuB;have i1B:g1≠itB:=fun e=>by subst e;rw[himB]at hooA;cases hooA
 have i2B:g2≠itB:=fun e=>by subst e;rw[himB]at hothA;cases hothA
 refine G.l (ι:=List MapEntry×List ((Par)×Value)) (fun _=>[(2,.p 0 0),(3,.p 1 0),(4,.p 2 0),(5,.p 1001 0),(43,.v (.pointer (some ⟨itB,0,none⟩)))])
  (fun _=>[(0,⟨92,[bV vb,sV va vn vc,bV vb',sV va' vn' vc',.v (.map (some v1)),.v (.map (some v2))]⟩),(1,⟨92,[bV wb,sV wa wn wc,bV wb',sV wa' wn' wc',.v (.map (some w1)),.v (.map (some w2))]⟩),(2,⟨92,[bV false,sV none 0 0,bV false,sV none 0 0,.v (.map none),.v (.map none)]⟩),(1001,⟨92,[bV b2,sV a2 x2 c2,bV false,sV a2' x2' c2',.v (.map (some g1)),.v (.map (some g2))]⟩)])
  (fun i u' m'=>Fc A3 esw lw i.1 i.2/\m' itB=some (.mapIter (some w1) clw (Ar i.1) clw)/\m' g2=some o2/\∃ oo,m' g1=some oo/\Di A3 KT u' oo (Dw (F.scale H.c).s H.s F.c (i.2.map (·.1))) (0+LA.length+i.2.length))
  (fun i=>lw.length-i.2.length) ([],[])
  ⟨Fc.nil _ _,Ab _ _ _,by rw[Ac _ _ i2B];exact hothA,_,by rw[Ac _ _ i1B];exact hooA,by
   have:Dw (F.scale H.c).s H.s F.c (([]:List ((Par)×Value)).map (·.1))=(F.scale H.c).s:=by funext k;simp[Dw]
   dsimp only;rw[this];exact hSA⟩ ?_
 rintro JB ⟨D,LB⟩ hJB uB mB lB ⟨hS,hit,hothB,oB,hooB,hRB⟩;simp only at hS hit hothB hooB hRB hJB;have leB:=leA.trans lB;refine G.mapNextL Dr.inj itB w1 esw clw lw D LB kV kV hit (.inl (leB _ _ e1)) hsw hkw hndw hS ?doneB ?nextB
 case nextB =>
  rintro⟨k,xv⟩ e hp hkn he hek hev hS';simp only at hkn hek hev;obtain⟨hx,hko⟩:=hlw _ hp;simp only at hx hko;obtain⟨yb,ya,yn,yc,ya',yn',yc',rfl,_⟩:=hx.opn;refine G.mapEntry itB w1 esw clw D e kV (Ab _ _ _) (.inl (leB _ _ e1)) hsw he ?_;rw[hek,hev];refine G.c call80 (G1 (hx.mono leB) (hvc.mono leB) (SB.ten (ok.b.s k)) (SB.ten ok.a.c)) ?_;intro v4 u4 le4 r4;obtain⟨b4,a4,x4,c4,a4',x4',c4',rfl,_⟩:=r4.opn;refine G.callG _ _ kV kV call81 (g:=g1) (o:=oB) (by rw[Ac _ _ i1B];exact hooB)
   (Mi (g2:=some g2) (y1:=b2) (y2:=(a2,x2,c2)) (y3:=false) (y4:=(a2',x2',c2')) (hRB.mono le4) r4 (hc2.s k) (Mo hc1.s hsum k) (by
    have:Dw (F.scale H.c).s H.s F.c (LB.map (·.1)) k=(F.scale H.c).s k:=by unfold Dw;rw[if_neg hkn]
    rw[this,Awz];exact hsum k)) ?_
  intro v5 u5 o5 le5' r5';rw[H0 _ _ _ hkn]at r5';refine G.b (hJB (D++[e],LB++[(k,_)]) _ _ _ cV ((lB.trans le4).trans le5')
   ⟨hS',by rw[Ac _ _ (Ne.symm i1B),Ab],by rw[Ac _ _ (Ne.symm ne3),Ac _ _ i2B];exact hothB,o5,Ab _ _ _,by
    simpa[Avl] using r5'⟩ (by have:=hS'.len;simp at this;dsimp only;simp;omega))
 case doneB =>
 intro hall;rw[Je _ _ _ fun k hk=>hzw k fun hm=>hk (by
  obtain⟨p,hp,rfl⟩:=Ate.1 hm;exact Ate.2 ⟨p,hall p hp,rfl⟩)]at hRB
 have hLlB:=hS.len;have hSB:=hRB.congr (f':=(F.mul H).s) (fun k=>by show F.s k*H.c+H.s k*F.c=H.s k*F.c+F.s k*H.c;rw[Awz]);have hPB:=hPA.mono lB;clear hJB hS hit hall hRB;refine G.mapRange v2 fsv dlv 162 57 kV (.inl (leB _ _ f2)) ?_;intro itC himC hiuC;have i1C:g1≠itC:=fun e=>by subst e;rw[himC]at hooB;cases hooB
 have i2C:g2≠itC:=fun e=>by subst e;rw[himC]at hothB;cases hothB
 refine G.l (ι:=List MapEntry×List ((Par×Par)×Value)) (fun _=>[(2,.p 0 0),(3,.p 1 0),(4,.p 2 0),(5,.p 1001 0),(58,.v (.pointer (some ⟨itC,0,none⟩)))])
  (fun _=>[(0,⟨92,[bV vb,sV va vn vc,bV vb',sV va' vn' vc',.v (.map (some v1)),.v (.map (some v2))]⟩),(1,⟨92,[bV wb,sV wa wn wc,bV wb',sV wa' wn' wc',.v (.map (some w1)),.v (.map (some w2))]⟩),(2,⟨92,[bV false,sV none 0 0,bV false,sV none 0 0,.v (.map none),.v (.map none)]⟩),(1001,⟨92,[bV b2,sV a2 x2 c2,bV false,sV a2' x2' c2',.v (.map (some g1)),.v (.map (some g2))]⟩)])
  (fun i u' m'=>Fc prV fsv kv i.1 i.2/\m' itC=some (.mapIter (some v2) dlv (Ar i.1) dlv)/\m' g1=some oB/\∃ oo,m' g2=some oo/\Di prV KO u' oo (Dw (fun _=>0) F.t H.c (i.2.map (·.1))) (0+i.2.length))
  (fun i=>kv.length-i.2.length) ([],[])
  ⟨Fc.nil _ _,Ab _ _ _,by rw[Ac _ _ i1C];exact hooB,_,by rw[Ac _ _ i2C];exact hothB,by
   have:Dw (fun _=>0) F.t H.c (([]:List ((Par×Par)×Value)).map (·.1))=(fun _=>0):=by funext k;simp[Dw]
   dsimp only;rw[this];exact hPB⟩ ?_
 rintro JC ⟨D,LC⟩ hJC uC mC lC ⟨hS,hit,hothC,oC,hooC,hRC⟩;simp only at hS hit hothC hooC hRC hJC;have leC:=leB.trans lC;refine G.mapNextL Hi.inj itC v2 fsv dlv kv D LC kV kV hit (.inl (leC _ _ f2)) hsv2 hkv2 hndv2 hS ?doneC ?nextC
 case nextC =>
  rintro⟨k,xv⟩ e hp hkn he hek hev hS';simp only at hkn hek hev;obtain⟨hx,hko⟩:=hlv2 _ hp;simp only at hx hko;obtain⟨yb,ya,yn,yc,ya',yn',yc',rfl,_⟩:=hx.opn;refine G.mapEntry itC v2 fsv dlv D e kV (Ab _ _ _) (.inl (leC _ _ f2)) hsv2 he ?_;rw[hek,hev];have hfix:=hko.fix;refine G.pub 13003 162 [.int .i64 k.1.1,.string (mkS k.1.2),.int .i64 k.2.1,.string (mkS k.2.2)] kV kV ?_;intro bq hq1 hq2;have q1:g1≠bq:=fun e=>by subst e;rw[Ac _ _ i1C,hothC]at hq2;cases hq2
  have q2:g2≠bq:=fun e=>by subst e;rw[Ac _ _ i2C,hooC]at hq2;cases hq2
  have q3:itC≠bq:=fun e=>by subst e;rw[Ab]at hq2;cases hq2
  obtain⟨pe1,pe2⟩:=Agc (m:=(mC.upd itC (.mapIter (some v2) dlv (Ar (D++[e])) dlv)).upd bq (.cells [Auj .i64 k.1.1,.string (mkS k.1.2),.int .i64 k.2.1,.string (mkS k.2.2)].toArray 162 (0,0))) (Ab _ _ _);refine G.addrA 162 110 2 bq 0 0 2 kV kV kV kV oV ?_;refine G.lM (some 2) bq (0+0*2) (.agg #[.int .i64 k.1.1,.string (mkS k.1.2)]) pe1 ?_;refine G.addrA 162 110 2 bq 0 1 2 kV kV kV kV oV ?_;refine G.lM (some 2) bq (0+1*2) (.agg #[.int .i64 k.2.1,.string (mkS k.2.2)]) pe2 ?_;refine G.c call80 (G1 (hx.mono leC) (hwc.mono leC) (SB.ten (ok.a.t k)) (SB.ten ok.b.c)) ?_;intro v4 u4 le4 r4;obtain⟨b4,a4,x4,c4,a4',x4',c4',rfl,_⟩:=r4.opn;refine G.callG _ _ kV kV call82 (g:=g2) (o:=oC) (by rw[Ac _ _ q2,Ac _ _ i2C];exact hooC)
   (Gv (g1:=some g1) (y1:=b2) (y2:=(a2,x2,c2)) (y3:=false) (y4:=(a2',x2',c2')) (p:=k.1) (r:=k.2) (hRC.mono le4) r4 (hc1.t k) (by rw[hfix];exact Mo (fun _=>SB.zero) hz2 k) (by
    have:Dw (fun _=>0) F.t H.c (LC.map (·.1)) k=(fun _=>0) k:=by unfold Dw;rw[if_neg hkn]
    rw[hfix,this,Awz];exact hz2 k)) ?_
  intro v5 u5 o5 le5' r5';rw[hfix,H0 _ _ _ hkn]at r5';refine G.b (hJC (D++[e],LC++[(k,_)]) _ _ _ cV ((lC.trans le4).trans le5')
   ⟨hS',by rw[Ac _ _ (Ne.symm i2C),Ac _ _ q3,Ab],by rw[Ac _ _ ne3,Ac _ _ q1,Ac _ _ i1C];exact hothC,o5,Ab _ _ _,by
    simpa[Avl] using r5'⟩ (by have:=hS'.len;simp at this;dsimp only;simp;omega))
 case doneC =>
 intro hall;rw[Je _ _ _ fun k hk=>hzv2 k fun hm=>hk (by
  obtain⟨p,hp,rfl⟩:=Ate.1 hm;exact Ate.2 ⟨p,hall p hp,rfl⟩)]at hRC
 have hLlC:=hS.len;have hPC:=hRC.congr (f':=(F.scale H.c).t) (fun k=>by show 0+F.t k*H.c=F.t k*H.c;rw[Ax8]);have hSC:=hSB.mono lC;clear hJC hS hit hall hRC;refine G.mapRange w2 fsw dlw 162 57 kV (.inl (leC _ _ e2)) ?_;intro itD himD hiuD;have i1D:g1≠itD:=fun e=>by subst e;rw[himD]at hothC;cases hothC
 have i2D:g2≠itD:=fun e=>by subst e;rw[himD]at hooC;cases hooC
 refine G.l (ι:=List MapEntry×List ((Par×Par)×Value)) (fun _=>[(2,.p 0 0),(3,.p 1 0),(4,.p 2 0),(5,.p 1001 0),(76,.v (.pointer (some ⟨itD,0,none⟩)))])
  (fun _=>[(0,⟨92,[bV vb,sV va vn vc,bV vb',sV va' vn' vc',.v (.map (some v1)),.v (.map (some v2))]⟩),(1,⟨92,[bV wb,sV wa wn wc,bV wb',sV wa' wn' wc',.v (.map (some w1)),.v (.map (some w2))]⟩),(2,⟨92,[bV false,sV none 0 0,bV false,sV none 0 0,.v (.map none),.v (.map none)]⟩),(1001,⟨92,[bV b2,sV a2 x2 c2,bV false,sV a2' x2' c2',.v (.map (some g1)),.v (.map (some g2))]⟩)])
  (fun i u' m'=>Fc prV fsw kw i.1 i.2/\m' itD=some (.mapIter (some w2) dlw (Ar i.1) dlw)/\m' g1=some oB/\∃ oo,m' g2=some oo/\Di prV KO u' oo (Dw (F.scale H.c).t H.t F.c (i.2.map (·.1))) (0+LC.length+i.2.length))
  (fun i=>kw.length-i.2.length) ([],[])
  ⟨Fc.nil _ _,Ab _ _ _,by rw[Ac _ _ i1D];exact hothC,_,by rw[Ac _ _ i2D];exact hooC,by
   have:Dw (F.scale H.c).t H.t F.c (([]:List ((Par×Par)×Value)).map (·.1))=(F.scale H.c).t:=by funext k;simp[Dw]
   dsimp only;rw[this];exact hPC⟩ ?_
 rintro JD ⟨D,LD⟩ hJD uD mD lD ⟨hS,hit,hothD,oD,hooD,hRD⟩;simp only at hS hit hothD hooD hRD hJD;have leD:=leC.trans lD;refine G.mapNextL Hi.inj itD w2 fsw dlw kw D LD kV kV hit (.inl (leD _ _ e2)) hsw2 hkw2 hndw2 hS ?doneD ?nextD
 case nextD =>
  rintro⟨k,xv⟩ e hp hkn he hek hev hS';simp only at hkn hek hev;obtain⟨hx,hko⟩:=hlw2 _ hp;simp only at hx hko;obtain⟨yb,ya,yn,yc,ya',yn',yc',rfl,_⟩:=hx.opn;refine G.mapEntry itD w2 fsw dlw D e kV (Ab _ _ _) (.inl (leD _ _ e2)) hsw2 he ?_;rw[hek,hev];have hfix:=hko.fix;refine G.pub 17003 162 [.int .i64 k.1.1,.string (mkS k.1.2),.int .i64 k.2.1,.string (mkS k.2.2)] kV kV ?_;intro bq hq1 hq2;have q1:g1≠bq:=fun e=>by subst e;rw[Ac _ _ i1D,hothD]at hq2;cases hq2
  have q2:g2≠bq:=fun e=>by subst e;rw[Ac _ _ i2D,hooD]at hq2;cases hq2
  have q3:itD≠bq:=fun e=>by subst e;rw[Ab]at hq2;cases hq2
  obtain⟨pe1,pe2⟩:=Agc (m:=(mD.upd itD (.mapIter (some w2) dlw (Ar (D++[e])) dlw)).upd bq (.cells [Auj .i64 k.1.1,.string (mkS k.1.2),.int .i64 k.2.1,.string (mkS k.2.2)].toArray 162 (0,0))) (Ab _ _ _);refine G.addrA 162 110 2 bq 0 0 2 kV kV kV kV oV ?_;refine G.lM (some 2) bq (0+0*2) (.agg #[.int .i64 k.1.1,.string (mkS k.1.2)]) pe1 ?_;refine G.addrA 162 110 2 bq 0 1 2 kV kV kV kV oV ?_;refine G.lM (some 2) bq (0+1*2) (.agg #[.int .i64 k.2.1,.string (mkS k.2.2)]) pe2 ?_;refine G.c call80 (G1 (hx.mono leD) (hvc.mono leD) (SB.ten (ok.b.t k)) (SB.ten ok.a.c)) ?_;intro v4 u4 le4 r4;obtain⟨b4,a4,x4,c4,a4',x4',c4',rfl,_⟩:=r4.opn;refine G.callG _ _ kV kV call82 (g:=g2) (o:=oD) (by rw[Ac _ _ q2,Ac _ _ i2D];exact hooD)
   (Gv (g1:=some g1) (y1:=b2) (y2:=(a2,x2,c2)) (y3:=false) (y4:=(a2',x2',c2')) (p:=k.1) (r:=k.2) (hRD.mono le4) r4 (hc2.t k) (by rw[hfix];exact Mo hc1.t hsumt k) (by
    have:Dw (F.scale H.c).t H.t F.c (LD.map (·.1)) k=(F.scale H.c).t k:=by unfold Dw;rw[if_neg hkn]
    rw[hfix,this,Awz];exact hsumt k)) ?_
  intro v5 u5 o5 le5' r5';rw[hfix,H0 _ _ _ hkn]at r5';refine G.b (hJD (D++[e],LD++[(k,_)]) _ _ _ cV ((lD.trans le4).trans le5')
   ⟨hS',by rw[Ac _ _ (Ne.symm i2D),Ac _ _ q3,Ab],by rw[Ac _ _ ne3,Ac _ _ q1,Ac _ _ i1D];exact hothD,o5,Ab _ _ _,by
    simpa[Avl] using r5'⟩ (by have:=hS'.len;simp at this;dsimp only;simp;omega))
 case doneD =>
 intro hall;rw[Je _ _ _ fun k hk=>hzw2 k fun hm=>hk (by
  obtain⟨p,hp,rfl⟩:=Ate.1 hm;exact Ate.2 ⟨p,hall p hp,rfl⟩)]at hRD
 have hLlD:=hS.len;have hPD:=hRD.congr (f':=((H.scale F.c).add (F.scale H.c)).t) (fun k=>by show F.t k*H.c+H.t k*F.c=H.t k*F.c+F.t k*H.c;rw[Awz]);have hSD:=hSC.mono lD;clear hJD hS hit hall hRD;obtain⟨base,hbase⟩:∃ base:Par×Par->Rat,base=((H.scale F.c).add (F.scale H.c)).t:=⟨_,rfl⟩;have hacc:=ok.acc;rw[<-hbase]at hPD hacc;have okp:=ok.pr;have okc:=ok.con;refine G.mapRange v1 esv clv 110 57 kV (.inl (leD _ _ f1)) ?_;intro it him hiu;have i1:g1≠it:=fun e=>by subst e;rw[him]at hothD;cases hothD
 have i2:g2≠it:=fun e=>by subst e;rw[him]at hooD;cases hooD
 refine G.l (ι:=List MapEntry×List (Par×Value)) (fun _=>[(2,.p 0 0),(3,.p 1 0),(4,.p 2 0),(5,.p 1001 0),(94,.v (.pointer (some ⟨it,0,none⟩)))])
  (fun _=>[(0,⟨92,[bV vb,sV va vn vc,bV vb',sV va' vn' vc',.v (.map (some v1)),.v (.map (some v2))]⟩),(1,⟨92,[bV wb,sV wa wn wc,bV wb',sV wa' wn' wc',.v (.map (some w1)),.v (.map (some w2))]⟩),(2,⟨92,[bV false,sV none 0 0,bV false,sV none 0 0,.v (.map none),.v (.map none)]⟩),(1001,⟨92,[bV b2,sV a2 x2 c2,bV false,sV a2' x2' c2',.v (.map (some g1)),.v (.map (some g2))]⟩)])
  (fun i u' m'=>Fc A3 esv lv i.1 i.2/\m' it=some (.mapIter (some v1) clv (Ar i.1) clv)/\m' g1=some oB/\∃ Ps:List (Par×Par),Ps.Nodup/\(∀ x:Par×Par,x∈Ps↔x.1∈i.2.map (·.1)/\x.2∈lw.map (·.1))/\∃ o2',m' g2=some o2'/\Di prV KO u' o2' (fun k=>base k+D3 F H Ps k) (0+LC.length+LD.length+i.2.length*lw.length))
  (fun i=>lv.length-i.2.length) ([],[])
  ⟨Fc.nil _ _,Ab _ _ _,by rw[Ac _ _ i1];exact hothD,[],mV,mV,oD,by rw[Ac _ _ i2];exact hooD,(hPD.congr fun k=>by simp only[D3];grind).up mV⟩ ?_
 rintro J ⟨D,L⟩ hJ u6 m6 l6 ⟨hS,hit,hm1g,Ps,hPn,hPm,o2',hg2,hR⟩;simp only at hS hit hm1g hPm hg2 hR hJ;have le6:=leD.trans l6;refine G.mapNextL Dr.inj it v1 esv clv lv D L kV kV hit (.inl (le6 _ _ f1)) hsv hkv hndv hS ?done1 ?next1
 case next1 =>
  rintro⟨p,xv⟩ e hp hpn he hek hev hS';simp only at hpn hek hev;have hx:=(hlv _ hp).1;simp only at hx;obtain⟨yb,ya,yn,yc,ya',yn',yc',rfl,_⟩:=hx.opn;refine G.mapEntry it v1 esv clv D e kV (Ab _ _ _) (.inl (le6 _ _ f1)) hsv he ?_;rw[hek,hev];refine G.mapRange w1 esw clw 110 57 kV (.inl (le6 _ _ e1)) ?_;intro it2 him2 hiu2;have j1:g1≠it2:=fun e=>by subst e;rw[Ac _ _ i1,hm1g]at him2;cases him2
  have j2:g2≠it2:=fun e=>by subst e;rw[Ac _ _ i2,hg2]at him2;cases him2
  have k1:it≠it2:=fun e=>by subst e;rw[Ab]at him2;cases him2
  refine G.l (ι:=List MapEntry×List (Par×Value)) (fun _=>[(2,.p 0 0),(3,.p 1 0),(4,.p 2 0),(5,.p 1001 0),(14,.p 21003 0),(15,.p 21004 0),(94,.v (.pointer (some ⟨it,0,none⟩))),(102,.v (.pointer (some ⟨it2,0,none⟩)))])
   (fun _=>[(0,⟨92,[bV vb,sV va vn vc,bV vb',sV va' vn' vc',.v (.map (some v1)),.v (.map (some v2))]⟩),(1,⟨92,[bV wb,sV wa wn wc,bV wb',sV wa' wn' wc',.v (.map (some w1)),.v (.map (some w2))]⟩),(2,⟨92,[bV false,sV none 0 0,bV false,sV none 0 0,.v (.map none),.v (.map none)]⟩),(1001,⟨92,[bV b2,sV a2 x2 c2,bV false,sV a2' x2' c2',.v (.map (some g1)),.v (.map (some g2))]⟩),(21003,⟨110,[iV p.1,tV p.2]⟩),(21004,⟨57,[bV yb,sV ya yn yc,bV false,sV ya' yn' yc']⟩)])
   (fun i u' m'=>Fc A3 esw lw i.1 i.2/\m' it2=some (.mapIter (some w1) clw (Ar i.1) clw)/\m' it=some (.mapIter (some v1) clv (Ar (D++[e])) clv)/\m' g1=some oB/\∃ Qs:List (Par×Par),Qs.Nodup/\(∀ x:Par×Par,x∈Qs↔(x.1∈L.map (·.1)/\x.2∈lw.map (·.1))\/(x.1=p/\x.2∈i.2.map (·.1)))/\∃ oi,m' g2=some oi/\Di prV KO u' oi (fun k=>base k+D3 F H Qs k) (0+LC.length+LD.length+L.length*lw.length+i.2.length))
   (fun i=>lw.length-i.2.length) ([],[])
   ⟨Fc.nil _ _,Ab _ _ _,by rw[Ac _ _ k1,Ab],by rw[Ac _ _ j1,Ac _ _ i1];exact hm1g,Ps,hPn,by intro x;rw[hPm];simp,o2',by rw[Ac _ _ j2,Ac _ _ i2];exact hg2,hR⟩ ?_
  rintro J2 ⟨D2,L2⟩ iJ ui mi ile ⟨iS,iit2,iit,ig1,Qs,hQn,hQm,oi,ig2,iR⟩;simp only at iS iit2 iit ig1 hQm ig2 iR iJ;have lei:=le6.trans ile;refine G.mapNextL Dr.inj it2 w1 esw clw lw D2 L2 kV kV iit2 (.inl (lei _ _ e1)) hsw hkw hndw iS ?done2 ?next2
  case next2 =>
   rintro⟨k,yv⟩ e2 hk hkn he2 hek2 hev2 iS';simp only at hkn hek2 hev2;have hy:=(hlw _ hk).1;simp only at hy;obtain⟨zb,za,zn,zc,za',zn',zc',rfl,_⟩:=hy.opn;have hnew:(p,k)∉Qs:=fun h=>by
    rcases (hQm _).1 h with h|h
    ·exact hpn h.1
    ·exact hkn h.2
   have hQn':(Qs++[(p,k)]).Nodup:=by
    rw[Awq];exact⟨hQn,mV,fun a ha b hb e'=>hnew (by simp at hb;rw[<-hb,<-e'];exact ha)⟩
   have hQm':∀ x:Par×Par,x∈Qs++[(p,k)]↔(x.1∈L.map (·.1)/\x.2∈lw.map (·.1))\/(x.1=p/\x.2∈(L2++[(k,Value.agg #[.bool zb,.slice za zn zc,.bool false,.slice za' zn' zc'])]).map (·.1)):=fun x=>by
    obtain⟨x1,x2⟩:=x;rw[Ati,hQm];simp only[Atk,Ati,Auk,Axd,Aub,Prod.mk.injEq];constructor
    ·rintro ((h|⟨h1,h2⟩)|⟨h1,h2⟩)
     ·exact .inl h
     ·exact .inr ⟨h1,.inl h2⟩
     ·exact .inr ⟨h1,.inr h2⟩
    ·rintro (h|⟨h1,h2|h2⟩)
     ·exact .inl (.inl h)
     ·exact .inl (.inr ⟨h1,h2⟩)
     ·exact .inr ⟨h1,h2⟩
   refine G.mapEntry it2 w1 esw clw D2 e2 kV (Ab _ _ _) (.inl (lei _ _ e1)) hsw he2 ?_;rw[hek2,hev2];refine G.c call80 (G1 (hx.mono lei) (hy.mono lei) (SB.ten (ok.a.s p)) (SB.ten (ok.b.s k))) ?_;intro v9 u9 l9 r9;obtain⟨b9,a9,n9,c9,a9',n9',c9',rfl,_⟩:=r9.opn;by_cases hpk:p=k
   ·have hcon:con F H (p,k)=F.s p*H.s k+F.s p*H.s k:=by unfold con;rw[if_pos hpk]
    refine G.eqAgg 110 #[.int .i64 p.1,.string (mkS p.2)] #[.int .i64 k.1,.string (mkS k.2)] true kV kV kV (fun w=>by rw[<-decide_eq_true hpk];exact Dr.eq p k w) ?_;refine G.c call16 (Mk r9 r9 (SB.ten (okp p k)) (SB.ten (okp p k))) ?_;intro v10 u10 l10 r10;obtain⟨b10,a10,n10,c10,a10',n10',c10',rfl,_⟩:=r10.opn;refine G.callG _ _ kV kV call82 (g:=g2) (o:=oi) (by rw[Ac _ _ j2];exact ig2)
     (Gv (g1:=some g1) (y1:=b2) (y2:=(a2,x2,c2)) (y3:=false) (y4:=(a2',x2',c2')) (p:=p) (r:=k) (iR.mono (l9.trans l10)) r10 (by have:=okc (p,k);rw[hcon]at this;exact this) (hacc Qs hQn _) (by
      have:=hacc (Qs++[(p,k)]) hQn' (A5 p k);rw[Ih,if_pos rfl,hcon]at this;rw[show (F.s p*H.s k+F.s p*H.s k)+(base (A5 p k)+D3 F H Qs (A5 p k))=base (A5 p k)+((F.s p*H.s k+F.s p*H.s k)+D3 F H Qs (A5 p k)) by grind];exact this)) ?_
    intro v8 u8 o8 l8 r8;refine G.b (iJ (D2++[e2],L2++[(k,_)]) _ _ _ cV ((ile.trans (l9.trans l10)).trans l8)
     ⟨iS',by rw[Ac _ _ (Ne.symm j2),Ab],by rw[Ac _ _ (Ne.symm i2),Ac _ _ k1];exact iit,by rw[Ac _ _ ne3,Ac _ _ j1];exact ig1,Qs++[(p,k)],hQn',hQm',o8,Ab _ _ _,?_⟩ (by have:=iS'.len;simp at this;dsimp only;simp;omega))
    refine (r8.congr fun j=>?_).up (by simp[Avl]);rw[Ih,hcon];unfold Hs;by_cases e:j=A5 p k
    ·rw[if_pos e,if_pos e,e];grind
    ·rw[if_neg e,if_neg e]
   ·have hcon:con F H (p,k)=F.s p*H.s k:=by unfold con;rw[if_neg hpk]
    refine G.eqAgg 110 #[.int .i64 p.1,.string (mkS p.2)] #[.int .i64 k.1,.string (mkS k.2)] false kV kV kV (fun w=>by rw[<-decide_eq_false hpk];exact Dr.eq p k w) ?_;refine G.callG _ _ kV kV call82 (g:=g2) (o:=oi) (by rw[Ac _ _ j2];exact ig2)
     (Gv (g1:=some g1) (y1:=b2) (y2:=(a2,x2,c2)) (y3:=false) (y4:=(a2',x2',c2')) (p:=p) (r:=k) (iR.mono (l9)) r9 (by have:=okc (p,k);rw[hcon]at this;exact this) (hacc Qs hQn _) (by
      have:=hacc (Qs++[(p,k)]) hQn' (A5 p k);rw[Ih,if_pos rfl,hcon]at this;rw[show (F.s p*H.s k)+(base (A5 p k)+D3 F H Qs (A5 p k))=base (A5 p k)+((F.s p*H.s k)+D3 F H Qs (A5 p k)) by grind];exact this)) ?_
    intro v8 u8 o8 l8 r8;refine G.b (iJ (D2++[e2],L2++[(k,_)]) _ _ _ cV ((ile.trans (l9)).trans l8)
     ⟨iS',by rw[Ac _ _ (Ne.symm j2),Ab],by rw[Ac _ _ (Ne.symm i2),Ac _ _ k1];exact iit,by rw[Ac _ _ ne3,Ac _ _ j1];exact ig1,Qs++[(p,k)],hQn',hQm',o8,Ab _ _ _,?_⟩ (by have:=iS'.len;simp at this;dsimp only;simp;omega))
    refine (r8.congr fun j=>?_).up (by simp[Avl]);rw[Ih,hcon];unfold Hs;by_cases e:j=A5 p k
    ·rw[if_pos e,if_pos e,e];grind
    ·rw[if_neg e,if_neg e]
  case done2 =>
  intro hall2;refine G.b (hJ (D++[e],L++[(p,_)]) _ _ _ cV (l6.trans ile) ⟨hS',iit,ig1,Qs,hQn,fun x=>?_,oi,ig2,iR.up ?_⟩ (by have:=hS'.len;simp at this;dsimp only;simp;omega))
  ·rw[hQm];simp only[Atk,Ati,Auk,Axd,Aub];constructor
   ·rintro (h|⟨h1,h2⟩)
    ·exact⟨.inl h.1,h.2⟩
    ·obtain⟨y,hy,e'⟩:=Ate.1 h2;exact⟨.inr h1,Ate.2 ⟨y,iS.sub y hy,e'⟩⟩
   ·rintro⟨h1|h1,h2⟩
    ·exact .inl ⟨h1,h2⟩
    ·obtain⟨y,hy,e'⟩:=Ate.1 h2;exact .inr ⟨h1,Ate.2 ⟨y,hall2 y hy,e'⟩⟩
  ·have:=iS.len;simp only[Atg,List.length_cons,Av1,Nat.add_mul];omega
 case done1 =>
 intro hall;refine G.drop ((PH.mt.upd g1 oB).upd g2 o2') kV (fun g o hg=>?_) ?_
 ·by_cases e:g=g2
  ·subst e;rw[Ab]at hg;cases hg;exact hg2
  ·rw[Ac _ _ e]at hg;by_cases e:g=g1
   ·subst e;rw[Ab]at hg;cases hg;exact hm1g
   ·rw[Ac _ _ e]at hg;cases hg
 refine G.r (.agg #[.bool b2,.slice a2 x2 c2,.bool false,.slice a2' x2' c2',.map (some g1),.map (some g2)]) ⟨b2,a2,x2,c2,false,a2',x2',c2',g1,g2,oB,o2',rfl,r5.mono ((((lA.trans lB).trans lC).trans lD).trans l6),ne3,rfl,(hSD.mono l6).up oV,(hR.congr fun k=>?_).up ?_⟩
 ·rw[Ai2 F H hPn (fun p q h1 h2=>(hPm _).2 ⟨?_,?_⟩) k,hbase]
  ·rfl
  ·have:p∈lv.map (·.1):=Au2 fun h=>h1 (hzv p h);obtain⟨y,hy,e'⟩:=Ate.1 this;exact Ate.2 ⟨y,hall y hy,e'⟩
  ·exact Au2 fun h=>h2 (hzw q h)
 ·have h1:=hS.len;have h2:L.length*lw.length<=N*M:=Nat.mul_le_mul oV hnw;omega
section
variable {p q:Par×Par}{κ:Type}
theorem Al6 {κ:Type}{c:κ->κ->Int}(hc:Ord c){S:List (κ×Rat)}{k:κ}{q:Rat}{n:Nat}(hS:Hk c (S.map (·.1)))(hk:k∉S.map (·.1))
 (h1:∀ j x,j<n->S[j]?=some x->c x.1 k<0) (h2:∀ x,S[n]?=some x->¬ c x.1 k<0):Hk c ((S.take n++[(k,q)]++S.drop n).map (·.1)):=by
 have hS':Hk c ((S.take n).map (·.1)++(S.drop n).map (·.1)):=by rw[<-Atk,Awg];exact hS
 unfold Hk at hS'⊢;rw[Av8]at hS';obtain⟨p1,p2,p3⟩:=hS';have hA:∀ a∈(S.take n).map (·.1),c a k<0:=fun a ha=>by
  obtain⟨x,hx,rfl⟩:=Ate.1 ha;obtain⟨j,hj,rfl⟩:=Avy hx;rw[Atm]at hj;refine h1 j _ oV ?_;rw[Azn,As5 oV]
 have hB:∀ b∈(S.drop n).map (·.1),c k b<0:=by
  cases hd:S.drop n with
  |nil=>intro b hb;simp at hb
  |cons x B =>
   rw[hd,Auk,List.pairwise_cons]at p2;have hx:S[n]?=some x:=by
    have:=congrArg (fun l=>l[0]?) hd;simpa using this
   have hne:x.1≠k:=fun e=>hk (Ate.2 ⟨x,Ato hx,e⟩);have h3:=h2 x hx;have h0:c k x.1<0:=by
    have hs:=hc.sym k x.1;have hz:c x.1 k≠0:=fun e=>hne (hc.eq _ _ e);rw[hs];omega
   intro b hb;rw[Auk,At6]at hb;rcases hb with rfl|hb
   ·exact h0
   ·exact hc.trans _ _ _ h0 (p2.1 b hb)
 rw[Atk,Atk,Av8,Av8];refine⟨⟨p1,mV,fun a ha b hb=>?_⟩,p2,fun a ha b hb=>?_⟩
 ·simp at hb;subst hb;exact hA a ha
 ·rcases Ati.1 ha with ha|ha
  ·exact p3 a ha b hb
  ·simp at ha;subst ha;exact hB b hb
theorem R5 {α:Type}{S:List α}{x y:α}{n:Nat}:y∈S.take n++[x]++S.drop n↔y∈S\/y=x:=by
 have h:y∈S↔y∈S.take n\/y∈S.drop n:=by rw[<-Ati,Awg]
 rw[h];simp only[Ati,Aub];constructor
 ·rintro ((a|a)|a)
  ·exact .inl (.inl a)
  ·exact .inr a
  ·exact .inl (.inr a)
 ·rintro ((a|a)|a)
  ·exact .inl (.inl a)
  ·exact .inr a
  ·exact .inl (.inr a)
structure Pl {κ:Type}(c:κ->κ->Int)(f:κ->Rat)(L:List κ)(S:List (κ×Rat)):Prop where
 srt:Hk c (S.map (·.1))
 val:∀ p∈S,p.2=f p.1/\p.2≠0
 mem:∀ k,k∈S.map (·.1)↔k∈L/\f k≠0
theorem Pl.nil {κ:Type}{c:κ->κ->Int}{f:κ->Rat}:Pl c f [] []:=⟨Azj,fun p hp=>by simp at hp,fun k=>mV⟩
theorem Pl.skip {c:κ->κ->Int}{f:κ->Rat}{L:List κ}{S:List (κ×Rat)}{k:κ}(h:Pl c f L S)(h0:f k=0):Pl c f (L++[k]) S:=⟨h.srt,h.val,fun j=>by
 rw[h.mem,Ati,Aub];constructor
 ·rintro⟨a,b⟩;exact⟨.inl a,b⟩
 ·rintro⟨a|rfl,b⟩
  ·exact⟨a,b⟩
  ·exact absurd h0 b⟩
theorem Pl.put {κ:Type}{c:κ->κ->Int}(hc:Ord c){f:κ->Rat}{L:List κ}{S:List (κ×Rat)}{k:κ}{n:Nat}(h:Pl c f L S)(h0:f k≠0)(hk:k∉L)
 (h1:∀ j x,j<n->S[j]?=some x->c x.1 k<0) (h2:∀ x,S[n]?=some x->¬ c x.1 k<0):Pl c f (L++[k]) (S.take n++[(k,f k)]++S.drop n) :=
 ⟨Al6 hc h.srt (fun e=>hk ((h.mem k).1 e).1) h1 h2,fun p hp=>by
  rcases R5.1 hp with e|rfl
  ·exact h.val p e
  ·exact⟨rfl,h0⟩,fun j=>by
  have:=h.mem j;constructor
  ·intro hj;obtain⟨p,hp,rfl⟩:=Ate.1 hj;rcases R5.1 hp with e|rfl
   ·obtain⟨a,b⟩:=this.1 (Ate.2 ⟨p,e,rfl⟩);exact⟨Avn _ a,b⟩
   ·exact⟨mV,h0⟩
  ·rintro⟨a,b⟩;rcases Ati.1 a with e|e
   ·obtain⟨p,hp,e2⟩:=Ate.1 (this.2 ⟨e,b⟩);exact Ate.2 ⟨p,R5.2 (.inl hp),e2⟩
   ·rw[Aub]at e;exact Ate.2 ⟨(k,f k),R5.2 (.inr rfl),e.symm⟩⟩
theorem Pl.can {c:κ->κ->Int}{f:κ->Rat}{L:List κ}{S:List (κ×Rat)}(h:Pl c f L S)(hL:∀ k,k∉L->f k=0):Can c f S:=⟨h.srt,h.val,fun k hk=>by
 rcases A2k (k∈L) with e|e
 ·exact Au2 fun hn=>hk ((h.mem k).2 ⟨e,hn⟩)
 ·exact hL k e⟩
theorem Apb (h:Bd p.1 q.1<0):L1 p q<0:=by unfold L1;rw[if_pos oV];exact h
theorem Ao9 (h:¬ Bd p.1 q.1<0)(h':p.1≠q.1):¬ L1 p q<0:=by
 have hz:Bd p.1 q.1≠0:=fun e=>h' (Fr.eq _ _ e);unfold L1;rw[if_pos hz];exact h
theorem An3 (h:p.1=q.1):L1 p q=Bd p.2 q.2:=by unfold L1;rw[h,Fr.refl,if_neg mV]
theorem Nn {u:PH}(x y:(Par×Par)×Rat)(r:Bool)(h:decide (L1 x.1 y.1<0)=r):Fn0 prog 87 [D0 x,D0 y] u fun v _=>v=.bool r:=by
 obtain⟨⟨⟨a1,a2⟩,b1,b2⟩,q⟩:=x;obtain⟨⟨⟨c1,c2⟩,d1,d2⟩,q'⟩:=y;refine Fn0.o func87 ?_;by_cases h1:Bd (a1,a2) (c1,c2)<0
 ·rw[decide_eq_true (Apb h1)]at h;subst h;refine G.c call86 (Ga (a1,a2) (c1,c2) true (decide_eq_true h1)) ?_;rintro v1 u1 l1 rfl;exact G.r (.bool true) ⟨rfl,rfl⟩
 ·refine G.c call86 (Ga (a1,a2) (c1,c2) false (decide_eq_false h1)) ?_;rintro v1 u1 l1 rfl;by_cases h2:((a1,a2):Par)=(c1,c2)
  ·refine G.eqAgg 110 #[.int .i64 a1,.string (mkS a2)] #[.int .i64 c1,.string (mkS c2)] true kV kV kV (fun w=>by rw[<-decide_eq_true h2];exact Dr.eq (a1,a2) (c1,c2) w) ?_;rw[An3 h2]at h;refine G.c call86 (Ga (b1,b2) (d1,d2) r h) ?_;rintro v2 u2 l2 rfl;cases r with
   |true=>exact G.r (.bool true) ⟨rfl,rfl⟩
   |false=>exact G.r (.bool false) ⟨rfl,rfl⟩
  ·rw[decide_eq_false (Ao9 h1 h2)]at h;subst h;refine G.eqAgg 110 #[.int .i64 a1,.string (mkS a2)] #[.int .i64 c1,.string (mkS c2)] false kV kV kV (fun w=>by rw[<-decide_eq_false h2];exact Dr.eq (a1,a2) (c1,c2) w) ?_;exact G.r (.bool false) ⟨rfl,rfl⟩
section
variable {P:Program} [A7 P] {fn:Func} {Post:By} {st:List KI×S} {u m:PH}
theorem G.sliceFromG (a:Option Addr)(n c k sz:Nat)(h:Al P (adv P st)=.slice (some sz) (.slice a n c) (some (.int .i64 (k:Int))) none none)(hk:k<=n)(hn:n<=c)
 (g:G P fn Post (nx (adv P st) (.slice (if c=k then a else a.map (·.add (k*sz))) (n-k) (c-k))) u m):G P fn Post st u m:=by
 refine G.ask h mV (fun env o hview w hp=>?_) g;obtain⟨t,X,L,H,M,e1,e2,e3,e4,e5,hsz⟩:=H9 hview;obtain⟨dst,opp,type,pos,after,guard⟩:=o;simp only at e1;subst e1;unfold Mj at hsz;split at hsz
 ·rename_i e hu;have h1:(0:Int)<=k/\(k:Int)<=n:=oV
  simp only[execOp,e2,e3,e4,e5];simp only[Instr.sliceAt,Sem.run_bind,run_underlying hu,Result.andThen_ok,Instr.slice,Instr.sliceBounds,Instr.sliceBound,asIntOf,Sem.run_pure,if_true,Option.isSome,Sem.run_ite,Be hsz,h1,and_self,Avo]
 ·cases hsz
end
end
section
theorem ElP.fld {u:PH}{b off j:Nat}{xs:Array Value}{x:Value}(h:ElP u b off (.agg xs))(hx:xs[j]?=some x)(hc:x.cells = #[x]):ElP u b (off+j) x:=h.sub fun i y hy=>by
 rw[hc]at hy
 match i,hy with
 |0,hy=>simp at hy;subst hy;exact hx
 |i+1,hy=>simp at hy
def Ad3 (P:Program):List KI×S->List Value->List KI×S
 |st,[]=>st
 |st,v::l=>Ad3 P (nx (adv P st) v) l
section
variable {P:Program} [A7 P] {fn:Func} {Post:By} {st:List KI×S} {u m:PH}
theorem G.joinF {ι:Type}(f:List KI×S->List KI×S)(T:ι->List (Nat×SV))(B:ι->List (Nat×Blk))(Inv:ι->PH->PH->Prop)(hl:∀ i,Vg (T i) (B i)=true)(hn:Gg (Jc P 200 (f st)).1=true)
 (tail:∀ i u' m',PH.le u u'->Inv i u' m'->G P fn Post ((Jc P 200 (f st)).1,S.of (Jc P 200 (f st)).2.n (T i) (B i)) u' m')
 (k:(∀ i st' u' m',(Jc P 200 st').1=(Jc P 200 (f st)).1->Cov (Jc P 200 (f st)).2.n (Jc P 200 st').2 (T i) (B i)->PH.le u u'->Inv i u' m'->G P fn Post st' u' m')->G P fn Post st u m):G P fn Post st u m:=by
 refine k fun i st' u' m' h1 h2 h3 h4=>?_;have hc:Cov (Jc P 200 st').2.n (Jc P 200 st').2 (T i) (B i):=⟨rfl,h2.t,h2.b⟩;refine G.canon (T i) (B i) (by rw[h1];exact hn) (hl i) hc ?_;rw[h1,h2.n];exact tail i u' m' h3 h4
end
theorem Abz {L:List (List UInt8)}(h:L.Nodup){i k:Nat}{x y:List UInt8}(hx:L[i]?=some x)(hy:L[k]?=some y)(hne:k≠i):y≠x:=fun e=>by
 subst e;obtain⟨a1,a2⟩:=Atc.1 hx;obtain⟨b1,b2⟩:=Atc.1 hy;rcases Nat.lt_or_gt_of_ne hne with e|e
 ·exact absurd (b2.trans a2.symm) (Avr.1 h k i b1 a1 e)
 ·exact absurd (a2.trans b2.symm) (Avr.1 h i k a1 b1 e)
theorem Pd {u:PH}{s:List UInt8}(h:Hl s=true):Fn0 prog 78 [.string (mkS s)] u fun v _=>v=.bool true:=by
 obtain⟨hl1,hl2⟩:=Wl h;obtain⟨c0,hc0⟩:∃ c,s[0]?=some c:=⟨_,As5 oV⟩;have hw0:=U7 h hc0;refine Fn0.o func78 ?_;refine G.eF (s.length:Int) 0 ?_;refine G.gF (s.length:Int) 12 ?_;refine G.idxS s 0 c0 kV hc0 ?_;refine G.cmpG .lss .u8 (c0.toNat:Int) 97 false kV rfl (by simp only[Cj,decide_eq_false_iff_not];omega) ?_;refine G.idxS s 0 c0 kV hc0 ?_;refine G.cmpG .gtr .u8 (c0.toNat:Int) 122 false kV rfl (by simp only[Cj,decide_eq_false_iff_not];omega) ?_;refine G.l (ι:=Nat) (fun i=>[(0,tV s),(3,iV i)]) (fun _=>[])
  (fun i u' m'=>i<=s.length/\m'=PH.mt) (fun i=>s.length-i) 0 ⟨oV,rfl⟩ ?_
 rintro J i hJ u2 m2 l2 ⟨hi,rfl⟩;by_cases hlt:i<s.length
 ·refine G.lT (i:Int) (s.length:Int) ?_;obtain⟨b,hsi⟩:∃ b,s[i]?=some b:=⟨_,As5 hlt⟩;have hw:=U7 h hsi;refine G.idxS s i b kV hsi ?_;by_cases h97:97<=b.toNat
  ·refine G.cmpG .geq .u8 (b.toNat:Int) 97 true kV rfl (by simp only[Cj,decide_eq_true_eq];omega) ?_;refine G.idxS s i b kV hsi ?_;refine G.cmpG .leq .u8 (b.toNat:Int) 122 true kV rfl (by simp only[Cj,decide_eq_true_eq];omega) ?_;refine G.i i ?_;exact G.b (hJ (i+1) _ _ _ cV l2 ⟨oV,rfl⟩ oV)
  ·refine G.cmpG .geq .u8 (b.toNat:Int) 97 false kV rfl (by simp only[Cj,decide_eq_false_iff_not];omega) ?_;refine G.idxS s i b kV hsi ?_;by_cases h48:48<=b.toNat
   ·refine G.cmpG .geq .u8 (b.toNat:Int) 48 true kV rfl (by simp only[Cj,decide_eq_true_eq];omega) ?_;refine G.idxS s i b kV hsi ?_;refine G.cmpG .leq .u8 (b.toNat:Int) 57 true kV rfl (by simp only[Cj,decide_eq_true_eq];omega) ?_;refine G.i i ?_;exact G.b (hJ (i+1) _ _ _ cV l2 ⟨oV,rfl⟩ oV)
   ·refine G.cmpG .geq .u8 (b.toNat:Int) 48 false kV rfl (by simp only[Cj,decide_eq_false_iff_not];omega) ?_;refine G.idxS s i b kV hsi ?_;refine G.cmpG .eql .u8 (b.toNat:Int) 45 true kV rfl (by simp only[Cj,decide_eq_true_eq];omega) ?_;refine G.i i ?_;exact G.b (hJ (i+1) _ _ _ cV l2 ⟨oV,rfl⟩ oV)
 ·obtain rfl:i=s.length:=oV
  refine G.lF (s.length:Int) (s.length:Int) ?_;exact G.r (.bool true) ⟨rfl,rfl⟩
theorem Qt {u:PH}{v:Value}{T:List (List UInt8×Nat)}{R:List Ch}{F:List Aq}{lab:Int}(h:Ir u v T R F lab)(ok:Bz u T R F lab) :
 Fn0 prog 29 [v] u fun r _=>r=.int .i64 0:=by
 obtain⟨xa,xc,xb,xd,xe,xf,rfl,hT,hR,hF⟩:=h;have t1:=ok.t1;have t2:=ok.t2;have r1:=ok.r1;have r2:=ok.r2;have f2:=ok.f2;have lo:=ok.l1;have hi:lab<T.length:=by
  rcases Axn lab 0 with hlt|hge
  ·omega
  ·obtain⟨n,hn⟩:=ok.l2 lab.toNat oV;obtain⟨hk,_⟩:=Atc.1 hn;omega
 refine Fn0.o func29 ?_;refine G.eF (T.length:Int) 0 ?_;refine G.gF (T.length:Int) 12 ?_;refine G.eF (R.length:Int) 0 ?_;refine G.gF (R.length:Int) 6 ?_;refine G.gF (F.length:Int) 8 ?_;refine G.l (ι:=Nat) (fun i=>[(1,.p 0 0),(49,sV xa T.length xc),(50,iV T.length),(51,iV i)])
  (fun _=>[(0,⟨30,[sV xa T.length xc,sV xb R.length xd,sV xe F.length xf,iV lab]⟩)])
  (fun i u' m'=>i<=T.length/\m'=PH.mt) (fun i=>T.length-i) 0 ⟨oV,rfl⟩ ?_
 rintro J i hJ u1 m1 l1 ⟨hi1,rfl⟩;by_cases hlt:i<T.length
 ·refine G.lT (i:Int) (T.length:Int) ?_;obtain⟨x,hTi⟩:∃ x,T[i]?=some x:=⟨_,As5 hlt⟩;have hxm:=Ato hTi;obtain⟨hk1,hk3⟩:=ok.att.kind x hxm;have hword:=ok.att.names.word x.1 (Ate.2 ⟨x,hxm,rfl⟩);have hnx:(T.map (·.1))[i]?=some x.1:=by rw[Aty,hTi];rfl
  obtain⟨ba,oa,rfl,ea⟩:=Ad.at' (hT.mono l1) (j:=i) (e:=Ej x) (by simp[hTi]);obtain⟨xn,xk⟩:=x;simp only at hk1 hk3 hword hnx;refine G.a ba oa T.length xc i 2 hlt ?_;refine G.lU (some 2) ba (oa+i*2) (.agg #[.string (mkS xn),.int .i64 (xk:Int)]) ea ?_;refine G.c call78 (Pd hword) ?_;rintro v2 u2 l2 rfl;refine G.l (ι:=Nat) (fun k=>[(1,.p 0 0),(3,iV i),(4,.p 5003 0),(5,iV k),(49,sV (some ⟨ba,oa,none⟩) T.length xc),(50,iV T.length),(51,iV i)])
   (fun _=>[(0,⟨30,[sV (some ⟨ba,oa,none⟩) T.length xc,sV xb R.length xd,sV xe F.length xf,iV lab]⟩),(5003,⟨77,[tV xn,iV xk]⟩)])
   (fun k u' m'=>k<=i/\m'=PH.mt) (fun k=>i-k) 0 ⟨oV,rfl⟩ ?_
  rintro J2 k hJ2 u3 m3 l3 ⟨hk,rfl⟩;by_cases hlk:k<i
  ·refine G.lT (k:Int) (i:Int) ?_;obtain⟨y,hTk⟩:∃ y,T[k]?=some y:=⟨_,As5 oV⟩;have hny:(T.map (·.1))[k]?=some y.1:=by rw[Aty,hTk];rfl
   have hne:=Abz ok.att.names.nodup hnx hny oV;obtain⟨_,_,e',ek⟩:=Ad.at' (hT.mono ((l1.trans l2).trans l3)) (j:=k) (e:=Ej y) (by simp[hTk]);cases e';refine G.a ba oa T.length xc k 2 oV ?_;refine G.f 77 ba (oa+k*2) 0 0 ?_;refine G.lU none ba (oa+k*2+0) (.string (mkS y.1)) (ek.fld rfl rfl) ?_;refine G.w y.1 xn hne ?_;refine G.i k ?_;exact G.b (hJ2 (k+1) _ _ _ cV l3 ⟨oV,rfl⟩ oV)
  ·obtain rfl:k=i:=oV
   refine G.lF (k:Int) (k:Int) ?_;refine G.lF (xk:Int) 1 ?_;refine G.gF (xk:Int) 3 ?_;refine G.i k ?_;exact G.b (hJ (k+1) _ _ _ cV ((l1.trans l2).trans l3) ⟨oV,rfl⟩ oV)
 obtain rfl:i=T.length:=oV
 refine G.lF (T.length:Int) (T.length:Int) ?_;clear hJ;refine G.make 4 1 1 (.bool false) T.length kV rfl rfl oV oV oV ?_;rintro v1 mA hA1 ⟨ad,rfl⟩;obtain⟨g,rfl,_⟩:=hA1.some';refine G.l (ι:=Nat×List Bool) (fun i=>[(1,.p 0 0),(6,sV (some ⟨g,0,none⟩) T.length T.length),(88,sV xb R.length xd),(89,iV R.length),(90,iV i.1)])
  (fun _=>[(0,⟨30,[sV xa T.length xc,sV xb R.length xd,sV xe F.length xf,iV lab]⟩)])
  (fun i u' m'=>i.1<=R.length/\i.2.length=T.length/\(∀ r∈R.take i.1,∀ q∈r.2.1,i.2[q]?=some true)/\Ae PH.mt m' (.slice (some ⟨g,0,none⟩) T.length T.length) 4 1 (i.2.map Ayi)) (fun i=>R.length-i.1) (0,List.replicate T.length false)
  ⟨mV,mV,mV,by rw[List.map_replicate];exact hA1⟩ ?_
 rintro J ⟨i,L⟩ hJ u2 m2 l2 ⟨hi2,hL,hall,hA2⟩;simp only at hi2 hL hall hA2 hJ;have le2:=l1.trans l2;by_cases hlt2:i<R.length
 ·refine G.lT (i:Int) (R.length:Int) ?_;obtain⟨q,hRi⟩:∃ q,R[i]?=some q:=⟨_,As5 hlt2⟩;have hmem:=Ato hRi;have htk2:R.take (i+1)=R.take i++[q]:=by rw[At0,hRi];rfl
  have hword:=ok.rel.names.word q.1 (Ate.2 ⟨q,hmem,rfl⟩);have hnx:(R.map (·.1))[i]?=some q.1:=by rw[Aty,hRi];rfl
  obtain⟨ba,oa,rfl,ea⟩:=Ad.at' (hR.mono le2) (j:=i) (e:=Gw q) (by simp[hRi]);obtain⟨qs,ql,qa,qc⟩:=q;have hne:ql≠[]:=ok.rel.ne _ hmem;have hlq:∀ p∈ql,p<T.length:=ok.rel.lt _ hmem;have hql:ql.length<=1000:=ok.rel.len _ hmem;have hasc:∀ (k:Nat) x y,ql[k]?=some x->ql[k+1]?=some y->x<y:=ok.rel.asc _ hmem;have hqat:Ad u2 (.slice qa ql.length qc) 1 (Ah ql):=(ok.rel.at' _ hmem).mono le2;have hq0:0<ql.length:=List.length_pos_iff.2 hne;simp only at hword hnx;refine G.a ba oa R.length xd i 2 hlt2 ?_;refine G.lU (some 2) ba (oa+i*2) (.agg #[.string (mkS qs),.slice qa ql.length qc]) ea ?_;refine G.c call78 (Pd hword) ?_;rintro v3 u3 l3 rfl;refine G.l (ι:=Nat) (fun k=>[(1,.p 0 0),(6,sV (some ⟨g,0,none⟩) T.length T.length),(7,iV i),(8,.p 19003 0),(9,iV k),(88,sV (some ⟨ba,oa,none⟩) R.length xd),(89,iV R.length),(90,iV i)])
   (fun _=>[(0,⟨30,[sV xa T.length xc,sV (some ⟨ba,oa,none⟩) R.length xd,sV xe F.length xf,iV lab]⟩),(19003,⟨155,[tV qs,sV qa ql.length qc]⟩)])
   (fun k u' m'=>k<=i/\m'=m2) (fun k=>i-k) 0 ⟨oV,rfl⟩ ?_
  rintro J2 k hJ2 u4 m4 l4 ⟨hk,rfl⟩;by_cases hlk:k<i
  ·refine G.lT (k:Int) (i:Int) ?_;obtain⟨y,hTk⟩:∃ y,R[k]?=some y:=⟨_,As5 oV⟩;have hny:(R.map (·.1))[k]?=some y.1:=by rw[Aty,hTk];rfl
   have hne2:=Abz ok.rel.names.nodup hnx hny oV;obtain⟨_,_,e',ek⟩:=Ad.at' (hR.mono ((le2.trans l3).trans l4)) (j:=k) (e:=Gw y) (by simp[hTk]);cases e';refine G.a ba oa R.length xd k 2 oV ?_;refine G.f 155 ba (oa+k*2) 0 0 ?_;refine G.lU none ba (oa+k*2+0) (.string (mkS y.1)) (ek.fld rfl rfl) ?_;refine G.w y.1 qs hne2 ?_;refine G.i k ?_;exact G.b (hJ2 (k+1) _ _ _ cV l4 ⟨oV,rfl⟩ oV)
  obtain rfl:k=i:=oV
  refine G.lF (k:Int) (k:Int) ?_;clear hJ2;refine G.eF (ql.length:Int) 0 ?_;refine G.l (ι:=Nat×List Bool) (fun j=>[(1,.p 0 0),(6,sV (some ⟨g,0,none⟩) T.length T.length),(8,.p 19003 0),(88,sV (some ⟨ba,oa,none⟩) R.length xd),(89,iV R.length),(90,iV k),(118,sV qa ql.length qc),(119,iV ql.length),(120,iV j.1)])
   (fun _=>[(0,⟨30,[sV xa T.length xc,sV (some ⟨ba,oa,none⟩) R.length xd,sV xe F.length xf,iV lab]⟩),(19003,⟨155,[tV qs,sV qa ql.length qc]⟩)])
   (fun j u' m'=>j.1<=ql.length/\j.2.length=T.length/\(∀ r∈R.take k,∀ q∈r.2.1,j.2[q]?=some true)/\(∀ q∈ql.take j.1,j.2[q]?=some true)/\Ae PH.mt m' (.slice (some ⟨g,0,none⟩) T.length T.length) 4 1 (j.2.map Ayi)) (fun j=>ql.length-j.1) (0,L)
   ⟨mV,hL,hall,mV,hA2⟩ ?_
  rintro J2 ⟨j,L2⟩ hJ2 u6 m6 l6 ⟨hj,hL2,hall2,hrow2,hA6⟩;simp only at hj hL2 hall2 hrow2 hA6 hJ2;have le6:=(l3.trans l4).trans l6;have hqat6:=hqat.mono le6;by_cases hltj:j<ql.length
  ·refine G.lT (j:Int) (ql.length:Int) ?_;obtain⟨p,hqj⟩:∃ p,ql[j]?=some p:=⟨_,As5 hltj⟩;have hpn:p<T.length:=hlq _ (Ato hqj);have htkj:ql.take (j+1)=ql.take j++[p]:=by rw[At0,hqj];rfl
   obtain⟨bq,oq,rfl,eq⟩:=Ad.at' hqat6 (j:=j) (e:=.int .i64 (p:Int)) (by simp[Ah,hqj]);refine G.a bq oq ql.length qc j 1 hltj ?_;refine G.lU none bq (oq+j*1) (.int .i64 (p:Int)) eq ?_;refine G.lF (p:Int) 0 ?_;refine G.hF (p:Int) (T.length:Int) ?_;refine G.a g 0 T.length T.length p 1 hpn ?_;refine G.storeA 1 PH.mt (L2.map Ayi) g T.length T.length p (.bool true) kV hA6 (by rw[Ata];omega) rfl rfl ?_;intro m7 hA7;rw[Pg]at hA7;refine G.i j ?_;have hkeep:∀ q,L2[q]?=some true->(L2.set p true)[q]?=some true:=fun q hq=>by
    rw[Au5];split
    ·subst_vars;rw[if_pos oV]
    ·exact hq
   exact G.b (hJ2 (j+1,L2.set p true) _ _ _ cV l6 ⟨dV,by simp[hL2],fun r hr q hq=>hkeep q (hall2 r hr q hq),by
    intro q hq;dsimp only at hq⊢;rw[htkj,Ati,Aub]at hq;rcases hq with hq|rfl
    ·exact hkeep q (hrow2 q hq)
    ·rw[Au5];simp;omega,hA7⟩ dV)
  obtain rfl:j=ql.length:=oV
  refine G.lF (ql.length:Int) (ql.length:Int) ?_;clear hJ2;rw[At9]at hrow2;refine G.l (ι:=Nat) (fun j=>[(1,.p 0 0),(6,sV (some ⟨g,0,none⟩) T.length T.length),(8,.p 19003 0),(12,iV (j+1:Nat)),(88,sV (some ⟨ba,oa,none⟩) R.length xd),(89,iV R.length),(90,iV k)])
   (fun _=>[(0,⟨30,[sV xa T.length xc,sV (some ⟨ba,oa,none⟩) R.length xd,sV xe F.length xf,iV lab]⟩),(19003,⟨155,[tV qs,sV qa ql.length qc]⟩)])
   (fun j u' m'=>j+1<=ql.length/\m'=m6) (fun j=>ql.length-j) 0
   ⟨oV,rfl⟩ ?_
  rintro J3 j hJ3 u8 m8 l8 ⟨hj3,rfl⟩;have hqat8:=hqat6.mono l8;by_cases hltk:j+1<ql.length
  ·refine G.lT ((j+1:Nat):Int) (ql.length:Int) ?_;obtain⟨p1,hq1⟩:∃ p,ql[j]?=some p:=⟨_,As5 oV⟩;obtain⟨p2,hq2⟩:∃ p,ql[j+1]?=some p:=⟨_,As5 hltk⟩;have hlt3:=hasc j _ _ hq1 hq2;obtain⟨bq,oq,rfl,eq2⟩:=Ad.at' hqat8 (j:=j+1) (e:=.int .i64 (p2:Int)) (by simp[Ah,hq2]);obtain⟨_,_,e',eq1⟩:=Ad.at' hqat8 (j:=j) (e:=.int .i64 (p1:Int)) (by simp[Ah,hq1]);cases e';refine G.a bq oq ql.length qc (j+1) 1 hltk ?_;refine G.lU none bq (oq+(j+1)*1) (.int .i64 (p2:Int)) eq2 ?_;refine G.s ((j+1:Nat):Int) 1 (j:Int) ?_;refine G.a bq oq ql.length qc j 1 oV ?_;refine G.lU none bq (oq+j*1) (.int .i64 (p1:Int)) eq1 ?_;refine G.kF (p2:Int) (p1:Int) ?_;refine G.p ((j+1:Nat):Int) 1 ((j+1+1:Nat):Int) ?_;exact G.b (hJ3 (j+1) _ _ _ cV l8 ⟨oV,rfl⟩ oV)
  ·refine G.lF ((j+1:Nat):Int) (ql.length:Int) ?_;refine G.i k ?_;exact G.b (hJ (k+1,L2) _ _ _ cV ((l2.trans le6).trans l8) ⟨dV,hL2,by
    intro r hr q hq;dsimp only at hr hq⊢;rw[htk2,Ati,Aub]at hr;rcases hr with hr|rfl
    ·exact hall2 r hr q hq
    ·exact hrow2 q hq,hA6⟩ dV)
 obtain rfl:i=R.length:=oV
 refine G.lF (R.length:Int) (R.length:Int) ?_;clear hJ;rw[At9]at hall;refine G.l (ι:=Nat) (fun i=>[(1,.p 0 0),(6,sV (some ⟨g,0,none⟩) T.length T.length),(156,sV (some ⟨g,0,none⟩) T.length T.length),(157,iV T.length),(158,iV i)])
  (fun _=>[(0,⟨30,[sV xa T.length xc,sV xb R.length xd,sV xe F.length xf,iV lab]⟩)])
  (fun i u' m'=>i<=T.length/\m'=m2) (fun i=>T.length-i) 0 ⟨oV,rfl⟩ ?_
 rintro J i hJ u3 m3 l3 ⟨hi3,rfl⟩;by_cases hlt3:i<T.length
 ·refine G.lT (i:Int) (T.length:Int) ?_;have hLi:L[i]?=some true:=by
   obtain⟨r,hr,hq⟩:=ok.rel.all i hlt3;exact hall r hr i hq
  refine G.a g 0 T.length T.length i 1 hlt3 ?_;refine G.lM none g (0+i*1) (.bool true) (hA2.el (by rw[Aty,hLi];rfl)) ?_;refine G.i i ?_;exact G.b (hJ (i+1) _ _ _ cV l3 ⟨oV,rfl⟩ oV)
 obtain rfl:i=T.length:=oV
 refine G.lF (T.length:Int) (T.length:Int) ?_;clear hJ;have le3:=le2.trans l3;refine G.l (ι:=Nat) (fun i=>[(1,.p 0 0),(6,sV (some ⟨g,0,none⟩) T.length T.length),(166,sV xe F.length xf),(167,iV F.length),(168,iV i)])
  (fun _=>[(0,⟨30,[sV xa T.length xc,sV xb R.length xd,sV xe F.length xf,iV lab]⟩)])
  (fun i u' m'=>i<=F.length/\m'=m3) (fun i=>F.length-i) 0 ⟨oV,rfl⟩ ?_
 rintro J i hJ u4 m4 l4 ⟨hi4,rfl⟩;have le4:=le3.trans l4;by_cases hlt4:i<F.length
 ·refine G.lT (i:Int) (F.length:Int) ?_;obtain⟨f,hFi⟩:∃ f,F[i]?=some f:=⟨_,As5 hlt4⟩;have hfm:=Ato hFi;obtain⟨fn,fk,hfk,hkind,hfl⟩:=ok.feat.ok f hfm;obtain⟨hf1,_⟩:=Atc.1 hfk;have hnx:(F.map (·.1))[i]?=some f.1:=by rw[Aty,hFi];rfl
  obtain⟨fb,fo,rfl,ef⟩:=Ad.at' (hF.mono le4) (j:=i) (e:=Ce f) (by simp[hFi]);obtain⟨ab,ao,rfl,ea⟩:=Ad.at' (hT.mono le4) (j:=f.1) (e:=Ej (fn,fk)) (by simp[hfk]);obtain⟨p1,p2,p3⟩:=f;simp only at hkind hfl hf1 hnx ea;refine G.a fb fo F.length xf i 3 hlt4 ?_;refine G.lU (some 3) fb (fo+i*3) (.agg #[.int .i64 (p1:Int),.int .i64 (p2:Int),.int .i64 (p3:Int)]) ef ?_;refine G.lF (p1:Int) 0 ?_;refine G.hF (p1:Int) (T.length:Int) ?_;refine G.joinF (ι:=Unit) (fun st=>Lf prog (Ad3 prog st [.bool false,.bool true,.bool true,undef,undef,undef,.bool true])) (fun _=>[(1,.p 0 0),(6,sV (some ⟨g,0,none⟩) T.length T.length),(15,iV i),(16,.p 50003 0),(166,sV (some ⟨fb,fo,none⟩) F.length xf),(167,iV F.length),(168,iV i)])
   (fun _=>[(0,⟨30,[sV (some ⟨ab,ao,none⟩) T.length xc,sV xb R.length xd,sV (some ⟨fb,fo,none⟩) F.length xf,iV lab]⟩),(50003,⟨82,[iV p1,iV p2,iV p3]⟩)])
   (fun _ u' m'=>u'=u4/\m'=m4) (fun _=>kV) kV ?tail ?way
  case way =>
   intro hjoin;rcases hkind with ⟨rfl,rfl,hp3⟩|⟨rfl,rfl,rfl⟩
   ·refine G.eT ((1:Nat):Int) 1 ?_;rcases (by omega:p3=0\/p3=1) with rfl|rfl
    ·refine G.eT ((0:Nat):Int) 0 ?_;refine G.a ab ao T.length xc p1 2 hf1 ?_;refine G.f 77 ab (ao+p1*2) 1 1 ?_;refine G.lU none ab (ao+p1*2+1) (.int .i64 ((2:Nat):Int)) (Jv ea) ?_;refine G.eT ((2:Nat):Int) 2 ?_;refine G.eF ((1:Nat):Int) 2 ?_;refine G.pastI ?_;exact hjoin () _ _ _ kV cV (PH.le_refl _) ⟨rfl,rfl⟩
    ·refine G.eF ((1:Nat):Int) 0 ?_;refine G.eT ((1:Nat):Int) 1 ?_;refine G.a ab ao T.length xc p1 2 hf1 ?_;refine G.f 77 ab (ao+p1*2) 1 1 ?_;refine G.lU none ab (ao+p1*2+1) (.int .i64 ((2:Nat):Int)) (Jv ea) ?_;refine G.eT ((2:Nat):Int) 2 ?_;refine G.eF ((1:Nat):Int) 2 ?_;refine G.pastI ?_;exact hjoin () _ _ _ kV cV (PH.le_refl _) ⟨rfl,rfl⟩
   ·refine G.eF ((2:Nat):Int) 1 ?_;refine G.eT ((2:Nat):Int) 2 ?_;refine G.eT ((0:Nat):Int) 0 ?_;refine G.a ab ao T.length xc p1 2 hf1 ?_;refine G.f 77 ab (ao+p1*2) 1 1 ?_;refine G.lU none ab (ao+p1*2+1) (.int .i64 ((3:Nat):Int)) (Jv ea) ?_;refine G.eT ((3:Nat):Int) 3 ?_;refine G.pastI ?_;exact hjoin () _ _ _ kV cV (PH.le_refl _) ⟨rfl,rfl⟩
  rintro _ u5 m5 _ ⟨rfl,rfl⟩;refine G.l (ι:=Nat) (fun k=>[(1,.p 0 0),(6,sV (some ⟨g,0,none⟩) T.length T.length),(15,iV i),(16,.p 50003 0),(19,iV k),(166,sV (some ⟨fb,fo,none⟩) F.length xf),(167,iV F.length),(168,iV i)])
   (fun _=>[(0,⟨30,[sV (some ⟨ab,ao,none⟩) T.length xc,sV xb R.length xd,sV (some ⟨fb,fo,none⟩) F.length xf,iV lab]⟩),(50003,⟨82,[iV p1,iV p2,iV p3]⟩)])
   (fun k u' m'=>k<=i/\m'=m5) (fun k=>i-k) 0 ⟨oV,rfl⟩ ?_
  rintro J2 k hJ2 u6 m6 l6 ⟨hk,rfl⟩;by_cases hlk:k<i
  ·refine G.lT (k:Int) (i:Int) ?_;obtain⟨y,hFk⟩:∃ y,F[k]?=some y:=⟨_,As5 oV⟩;have hny:(F.map (·.1))[k]?=some y.1:=by rw[Aty,hFk];rfl
   have hne:y.1≠p1:=fun e=>Nat.ne_of_lt hlk (Akb ok.feat.nodup hny (by rw[hnx,e]));obtain⟨_,_,e',ek⟩:=Ad.at' (hF.mono (le4.trans l6)) (j:=k) (e:=Ce y) (by simp[hFk]);cases e';refine G.a fb fo F.length xf k 3 oV ?_;refine G.f 82 fb (fo+k*3) 0 0 ?_;refine G.lU none fb (fo+k*3+0) (.int .i64 (y.1:Int)) (ek.fld rfl rfl) ?_;refine G.eF (y.1:Int) (p1:Int) ?_;refine G.i k ?_;exact G.b (hJ2 (k+1) _ _ _ cV l6 ⟨oV,rfl⟩ oV)
  ·obtain rfl:k=i:=oV
   refine G.lF (k:Int) (k:Int) ?_;refine G.eF' (p1:Int) lab hfl ?_;refine G.i k ?_;exact G.b (hJ (k+1) _ _ _ cV (l4.trans l6) ⟨oV,rfl⟩ oV)
 obtain rfl:i=F.length:=oV
 refine G.lF (F.length:Int) (F.length:Int) ?_;refine G.drop PH.mt kV (PH.mt_le _) ?_;refine G.lF lab (-1) ?_;refine G.hF lab (T.length:Int) ?_;rcases Axn lab 0 with hneg|hge
 ·refine G.hF lab 0 ?_;exact G.r (.int .i64 0) ⟨rfl,rfl⟩
 ·refine G.hT lab 0 ?_;obtain⟨l,rfl⟩:∃ l:Nat,lab=(l:Int):=⟨lab.toNat,oV⟩;obtain⟨n,hn⟩:=ok.l2 l rfl;obtain⟨bb,ob,rfl,eb⟩:=Ad.at' (hT.mono le4) (j:=l) (e:=Ej (n,2)) (by simp[hn]);refine G.a bb ob T.length xc l 2 oV ?_;refine G.f 77 bb (ob+l*2) 1 1 ?_;refine G.lU none bb (ob+l*2+1) (.int .i64 ((2:Nat):Int)) (Jv eb) ?_;refine G.nF ((2:Nat):Int) 2 ?_;exact G.r (.int .i64 0) ⟨rfl,rfl⟩
end
section
variable {u:PH}
theorem Ani {l:List Nat}{i:Nat}(h:i<l.length):l.drop i=l.getD i 0::l.drop (i+1):=by
 rw[List.drop_eq_getElem_cons h];simp[As7,As5 h]
theorem Aar (l:List Nat):∀ k,val (l.drop k)<=val l:=by
 induction l with
 |nil=>intro k;simp
 |cons a l ih =>
  intro k;cases k with
  |zero=>simp
  |succ k =>
   have:=ih k;simp only[List.drop_succ_cons,val];omega
theorem Ml {z:Int}(hz:z.natAbs<1000000000000000000):Fn0 prog 141 [.string (mkS (Atn z))] u fun v _=>v=.tuple #[.int .i64 z,.bool true]:=by
 have hd:=Mu hz;refine Fn0.o func141 ?_;refine G.c call186 (Qo hd) ?_;rintro v1 u1 l1 rfl;refine G.c call65 (Lr hd) ?_;intro v2 u2 l2 k2;obtain⟨b,a,n,c,rfl,hb,hi⟩:=k2.opn;obtain⟨rfl,hc⟩:=hi.len;refine G.c call58 (Ael (n:=4611686018427387904) oV oV) ?_;intro v3 u3 l3 k3;obtain⟨b',a',n',c',rfl,hb',hi'⟩:=k3.opn;obtain⟨rfl,hc'⟩:=hi'.len;have hnl:nl z.natAbs<=400:=Bi hd;have hnl2:nl (4611686018427387904:Int).natAbs<=400:=Bi jV;refine G.c call132 (Kd (hi.mono l3) hi' oV oV) ?_;rintro v4 u4 l4 rfl;have hs:sgn (((z.natAbs:Nat):Int)-(((4611686018427387904:Int).natAbs:Nat):Int))<=0:=by
  unfold sgn;have:((4611686018427387904:Int).natAbs:Int)=4611686018427387904:=fV
  split
  ·omega
  ·split<;>omega
 refine G.gF (sgn (((z.natAbs:Nat):Int)-(((4611686018427387904:Int).natAbs:Nat):Int))) 0 ?_;have hnl':(Aa z.natAbs).length<=400:=hnl;refine G.s ((Aa z.natAbs).length:Int) 1 ((Aa z.natAbs).length-1:Int) ?_;refine G.l (ι:=Int×Nat) (fun i=>[(4,.p 3002 0),(6,iV i.2),(7,iV i.1)]) (fun _=>[(3002,⟨55,[bV b,sV a (Aa z.natAbs).length c]⟩)])
  (fun i u' m'=>-1<=i.1/\i.1<(Aa z.natAbs).length/\i.2=val ((Aa z.natAbs).drop (i.1+1).toNat)/\m'=PH.mt) (fun i=>(i.1+1).toNat) (((Aa z.natAbs).length-1:Int),0) ⟨dV,dV,by
   dsimp only;rw[show (((Aa z.natAbs).length:Int)-1+1).toNat=(Aa z.natAbs).length by omega,List.drop_length];rfl,rfl⟩ ?_
 rintro J ⟨i,s⟩ hJ u5 m5 l5 ⟨h1,h2,hsv,rfl⟩;simp only at h1 h2 hsv hJ;have hvz:=Ai z.natAbs;by_cases hi0:0<=i
 ·obtain⟨k,rfl⟩:∃ k:Nat,i=(k:Int):=⟨i.toNat,oV⟩;have hkl:k<(Aa z.natAbs).length:=oV
  rw[show ((k:Int)+1).toNat=k+1 by omega]at hsv;have hdr:=Ani hkl;have hle:=Aar (Aa z.natAbs) k;rw[hvz,hdr]at hle;simp only[val]at hle;rw[<-hsv]at hle;refine G.hT (k:Int) 0 ?_;refine G.mul (s:Int) 1000000000 ((s*1000000000:Nat):Int) kV oV oV oV ?_;obtain⟨bb,off,rfl,e⟩:=(hi.mono ((l3.trans l4).trans l5)).at hkl;refine G.a bb off (Aa z.natAbs).length c k 1 hkl ?_;refine G.lU none bb (off+k*1) (.int .i64 ((Aa z.natAbs).getD k 0:Nat)) e ?_;generalize hg:(Aa z.natAbs).getD k 0=d at hdr hle;refine G.p ((s*1000000000:Nat):Int) (d:Int) ((s*1000000000+d:Nat):Int) ?_;refine G.s (k:Int) 1 ((k:Int)-1) ?_;exact G.b (hJ ((k:Int)-1,s*1000000000+d) _ _ _ cV l5 ⟨dV,dV,by
   dsimp only;rw[show ((k:Int)-1+1).toNat=k by omega,hdr];simp only[val];rw[<-hsv];omega,rfl⟩ dV)
 ·obtain rfl:i = -1:=oV
  refine G.hF (-1) 0 ?_;have hs2:s=z.natAbs:=by rw[hsv,show ((-1:Int)+1).toNat=0 by decide,List.drop_zero,hvz]
  subst hs2;cases b with
  |true =>
   have hneg:z<0:=by simpa using hb.symm
   refine G.neg ((z.natAbs:Nat):Int) z kV oV oV oV ?_;exact G.r (.tuple #[.int .i64 z,.bool true]) ⟨rfl,rfl⟩
  |false =>
   have hnn:¬ z<0:=by simpa using hb.symm
   have hzz:((z.natAbs:Nat):Int)=z:=oV
   refine G.r (.tuple #[.int .i64 ((z.natAbs:Nat):Int),.bool true]) ⟨rfl,by rw[hzz]⟩
theorem Arw (z:Int):Ap (z:Rat)=Atn z:=by
 unfold Ap;simp
theorem Aiz {x:List UInt8×Nat}{t:List UInt8}(h1:1<=x.2)(h3:x.2<=3)(hv:Rg x.2 t):Fn0 prog 79 [Ej x,.string (mkS t)] u fun v _=>v=.bool true:=by
 obtain⟨s,k⟩:=x;simp only at h1 h3 hv;refine Fn0.o func79 ?_;refine G.lF (k:Int) 1 ?_;refine G.gF (k:Int) 3 ?_;by_cases ht:t = []
 ·refine G.q t [] ht ?_;exact G.r (.bool true) ⟨rfl,rfl⟩
 refine G.w t [] ht ?_;rcases hv with e|⟨rfl,hw⟩|⟨rfl,z,hz,rfl⟩|⟨rfl,q,hq,rfl⟩
 ·exact absurd e ht
 ·refine G.eT ((3:Nat):Int) 3 ?_;refine G.c call78 (Pd hw) ?_;rintro v1 u1 l1 rfl;exact G.r (.bool true) ⟨rfl,rfl⟩
 ·refine G.eF ((1:Nat):Int) 3 ?_;have hp:=Qr (u:=u) (q:=(z:Rat)) ⟨Mu (by simpa using (by omega:z.natAbs<1000000000000000000)),by simp;decide +kernel⟩;rw[Arw]at hp;simp only[Rat.num_intCast,Rat.den_intCast]at hp;refine G.c call126 hp ?_;rintro v1 u1 l1 rfl;refine G.eT ((1:Nat):Int) 1 ?_;refine G.y (Atn ((1:Nat):Int)) [49] jV ?_;refine G.c call141 (Ml (z:=z) oV) ?_;rintro v2 u2 l2 rfl;refine G.c call141 (Ml (z:=((1:Nat):Int)) oV) ?_;rintro v3 u3 l3 rfl;refine G.hT z (-1000000000) ?_;refine G.kT z 1000000000 ?_;refine G.kT ((1:Nat):Int) 12 ?_;exact G.r (.bool true) ⟨rfl,rfl⟩
 ·have hdt:=hq.dat;have hn:=hdt.num;have hdn:=hdt.den;refine G.eF ((2:Nat):Int) 3 ?_;refine G.c call126 (Qr hdt.tx) ?_;rintro v1 u1 l1 rfl;refine G.eF ((2:Nat):Int) 1 ?_;refine G.c call141 (Ml (z:=q.num) oV) ?_;rintro v2 u2 l2 rfl;refine G.c call141 (Ml (z:=(q.den:Int)) oV) ?_;rintro v3 u3 l3 rfl;refine G.hT q.num (-1000000000) ?_;refine G.kT q.num 1000000000 ?_;refine G.kT (q.den:Int) 12 ?_;exact G.r (.bool true) ⟨rfl,rfl⟩
theorem Ai3 {v tv:Value}{T:List (List UInt8×Nat)}{R:List Ch}{F:List Aq}{lab:Int}{ss:List (List UInt8)}(h:Ahb u v tv T R F lab ss) :
 Fn0 prog 31 [v,tv] u fun r _=>r=.int .i64 0:=by
 have hck:=fun (u':PH) (l:PH.le u u')=>Qt (h.sch.mono l) (h.ok.mono l);obtain⟨⟨xa,xc,xb,xd,xe,xf,rfl,hTL,hRL,hFL⟩,ok,hS,hT⟩:=h;obtain⟨ya,yc,rfl⟩:=hS.opn;rw[Ata]at hS⊢;have hlen:=hT.len;have t2:=ok.t2;refine Fn0.o func31 ?_;refine G.c call29 (hck u (PH.le_refl _)) ?_;rintro v1 u1 l1 rfl;refine G.nF 0 0 ?_;refine G.nF (ss.length:Int) (T.length:Int) ?_;refine G.l (ι:=Nat) (fun i=>[(2,.p 0 0),(19,sV ya ss.length yc),(20,iV ss.length),(21,iV i)])
  (fun _=>[(0,⟨30,[sV xa T.length xc,sV xb R.length xd,sV xe F.length xf,iV lab]⟩)])
  (fun i u' m'=>i<=ss.length/\m'=PH.mt) (fun i=>ss.length-i) 0 ⟨oV,rfl⟩ ?_
 rintro J i hJ u2 m2 l2 ⟨hi,rfl⟩;have le2:=l1.trans l2;by_cases hlt:i<ss.length
 ·refine G.lT (i:Int) (ss.length:Int) ?_;obtain⟨b,off,rfl,e⟩:=Age (hS.mono le2) hlt;refine G.a b off ss.length yc i 1 hlt ?_;refine G.lU none b (off+i*1) (.string (mkS (ss.getD i []))) e ?_;have hTi:T[i]?=some T[i]:=As5 oV;have hk:=ok.att.kind T[i] (Ath oV);have hv:=hT.val i _ _ hTi (As5 hlt);rw[show ss[i]=ss.getD i [] by simp[As7,As5 hlt]]at hv;obtain⟨ba,oa,rfl,ea⟩:=Ad.at' (hTL.mono le2) (j:=i) (e:=Ej T[i]) (by simp[hTi]);generalize T[i]=x at hTi hk hv ea;refine G.a ba oa T.length xc i 2 oV ?_;refine G.lU (some 2) ba (oa+i*2) (Ej x) ea ?_;refine G.c call79 (Aiz hk.1 hk.2 hv) ?_;rintro v3 u3 l3 rfl;refine G.i i ?_;exact G.b (hJ (i+1) _ _ _ cV (l2.trans l3) ⟨oV,rfl⟩ oV)
 ·obtain rfl:i=ss.length:=oV
  refine G.lF (ss.length:Int) (ss.length:Int) ?_;exact G.r (.int .i64 0) ⟨rfl,rfl⟩
end
end Go.Proofs.YtnafchoihfnkeaaGreatDoor
