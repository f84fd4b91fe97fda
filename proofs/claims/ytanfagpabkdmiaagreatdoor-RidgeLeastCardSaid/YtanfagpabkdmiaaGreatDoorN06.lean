/- Parts of one proof, joined by a program. -/
import Derived.Test.YtanfagpabkdmiaaGreatDoorN05
import Derived.Lib.ConvBytes
import Derived.MapKept
import Derived.Laws.IdiomRangeMap
set_option linter.unusedVariables false
set_option linter.unusedSimpArgs false
set_option linter.unusedSectionVars false
set_option maxHeartbeats 16000000
namespace Go.Proofs.YtanfagpabkdmiaaGreatDoor
open Go.Proofs.Tryz
open Go.RowKit
open _root_.Array renaming getElem?_eq_none -> A3l, getElem?_toList -> A6k, range -> A6d
open Instr renaming findAsking -> A9a, findKey -> Bcc, findNow -> A6p, keyThatStays -> Bau, lookup -> Bcl, mapUpdate -> A9k, sameNow -> Bac, sureAddr -> A3x
open Int renaming lt_tmod_of_pos -> Bat, natAbs_mul -> A30, natAbs_natCast -> A1z, tmod_lt_of_pos -> Bas
open Lib renaming bytesCells -> A50, bytesWorld_at_old -> A9v, bytesWorld_size -> Bah, itoa -> A1a, nDigits -> A1v, nDigits_small -> A5a, trimPrefix -> A9w
open List renaming Perm.cons -> A42, Perm.swap -> A4s, append_nil -> A1i, cons.injEq -> A18, drop_of_length_le -> A1u, ext_getElem? -> A4g, getD_eq_getElem?_getD -> A0o, getElem?_append_left -> A1d, getElem?_append_right -> A1s, getElem?_eq_getElem -> A0n, getElem?_eq_none -> A1g, getElem?_eq_some_iff -> A0s, getElem?_map -> A0v, getElem?_replicate -> A54, getElem?_set -> A25, getElem_mem -> A04, length_append -> A0z, length_drop -> A5e, length_map -> A0p, length_replicate -> A3e, length_take -> A00, map_append -> A07, map_cons -> A1y, map_set -> A27, mem_append -> A01, mem_cons -> A02, mem_iff_getElem -> A2u, mem_map -> A0u, mem_of_mem_drop -> A3k, mem_of_mem_take -> A2r, nil_append -> A2t, replicate -> A0x, replicate_zero -> A5c, take_add_one -> A1c, take_append_drop -> A37, take_length -> A1k, take_of_length_le -> A03, toList_toArray -> A2z
open Nat renaming add_mul -> A1o, add_zero -> A3f, beq -> A17, dvd_lcm_left -> A7v, dvd_trans -> A8v, eq_of_beq_eq_true -> A1h, eq_zero_or_pos -> A1p, lcm -> Bb3, le_of_dvd -> A5s, le_refl -> A0w, le_trans -> A0q, lt_of_lt_of_le -> A2e, lt_or_ge -> A11, min -> A4m, min_le_left -> Bbu, min_le_right -> A7w, mul_le_mul -> A3j, mul_le_mul_right -> A12, sub_self -> A45, sub_zero -> A6i, zero_add -> A2b, zero_le -> A1m
open Option renaming map_eq_some_iff -> A4x, map_some -> A3h, some.inj -> A2d, some.injEq -> A0t
open Prod renaming mk.injEq -> A1r
open Rat renaming divInt -> A2m
open Result renaming andThen_ok -> A0y
open Sem renaming run_bind -> A1n, run_pure -> A3g
open Value renaming cells -> A1e, int -> A15, slice -> A06, slice.injEq -> A09
section
section rules
variable [Cc] {P:Program} [Ba P] {fn:Func} {Post:B0} {st:List KI×S} {u m:PH}
theorem Bx.heap {w w':World}(h:Bx u m w)(e:∀ g:Nat,w'.heap[g]?=w.heap[g]?):Bx u m w' :=
 ⟨fun g o hg=>by rw[e];exact h.pu g o hg,fun g o hg=>by rw[e];exact h.pm g o hg,h.ap,fun g cs t fr j z hg hj=>h.cl g cs t fr j z (by rw[<-e];exact hg) hj⟩
theorem G.convSB (d:Option TypeDesc)(e:TypeId)(l:List UInt8)(h:Al P (adv P st)=.conv d (some (.slice e)) (.string (mkS l)))(hd:d.isSome=true)(he:P.underlying e=some (.int .u8))
 (k:∀ v u',PH.le u u'->Ab u' v 1 (Bc l)->G P fn Post (nx (adv P st) v) u' m):G P fn Post st u m:=by
 refine G.big (K:=fun v' u' m'=>m'=m/\Ab u' v' 1 (Bc l)) h mV (fun env op hv=>?_) (.inl fun v u' m' hk=>by rw[hk.1];exact PH.le_refl _) (fun env o hview w hgd=>?_) (fun v' u' m' hle hk=>?_)
 ·obtain⟨s,d',X,rfl,_,_,e4⟩:=Ja hv;exact V1 e4 mV
 ·obtain⟨s,d',X,e1,e2,e3,e4⟩:=Ja hview;obtain⟨dst,opp,type,pos,after,guard⟩:=o;simp only at e1;subst e1;obtain⟨dd,rfl⟩:=Option.isSome_iff_exists.1 hd;have hr:=Lib.run_convert_string_bytes (P:=P) w s d' e (mkS l) e3 e4 he;have hsz:(mkS l).size=l.length:=Go.Lib.size_mk l;obtain⟨g1,g2,g3,g4⟩:=hgd.newU (.cells (A50 w e (mkS l)) e ((A50 w e (mkS l)).size,(A50 w e (mkS l)).size+1));have hh:∀ g:Nat,(Lib.bytesWorld w e (mkS l)).heap[g]?=(w.alloc (.cells (A50 w e (mkS l)) e ((A50 w e (mkS l)).size,(A50 w e (mkS l)).size+1))).heap[g]?:=by
   intro g;rcases Nat.lt_trichotomy g w.heap.size with h1|h1|h1
   ·rw[A9v w e _ g h1,A9 _ _ h1]
   ·subst h1;rw[Lib.bytesWorld_at_new,Ca]
   ·rw[A3l (by rw[Bah];omega),A3l (by rw[Br];omega)]
  refine Bq (by simp[execOp,e2,hr];rfl) ⟨_,m,g1.heap hh,⟨by rw[Bah];omega,fun g hg hm=>A9v w e _ g hg,g2.us,g2.ms,⟨rfl,rfl⟩,fun _=>⟨rfl,by first|exact A0w _|exact Nat.le_succ _⟩⟩,rfl,?_⟩
  refine⟨some ⟨w.heap.size,0,none⟩,grownCap w l.length 0 e,by rw[Aw,hsz],by rw[Aw];exact grownCap_ge w _ _ e,fun j x hj=>⟨_,0,rfl,fun i y hy=>⟨_,_,_,Ac _ _ _,?_⟩⟩⟩;have hjl:j<l.length:=by
   rcases A11 j l.length with h'|h'
   ·exact h'
   ·rw[A1g (by rw[Aw];exact h')]at hj;cases hj
  rw[F6 hjl]at hj;simp only[A0t]at hj;subst hj;have:i=0/\y=.int .u8 ((l.getD j 0).toNat:Int):=by
   match i,hy with
   |0,hy=>simp[A1e]at hy;simp[hy]
  obtain⟨rfl,rfl⟩:=this;simp[A50,Array.getElem?_append,hjl,List.getD]
 ·obtain⟨rfl,hk⟩:=hk;exact k v' u' hle hk
end rules
theorem Z7 {u:PH}{s p:List UInt8}:Fn0 prog 265 [.string (mkS s),.string (mkS p)] u fun v _=>v=.string (mkS (A9w s p)) :=
 Fn0.ofW (fun v _=>v=.string (mkS (A9w s p))) (fun w _=>(Tryz.strings_TrimPrefix (mkS s) (mkS p) w).mono fun _ _ ⟨e,h⟩=>⟨_,e,rfl,by rw[h];exact Ext.refl _⟩) (fun _ _ _ h _ _ _=>h)
theorem I1 {u:PH}{z:Int}(h:A1v z.natAbs<=400):Fn0 prog 220 [.string (mkS (A1a z))] u fun v _=>v=.bool true:=by
 refine Fn0.o func220 ?_;by_cases h0:z=0
 ·subst h0;refine G.q (A1a 0) [48] Dt ?_;exact G.r (.bool true) ⟨rfl,rfl⟩
 refine G.w (A1a z) [48] (fun e=>h0 (Gv (e.trans Dt.symm))) ?_;refine G.c call265 (Z7 (s:=A1a z) (p:=[45])) ?_;rintro v1 u1 l1 rfl;have hdl:=Lib.decDigits_length z.natAbs;have hdp:=Lib.nDigits_pos z.natAbs;have hdd:=Mc z.natAbs;obtain⟨b0,hb0,hb1,hb2⟩:=M5 (z:=(z.natAbs:Int)) oV oV;rw[S5]at hb0;rw[C4 z,(Io hdd (Hy _)).1];generalize hL:Lib.decDigits z.natAbs=L at *
 have hsize:(mkS L).size=L.length:=Go.Lib.size_mk _;refine G.w L [] (by intro e;rw[e]at hdl;simp at hdl;omega) ?_;refine G.gF (L.length:Int) 400 ?_;refine G.idxS L 0 b0 kV hb0 ?_;refine G.cmpG .eql .u8 (b0.toNat:Int) 48 false kV rfl (by simp only[B4,decide_eq_false_iff_not];omega) ?_;refine G.convSB (some .string) 5 L kV rfl kV ?_;intro v2 u2 l2 k2;obtain⟨a,c,rfl⟩:=Ab.opn k2;rw[Aw]at k2⊢;refine G.l (ι:=Nat) (fun i=>[(23,sV a L.length c),(24,iV L.length),(25,iV i)]) (fun _=>[]) (fun i _ m'=>i<=L.length/\m'=PH.mt) (fun i=>L.length-i) 0 ⟨oV,rfl⟩ ?_;rintro J i hJ u' m' hle ⟨hi,rfl⟩;by_cases hlt:i<L.length
 ·refine G.lT (i:Int) (L.length:Int) ?_;have hg:=Jc hdd hlt;obtain⟨ba,oa,rfl,ea⟩:=Ab.at' (Ab.mono k2 hle) (j:=i) (F6 hlt);refine G.a ba oa L.length c i 1 oV ?_;refine G.lU none ba (oa+i*1) (.int .u8 ((L.getD i 0).toNat:Int)) ea ?_;refine G.cmpG .lss .u8 ((L.getD i 0).toNat:Int) 48 false kV rfl (by simp only[B4,decide_eq_false_iff_not];omega) ?_;refine G.cmpG .gtr .u8 ((L.getD i 0).toNat:Int) 57 false kV rfl (by simp only[B4,decide_eq_false_iff_not];omega) ?_;refine G.i i ?_;exact G.b (hJ (i+1) _ _ _ cV hle ⟨oV,rfl⟩ oV)
 ·refine G.lF (i:Int) (L.length:Int) ?_;exact G.r (.bool true) ⟨rfl,rfl⟩
end
section
variable {q:Rat}{qs:List Rat}{u:PH}{v:Value}{z:Int}
theorem Aab (h:A1v z.natAbs<=400):Fn0 prog 266 [.string (mkS (A1a z))] u fun v u'=>Cb u' v z:=by
 refine Fn0.o func266 ?_;refine G.c call163 (Hn h) ?_;intro v2 u2 l2 k2;obtain⟨b2,a2,n2,c2,rfl⟩:=k2.opn;exact G.r (.agg #[.bool b2,.slice a2 n2 c2]) ⟨rfl,k2⟩
theorem Z8 {y z:Int}(h:A1v y.natAbs<=400)(h':A1v z.natAbs<=400):Fn0 prog 221 [.string (mkS (A1a y)),.string (mkS (A1a z))] u fun v _=>v=.int .i64 (sgn (y-z)):=by
 refine Fn0.o func221 ?_;refine G.c call220 (I1 h) ?_;rintro v1 u1 l1 rfl;refine G.c call220 (I1 h') ?_;rintro v2 u2 l2 rfl;refine G.c call266 (Aab h) ?_;intro v3 u3 l3 k3;obtain⟨b3,a3,n3,c3,rfl⟩:=k3.opn;refine G.c call266 (Aab h') ?_;intro v4 u4 l4 k4;obtain⟨b4,a4,n4,c4,rfl⟩:=k4.opn;refine G.c call127 (Gs (k3.mono l4) k4 (A0q (Ms h) oV) (A0q (Ms h') oV)) ?_;rintro v5 u5 l5 rfl;exact G.r _ ⟨rfl,rfl⟩
theorem Aqm (h:Tx q):Fn0 prog 154 [.string (mkS (Af q))] u fun v _=>v=.bool true:=by
 refine Fn0.o func154 ?_;refine G.c call162 (App h) ?_;rintro v1 u1 l1 rfl;refine G.c call220 (I1 h.1) ?_;rintro v2 u2 l2 rfl;by_cases hd:q.den=1
 ·rw[if_pos hd,decide_eq_false (by simp[hd])];refine G.c call220 (I1 h.1) ?_;rintro v3 u3 l3 rfl;exact G.r (.bool true) ⟨rfl,rfl⟩
 ·rw[if_neg hd,decide_eq_true hd];have hn:=Ai0 hd;have hdn:=q.den_nz;refine G.w (A1a q.num) [48] (fun e=>hn (Gv (e.trans Dt.symm))) ?_;refine G.c call220 (I1 h.den) ?_;rintro v3 u3 l3 rfl;have hc:=Z8 (u:=u3) (y:=(q.den:Int)) (z:=1) h.den (by rw[A5a fV];omega);rw[Gu]at hc;refine G.c call221 hc ?_;rintro v4 u4 l4 rfl;refine G.kF' (sgn ((q.den:Int)-1)) 0 (by rw[B9 oV];omega) ?_;refine G.c call163 (Hn h.1) ?_;intro v5 u5 l5 k5;obtain⟨b5,a5,n5,c5,rfl⟩:=k5.opn;refine G.c call163 (Hn h.den) ?_;intro v6 u6 l6 k6;obtain⟨b6,a6,n6,c6,rfl⟩:=k6.opn;refine G.c call195 (Aeo (k5.mono l6) k6 (A0q (Ms h.1) oV) (A0q (Ms h.den) oV)) ?_;intro v7 u7 l7 k7;rw[show Nat.gcd q.num.natAbs ((q.den:Int)).natAbs=1 from q.reduced]at k7;obtain⟨b7,a7,n7,c7,rfl⟩:=k7.opn;refine G.c call177 (Tz (z:=1) oV oV) ?_;intro v8 u8 l8 k8;obtain⟨b8,a8,n8,c8,rfl⟩:=k8.opn;refine G.c call127 (Gs (k7.mono l8) k8 (A0q Pw oV) (A0q Pw oV)) ?_;rintro v9 u9 l9 rfl;refine G.eT' (sgn (((1:Nat):Int)-1)) 0 fV ?_;exact G.r (.bool true) ⟨rfl,rfl⟩
theorem Ayv (h:Tx q):Fn0 prog 305 [.string (mkS (Af q))] u fun v _=>v=.bool false:=by
 refine Fn0.o func305 ?_;refine G.c call154 (Aqm h) ?_;rintro v1 u1 l1 rfl;exact G.r (.bool false) ⟨rfl,rfl⟩
theorem Auj (h:Tx q):Fn0 prog 213 [.string (mkS (Af q))] u fun v _=>v=.bool false:=by
 refine Fn0.o func213 ?_;refine G.c call154 (Aqm h) ?_;rintro v1 u1 l1 rfl;exact G.r (.bool false) ⟨rfl,rfl⟩
theorem Avk (h:Fe u v (qs.map Af))(hq:∀ q∈qs,Tx q)(hl:qs.length<=1000000):Fn0 prog 260 [v] u fun v' _=>v'=.bool true:=by
 obtain⟨a,c,rfl⟩:=Ab.opn h;refine Fn0.o func260 ?_;refine G.c call152 (Arg (fid:=305) h (by simpa using hl) call305 (fun t ht u' _=>?_)) ?_
 ·obtain⟨q,hq',rfl⟩:=A0u.1 ht;exact Ayv (hq q hq')
 ·rintro v1 u1 l1 rfl;exact G.r (.bool true) ⟨rfl,rfl⟩
theorem Auz (h:Fe u v (qs.map Af))(hq:∀ q∈qs,Tx q)(hl:qs.length<=1000000):Fn0 prog 147 [v] u fun v' _=>v'=.bool true:=by
 obtain⟨a,c,rfl⟩:=Ab.opn h;refine Fn0.o func147 ?_;refine G.c call152 (Arg (fid:=213) h (by simpa using hl) call213 (fun t ht u' _=>?_)) ?_
 ·obtain⟨q,hq',rfl⟩:=A0u.1 ht;exact Auj (hq q hq')
 ·rintro v1 u1 l1 rfl;exact G.r (.bool true) ⟨rfl,rfl⟩
end
section
end
section
variable {g j k:Nat}{x:SV}
variable [Cc] [Dy]
def SV.pub (k g:Nat):SV->SV
 |.p j off=>cond (A17 j k) (.v (.pointer (some ⟨g,off,none⟩))) (.p j off)
 |x=>x
def Blk.pub (k g:Nat)(b:Blk):Blk:=⟨b.t,b.cells.map (SV.pub k g)⟩
def S.pub (s:S)(k g:Nat):S:={ n:=s.n,tm:=fun d=>(s.tm d).pub k g,hp:=fun j=>cond (A17 j k) none ((s.hp j).map (Blk.pub k g)) }
theorem SV.pub_den (k:Nat)(ρ:Nat->Nat)(x:SV):(x.pub k (ρ k)).den ρ=x.den ρ:=by
 cases x with
 |junk=>rfl
 |v x=>rfl
 |p j off =>
  cases hb:A17 j k with
  |true=>have:=A1h hb;subst this;simp[SV.pub,SV.den]
  |false=>simp[SV.pub,hb]
theorem SV.pub_junk :x.pub k g≠.junk↔x≠.junk:=by
 cases x with
 |junk=>simp[SV.pub]
 |v x=>simp[SV.pub]
 |p j off=>cases hb:A17 j k<;>simp[SV.pub,hb]
theorem SV.pub_p {k g j off:Nat}(h:x.pub k g=.p j off):x=.p j off/\j≠k:=by
 cases x with
 |junk=>cases h
 |v x=>cases h
 |p j' off' =>
  cases hb:A17 j' k with
  |true=>simp[SV.pub,hb]at h
  |false =>
   simp[SV.pub,hb]at h;obtain⟨rfl,rfl⟩:=h;exact⟨rfl,fun e=>by subst e;simp at hb⟩
theorem Kx (s:S)(k g:Nat):(s.pub k g).hp k=none:=by simp[S.pub]
theorem I3 (s:S)(h:j≠k):(s.pub k g).hp j=(s.hp j).map (Blk.pub k g):=by
 have:A17 j k=false:=by rw[<-Bool.not_eq_true];exact fun hh=>h (A1h hh)
 simp[S.pub,this]
section rules
variable {c:Cx} {s:S} {u m:PH} {ρ:Nat->Nat} {a:Act} {w:World}
theorem Rel.pub (h:Rel c s u m ρ a w){k:Nat}{t:TypeId}{xs:List Value}(hk:s.hp k=some ⟨t,xs.map SV.v⟩):Rel c (s.pub k (ρ k)) u (m.upd (ρ k) (.cells xs.toArray t (0,0))) ρ a w:=by
 obtain⟨⟨cs,e1,e2,e3⟩,e4,e5,e6⟩:=h.box k _ hk;have hcs:cs=xs.toArray:=by
  apply Array.ext
  ·simpa using e2
  ·intro i h1 h2;have:=e3 i (.v xs[i]) (by simp at h2;simp[h2]) mV;rw[Array.getElem?_eq_getElem h1]at this;simpa[SV.den] using this
 subst hcs;have hne:∀ j,s.hp j≠none->j≠k->ρ j≠ρ k:=fun j hj hjk e=>hjk (h.inj j k hj (by rw[hk];simp) e);refine⟨h.sz,fun d hd=>?_,h.df.of fun r e _ hu hm=>⟨e,hu,by rw[Ad _ _ (fun e'=>by rw[e',e1]at e;cases e)];exact hm⟩,fun j b hb=>?_,fun i j hi hj he=>?_,⟨fun d j off hd=>?_,fun i b j off hi hm=>?_⟩,⟨h.gd.pu,fun g o hg=>?_,fun g=>?_,h.gd.cl⟩,⟨h.gr.sz,h.gr.old,h.gr.us,fun g hg hm=>?_,h.gr.io,h.gr.dr⟩⟩
 ·have hd':s.tm d≠.junk:=SV.pub_junk.1 hd;show a.tmps[d]?=some (((s.tm d).pub k (ρ k)).den ρ);rw[SV.pub_den];exact h.tm d hd'
 ·by_cases hjk:j=k
  ·subst hjk;rw[Kx]at hb;cases hb
  ·rw[I3 _ hjk]at hb;obtain⟨b0,hb0,rfl⟩:=A4x.1 hb;obtain⟨⟨cs',f1,f2,f3⟩,f4,f5,f6⟩:=h.box j b0 hb0;refine⟨⟨cs',f1,by simp[Blk.pub,f2],fun i x hi hx=>?_⟩,f4,f5,?_⟩
   ·simp only[Blk.pub,A0v]at hi;obtain⟨y,hy,rfl⟩:=A4x.1 hi;rw[SV.pub_den];exact f3 i y hy (SV.pub_junk.1 hx)
   ·rw[Ad _ _ (hne j (by rw[hb0];simp) hjk)];exact f6
 ·have h1:∀ j,(s.pub k (ρ k)).hp j≠none->s.hp j≠none:=by
   intro j hj hn;by_cases hjk:j=k
   ·subst hjk;exact hj (Kx _ _ _)
   ·rw[I3 _ hjk,hn]at hj;exact hj rfl
  exact h.inj i j (h1 i hi) (h1 j hj) he
 ·obtain⟨h1,h2⟩:=SV.pub_p hd;rw[I3 _ h2];have:=h.lv.1 d j off h1;intro hn;exact this (by simpa using hn)
 ·by_cases hik:i=k
  ·subst hik;rw[Kx]at hi;cases hi
  ·rw[I3 _ hik]at hi;obtain⟨b0,hb0,rfl⟩:=A4x.1 hi;simp only[Blk.pub,A0u]at hm;obtain⟨y,hy,hyp⟩:=hm;obtain⟨rfl,h2⟩:=SV.pub_p hyp;rw[I3 _ h2];have:=h.lv.2 i b0 j off hb0 hy;intro hn;exact this (by simpa using hn)
 ·by_cases hg':g=ρ k
  ·subst hg';rw[Ac]at hg;simp only[A0t]at hg;subst hg;exact e1
  ·rw[Ad _ _ hg']at hg;exact h.gd.pm g o hg
 ·by_cases hg':g=ρ k
  ·subst hg';exact .inl e5
  ·rw[Ad _ _ hg'];exact h.gd.ap g
 ·rw[Ad _ _ oV];exact h.gr.ms g hg hm
end rules
section rules2
variable {P:Program} [Ba P] {fn:Func} {Post:B0} {st:List KI×S} {u m:PH}
theorem G.pub (k:Nat)(t:TypeId)(xs:List Value)(h:Fd (ctl P 100 st).1=true)(hb:(ctl P 100 st).2.hp k=some ⟨t,xs.map SV.v⟩)
 (kk:∀ g,u g=none->m g=none->G P fn Post ((ctl P 100 st).1,(ctl P 100 st).2.pub k g) u (m.upd g (.cells xs.toArray t (0,0)))):G P fn Post st u m:=by
 refine⟨Is 100 st ?_⟩;rw[Sym.ofNo h];intro c ρ a w hm0 hr;obtain⟨_,_,e5,e6⟩:=hr.box k _ hb;have:=(kk (ρ k) e5 e6).out;rw[Sym.ofNo (by exact h)]at this;exact this c ρ a w hm0 (hr.pub hb)
end rules2
end
section
variable {g:Nat}{x y:PH}
variable [Cc] [Dy]
def PH.or (x y:PH):PH:=fun g=>match x g with|some o=>some o|none=>y g
theorem PH.or_l {o:Obj}(h:x g=some o):x.or y g=some o:=by simp[PH.or,h]
theorem PH.or_r (h:x g=none):x.or y g=y g:=by simp[PH.or,h]
theorem Bx.frameM {u mf mc u' mc':PH}{w w':World}(h:Bx u (mf.or mc) w)(hd:Ki mf mc)(g1:Bx u' mc' w')(g2:Bz u mc w u' mc' w'):Bx u' (mf.or mc') w'/\Bz u (mf.or mc) w u' (mf.or mc') w':=by
 have hmf:∀ g o,mf g=some o->g<w.heap.size/\mc g=none/\w'.heap[g]?=some o/\u' g=none:=by
  intro g o hg;have h1:=h.pm g o (PH.or_l hg);have h2:mc g=none:=(hd g).resolve_left (by rw[hg];simp);have hlt:=Bw h1;refine⟨hlt,h2,by rw[g2.old g hlt h2];exact h1,?_⟩;rw[g2.us g hlt];exact (h.ap g).resolve_right (by rw[PH.or_l hg];simp)
 refine⟨⟨g1.pu,fun g o hg=>?_,fun g=>?_,g1.cl⟩,⟨g2.sz,fun g hg hm=>?_,g2.us,fun g hg hm=>?_,g2.io,g2.dr⟩⟩
 ·cases hx:mf g with
  |some o'=>rw[PH.or_l hx]at hg;cases hg;exact (hmf g _ hx).2.2.1
  |none=>rw[PH.or_r hx]at hg;exact g1.pm g o hg
 ·cases hx:mf g with
  |some o'=>exact .inl (hmf g _ hx).2.2.2
  |none=>rw[PH.or_r hx];exact g1.ap g
 ·cases hx:mf g with
  |some o'=>rw[PH.or_l hx]at hm;cases hm
  |none=>rw[PH.or_r hx]at hm;exact g2.old g hg hm
 ·cases hx:mf g with
  |some o'=>rw[PH.or_l hx]at hm;cases hm
  |none=>rw[PH.or_r hx]at hm⊢;exact g2.ms g hg hm
section rules
variable {P:Program} [Ba P] {fn:Func} {Post:B0} {st:List KI×S} {u m:PH}
def Tc (st:List KI×S):Bool:=match st.1 with
 |.reg _ _ false _::_=>true
 |.reg _ ops true (i::_)::_=>match ops[i]? with|some o=>Oo ops i o.op||J0 ops st.2|none=>false
 |_=>false
theorem Um {id:Nat}{ops:Array Oper}{dr:Bool}{i:Nat}{l:List Nat}{k:List KI}{s:S}{o:Oper}(ho:ops[i]?=some o)(h:Tc (.reg id ops dr (i::l)::k,s)=true):dr=false\/Oo ops i o.op=true\/J0 ops s=true:=by
 cases dr with
 |false=>exact .inl rfl
 |true=>right;simpa[Tc,ho] using h
theorem G.bigN {V:S2}{K:Value->PH->PH->Prop}(h:Al P (adv P st)=V)(hV:V≠.other)(hdr:Tc (adv P st)=true)(hf:∀ env op,A7 P env op=V->D6 op=false)
 (hr:∀ env (o:Oper),A7 P env o.op=V->∀ w,Bx u m w->D3 P env o w fun v w'=>∃ u' m',Bx u' m' w'/\Bz u m w u' m' w'/\K v u' m')
 (k:∀ v u' m',PH.le u u'->K v u' m'->G P fn Post (nx (adv P st) v) u' m'):G P fn Post st u m:=by
 refine G.stp ?_;obtain⟨id,ops,dr,i,l,kk,s,o,e,ho,hg,hd,hv,hs,hview,hnx⟩:=Ho h hV;have hdr':=Um ho (e▸hdr);rw[e];refine⟨?_⟩;refine Ob.big (K:=K) ho hg hd hv hs (hf _ _ hview) (fun v u' m' hK=>.inr hdr') (fun w hgd=>hr _ o hview w hgd) (fun v u' m' h1 h2=>?_);have:=(k v u' m' h1 h2).out;rw[hnx]at this;exact this
theorem G.callM (f:Nat)(args:List Value){mf mc:PH}{R:Value->PH->PH->Prop}(h:Al P (adv P st)=.call f args)(hdr:Tc (adv P st)=true)(hc:∀ args w,(callFunc f args).run P w=.ok (.enter f args) w)(hm:m=mf.or mc)(hd:Ki mf mc)(c:Ai P f args u mc R)
 (k:∀ v u' mc',PH.le u u'->R v u' mc'->G P fn Post (nx (adv P st) v) u' (mf.or mc')):G P fn Post st u m:=by
 subst hm;refine G.bigN (K:=fun v u' m'=>∃ mc',m'=mf.or mc'/\R v u' mc') h mV hdr Fm (fun env o hview w hgd=>?_) (fun v u' m' h1 h2=>?_)
 ·have hgc:Bx u mc w:=hgd.less (fun g o hg=>by
   cases hx:mf g with
   |some o'=>have:=(hd g).resolve_left (by rw[hx];simp);rw[this]at hg;cases hg
   |none=>rw[PH.or_r hx];exact hg)
  refine Lz hview hc w _ (Calls.mono (c w hgc) fun e w' he=>?_);obtain⟨v,u',mc',e1,e2,e3,e4⟩:=he;obtain⟨g1,g2⟩:=hgd.frameM hd e2 e3;exact⟨v,e1,u',mf.or mc',g1,g2,mc',rfl,e4⟩
 ·obtain⟨mc',rfl,hR⟩:=h2;exact k v u' mc' h1 hR
end rules
end
section
def Kr (u:PH)(es:List Value)(rs:List (List (List UInt8))):Prop:=es.length=rs.length/\∀ (j:Nat) (r:List (List UInt8)),rs[j]?=some r->∃ a c,es[j]?=some (.slice a r.length c)/\Fe u (.slice a r.length c) r
theorem Kr.mono {u u':PH}{es:List Value}{rs:List (List (List UInt8))}(h:Kr u es rs)(hl:PH.le u u'):Kr u' es rs :=
 ⟨h.1,fun j r hj=>by obtain⟨a,c,h1,h2⟩:=h.2 j r hj;exact⟨a,c,h1,Ab.mono h2 hl⟩⟩
def N7 (u:PH)(v:Value)(rs:List (List (List UInt8))):Prop:=∃ es,Ab u v 1 es/\Kr u es rs
theorem N7.mono {u u':PH}{v:Value}{rs:List (List (List UInt8))}(h:N7 u v rs)(hl:PH.le u u'):N7 u' v rs:=by
 obtain⟨es,h1,h2⟩:=h;exact⟨es,h1.mono hl,h2.mono hl⟩
theorem N7.opn {u:PH}{v:Value}{rs:List (List (List UInt8))}(h:N7 u v rs):∃ a c,v=.slice a rs.length c:=by
 obtain⟨es,h1,h2⟩:=h;obtain⟨a,c,rfl⟩:=h1.opn;exact⟨a,c,by rw[h2.1]⟩
theorem N7.row {u:PH}{a:Option Addr}{n c j:Nat}{rs:List (List (List UInt8))}{r:List (List UInt8)}(h:N7 u (.slice a n c) rs)(hj:rs[j]?=some r) :
 ∃ b off a' c',a=some ⟨b,off,none⟩/\ElP u b (off+j*1) (.slice a' r.length c')/\Fe u (.slice a' r.length c') r:=by
 obtain⟨es,h1,h2⟩:=h;obtain⟨a',c',e1,e2⟩:=h2.2 j r hj;obtain⟨b,off,rfl,e3⟩:=h1.at' e1;exact⟨b,off,a',c',rfl,e3,e2⟩
theorem Avq {u:PH}{v:Value}{rs:List (List (List UInt8))}{fid:Nat}{cap:List Value}(h:N7 u v rs)(hl:rs.length<=1000000)
 (hcall:∀ args w,(callFunc fid args).run prog w=.ok (.enter fid args) w) (hf:∀ r∈rs,∀ u' x,PH.le u u'->Fe u' x r->Fn0 prog fid (x::cap) u' fun v _=>v=.bool false) :
 Fn0 prog 306 [v,.func (.func fid) #[] cap.toArray] u fun v' _=>v'=.int .i64 (-1):=by
 obtain⟨a,c,rfl⟩:=h.opn;refine Fn0.o func306 ?_;refine G.l (ι:=Nat) (fun i=>[(0,sV a rs.length c),(1,.v (.func (.func fid) #[] cap.toArray)),(7,iV rs.length),(8,iV i)]) (fun _=>[])
  (fun i u' m'=>i<=rs.length/\m'=PH.mt) (fun i=>rs.length-i) 0 ⟨oV,rfl⟩ ?_
 rintro J k hJ u' m' hle ⟨hk,rfl⟩;by_cases hlt:k<rs.length
 ·refine G.lT (k:Int) (rs.length:Int) ?_;have htk:rs[k]?=some rs[k]:=A0n hlt;obtain⟨ba,oa,a',c',rfl,ea,es⟩:=(h.mono hle).row htk;refine G.a ba oa rs.length c k 1 oV ?_;refine G.lU none ba (oa+k*1) (.slice a' rs[k].length c') ea ?_;refine G.call0 fid (.slice a' rs[k].length c'::cap) kV hcall (hf rs[k] (A04 hlt) u' _ hle es) ?_;rintro v1 u1 l1 rfl;refine G.i k ?_;exact G.b (hJ (k+1) _ _ _ cV (hle.trans l1) ⟨oV,rfl⟩ oV)
 ·refine G.lF (k:Int) (rs.length:Int) ?_;exact G.r (.int .i64 (-1)) ⟨rfl,rfl⟩
theorem Ard {u:PH}{v:Value}{rs:List (List (List UInt8))}{fid:Nat}{cap:List Value}(h:N7 u v rs)(hl:rs.length<=1000000)
 (hcall:∀ args w,(callFunc fid args).run prog w=.ok (.enter fid args) w) (hf:∀ r∈rs,∀ u' x,PH.le u u'->Fe u' x r->Fn0 prog fid (x::cap) u' fun v _=>v=.bool false) :
 Fn0 prog 261 [v,.func (.func fid) #[] cap.toArray] u fun v' _=>v'=.bool false:=by
 obtain⟨a,c,rfl⟩:=h.opn;refine Fn0.o func261 ?_;refine G.c call306 (Avq h hl hcall hf) ?_;rintro v1 u1 l1 rfl;refine G.hF (-1) 0 ?_;exact G.r (.bool false) ⟨rfl,rfl⟩
end
section
variable {es:List Value}{u:PH}
theorem Ak2 (h:∀ e∈es,∃ a n c,e=.slice a n c):A3 1 es:=by
 intro e he;obtain⟨a,n,c,rfl⟩:=h e he;exact⟨rfl,fun x hx=>by simp[A1e]at hx;subst hx;rfl⟩
theorem Kr.snoc {rs:List (List (List UInt8))}{a:Option Addr}{c:Nat}{r:List (List UInt8)}(h:Kr u es rs)(he:Fe u (.slice a r.length c) r):Kr u (es++[.slice a r.length c]) (rs++[r]):=by
 refine⟨by simp[h.1],fun j r' hj=>?_⟩;by_cases hjl:j<rs.length
 ·rw[A1d hjl]at hj;obtain⟨a',c',h1,h2⟩:=h.2 j r' hj;exact⟨a',c',by rw[A1d (by rw[h.1];exact hjl)];exact h1,h2⟩
 ·rw[A1s oV]at hj;have:j-rs.length=0:=by
   rcases A1p (j-rs.length) with h0|h0
   ·exact h0
   ·rw[A1g gV]at hj;cases hj
  rw[this]at hj;simp at hj;subst hj;refine⟨a,c,?_,he⟩;rw[A1s (by rw[h.1];omega),h.1,this];rfl
theorem Awh {v:Value}{ts:List (List UInt8)}(h:Fe u v ts)(hl:ts.length<=1000000):Fn0 prog 149 [v] u fun v' u'=>N7 u' v' (ts.map fun t=>[t]):=by
 obtain⟨a,c,rfl⟩:=Ab.opn h;rw[J7]at h⊢;refine Fn0.o func149 ?_;refine G.l (ι:=Nat×List Value×(Option Addr×Nat×Nat)) (fun i=>[(3,sV i.2.2.1 i.2.2.2.1 i.2.2.2.2),(6,sV a ts.length c),(7,iV ts.length),(8,iV i.1)]) (fun _=>[])
  (fun i u' m'=>i.1<=ts.length/\Kr u' i.2.1 ((ts.take i.1).map fun t=>[t])/\Ae PH.mt m' (.slice i.2.2.1 i.2.2.2.1 i.2.2.2.2) 84 1 i.2.1) (fun i=>ts.length-i.1) (0,[],(none,0,0)) ⟨mV,⟨mV,fun j q hj=>by simp at hj⟩,Ae.nil _ _ _⟩ ?_
 rintro J ⟨k,es,⟨a1,n1,c1⟩⟩ hJ u' m' hle ⟨hk,hF,hA⟩;simp only at hk hF hA hJ;have hel:=hF.1;rw[A0p,A00]at hel;by_cases hlt:k<ts.length
 ·refine G.lT (k:Int) (ts.length:Int) ?_;have htk:ts[k]?=some ts[k]:=A0n hlt;obtain⟨ba,oa,rfl,ea⟩:=Ab.at' (Ab.mono h hle) (j:=k) (e:=.string (mkS ts[k])) (by simp[Cs,htk]);refine G.a ba oa ts.length c k 1 oV ?_;refine G.lU none ba (oa+k*1) (.string (mkS ts[k])) ea ?_;refine G.B 33 1 16 (.string (mkS [])) [.string (mkS ts[k])] (Cu [ts[k]]) ?_;intro g u2 l2 e2;have hS:Fe u2 (.slice (some ⟨g,0,none⟩) 1 1) [ts[k]]:=⟨_,1,rfl,A0w _,fun j e hj=>⟨g,0,rfl,e2 j e hj⟩⟩;refine G.B 84 1 24 (.slice none 0 0) [.slice (some ⟨g,0,none⟩) 1 1] (Ak2 (by intro e he;simp at he;exact⟨_,_,_,he⟩)) ?_;intro g3 u3 l3 e3;refine G.append 84 1 24 (.slice none 0 0) PH.mt es [.slice (some ⟨g,0,none⟩) 1 1] (.slice a1 n1 c1) g3 0 1 1 kV rfl rfl oV hA e3 (Ak2 (by intro e he;simp at he;exact⟨_,_,_,he⟩)) rfl oV oV oV ?_;intro v4 m4 hA4;obtain⟨a4,c4,rfl⟩:=hA4.shape;refine G.i k ?_;refine G.b (hJ (k+1,es++[A06 (some ⟨g,0,none⟩) 1 1],(a4,(es++[A06 (some ⟨g,0,none⟩) 1 1]).length,c4)) _ _ _ cV ((hle.trans l2).trans l3) ⟨dV,?_,hA4⟩ dV);dsimp only;rw[A1c,htk,A07];exact (hF.mono (l2.trans l3)).snoc (r:=[ts[k]]) (Ab.mono hS l3)
 ·have:k=ts.length:=oV
  subst this;refine G.lF (ts.length:Int) (ts.length:Int) ?_;refine G.give PH.mt es _ kV hA (fun _=>.inl rfl) ?_;intro u3 l3 hL;rw[A1k]at hF;exact G.r (.slice a1 n1 c1) ⟨rfl,es,hL,hF.mono l3⟩
end
section
variable {u:PH}{x:Value}
def Jx (A:List (List Rat)):List (List (List UInt8)):=A.map fun r=>r.map Af
theorem Hf:Af 0 = [48]:=by rw[Af,if_pos (by rfl)];exact Dt
theorem Yw:Af 1 = [49]:=by rw[Af,if_pos (by rfl)];exact Gu
theorem Ayk {r:List (List UInt8)}(h:Fe u x r)(hl:r.length<=12):Fn0 prog 262 [x] u fun v _=>v=.bool false:=by
 obtain⟨a,c,rfl⟩:=Ab.opn h;rw[J7];refine Fn0.o func262 ?_;refine G.gF (r.length:Int) 12 ?_;exact G.r (.bool false) ⟨rfl,rfl⟩
theorem Awi {qs:List Rat}(h:Fe u x (qs.map Af))(hq:∀ q∈qs,Tx q)(hl:qs.length<=1000000):Fn0 prog 264 [x] u fun v _=>v=.bool false:=by
 obtain⟨a,c,rfl⟩:=Ab.opn h;refine Fn0.o func264 ?_;refine G.c call147 (Auz h hq hl) ?_;rintro v1 u1 l1 rfl;exact G.r (.bool false) ⟨rfl,rfl⟩
end
section
def FnR (P:Program)(f:FuncId)(args:List Value)(u mc:PH)(R:Value->PH->Prop):Prop:=Ai P f args u mc (fun v u' m'=>m'=mc/\R v u')
theorem C2 (mc:PH):PH.mt.or mc=mc:=by funext g;rfl
theorem Sj (mc:PH):Ki PH.mt mc:=fun _=>.inl rfl
theorem Awa {u mc:PH}{x:Value}{r:List (List UInt8)}{g n:Nat}{t:TypeId}(h:Fe u x r)(hl:r.length=n)(hn:n<=12)(hg:mc g=some (.cells #[.int .i64 (n:Int)] t (0,0))) :
 FnR prog 263 [x,.pointer (some ⟨g,0,none⟩)] u mc fun v _=>v=.bool false:=by
 obtain⟨a,c,rfl⟩:=Ab.opn h;rw[J7];refine Ai.o func263 ?_;refine G.lM none g 0 (.int .i64 (n:Int)) (fun i y hy=>by
  match i,hy with
  |0,hy=>simp[A1e]at hy;subst hy;exact⟨_,_,_,hg,rfl⟩) ?_
 refine G.nF (r.length:Int) (n:Int) ?_;exact G.r (.bool false) ⟨rfl,rfl⟩
theorem Avg {u mc:PH}{v:Value}{rs:List (List (List UInt8))}{fid:Nat}{cap:List Value}(h:N7 u v rs)(hl:rs.length<=1000000)
 (hcall:∀ args w,(callFunc fid args).run prog w=.ok (.enter fid args) w) (hf:∀ r∈rs,∀ u' x,PH.le u u'->Fe u' x r->FnR prog fid (x::cap) u' mc fun v _=>v=.bool false) :
 FnR prog 306 [v,.func (.func fid) #[] cap.toArray] u mc fun v' _=>v'=.int .i64 (-1):=by
 obtain⟨a,c,rfl⟩:=h.opn;refine Ai.o func306 ?_;refine G.l (ι:=Nat) (fun i=>[(0,sV a rs.length c),(1,.v (.func (.func fid) #[] cap.toArray)),(7,iV rs.length),(8,iV i)]) (fun _=>[])
  (fun i u' m'=>i<=rs.length/\m'=mc) (fun i=>rs.length-i) 0 ⟨oV,rfl⟩ ?_
 rintro J k hJ u' m' hle ⟨hk,rfl⟩;by_cases hlt:k<rs.length
 ·refine G.lT (k:Int) (rs.length:Int) ?_;have htk:rs[k]?=some rs[k]:=A0n hlt;obtain⟨ba,oa,a',c',rfl,ea,es⟩:=(h.mono hle).row htk;refine G.a ba oa rs.length c k 1 oV ?_;refine G.lU none ba (oa+k*1) (.slice a' rs[k].length c') ea ?_;refine G.callM fid (.slice a' rs[k].length c'::cap) kV kV hcall (C2 _).symm (Sj _) (hf rs[k] (A04 hlt) u' _ hle es) ?_;rintro v1 u1 mc1 l1 ⟨rfl,rfl⟩;rw[C2];refine G.i k ?_;exact G.b (hJ (k+1) _ _ _ cV (hle.trans l1) ⟨oV,rfl⟩ oV)
 ·refine G.lF (k:Int) (rs.length:Int) ?_;exact G.r (.int .i64 (-1)) ⟨rfl,rfl⟩
theorem Ar5 {u mc:PH}{v:Value}{rs:List (List (List UInt8))}{fid:Nat}{cap:List Value}(h:N7 u v rs)(hl:rs.length<=1000000)
 (hcall:∀ args w,(callFunc fid args).run prog w=.ok (.enter fid args) w) (hf:∀ r∈rs,∀ u' x,PH.le u u'->Fe u' x r->FnR prog fid (x::cap) u' mc fun v _=>v=.bool false) :
 FnR prog 261 [v,.func (.func fid) #[] cap.toArray] u mc fun v' _=>v'=.bool false:=by
 obtain⟨a,c,rfl⟩:=h.opn;refine Ai.o func261 ?_;refine G.callM _ _ kV kV call306 (C2 _).symm (Sj _) (Avg h hl hcall hf) ?_;rintro v1 u1 mc1 l1 ⟨rfl,rfl⟩;rw[C2];refine G.hF (-1) 0 ?_;exact G.r (.bool false) ⟨rfl,rfl⟩
end
section
variable [Cc] [Dy]
section rules
variable {P:Program} [Ba P] {fn:Func} {Post:B0} {st:List KI×S} {u m:PH}
theorem G.storeM (sz b off:Nat)(t:TypeId)(cs:List Value)(e:Value)(h:Al P (adv P st)=.store (some sz) (.pointer (some ⟨b,off,none⟩)) e)(hb:m b=some (.cells cs.toArray t (0,0)))(ho:∀ x∈cs,Be x=true)(hl:off+sz<=cs.length)(he:e.cells.size=sz)(hc:e.cells.toList.all Be=true)
 (k:G P fn Post (nx (adv P st) undef) u (m.upd b (.cells (cs.take off++e.cells.toList++cs.drop (off+sz)).toArray t (0,0)))):G P fn Post st u m:=by
 refine G.big (K:=fun v' u' m'=>u'=u/\v'=undef/\m'=m.upd b (.cells (cs.take off++e.cells.toList++cs.drop (off+sz)).toArray t (0,0))) h mV (fun env op hv=>?_) (.inr fun env op hv=>?_) (fun env o hview w hgd=>?_) (fun v' u' m' _ hk=>?_)
 ·obtain⟨t',X,Y,rfl,_⟩:=Gc hv;rfl
 ·obtain⟨t',X,Y,rfl,_⟩:=Gc hv;rfl
 ·obtain⟨t',X,Y,e1,e2,e3,ht⟩:=Gc hview;obtain⟨dst,opp,type,pos,after,guard⟩:=o;simp only at e1;subst e1;rw[List.all_eq_true]at hc;have hgw:=hgd.pm b _ hb;have hst:=run_storeCells_at P b off t e.cells.toList 0 cs.toArray w hgw (by simp[he];omega) (fun x hx=>Aqt (hc x hx));simp only[A3f,Array.length_toList,he,A2z]at hst;have hcell:∀ x∈(cs.take off++e.cells.toList++cs.drop (off+sz)).toArray.toList,Be x=true:=by
   intro x hx;simp only[A2z,A01]at hx;rcases hx with (hx|hx)|hx
   ·exact ho x (A2r hx)
   ·exact hc x hx
   ·exact ho x (A3k hx)
  obtain⟨g1,g2⟩:=hgd.setM hb hcell;unfold D3;have hex:(execOp env ⟨dst,.store t' X Y,type,pos,after,guard⟩).run P w=.ok .skip (w.setRow b (cs.take off++e.cells.toList++cs.drop (off+sz)).toArray):=by
   simp only[execOp,e2,e3];simp only[List.append_assoc]at hst⊢;simp[Instr.storeAt,A3x,storeVar,Bf ht,he,hst]
  rw[hex];exact⟨u,_,g1,g2,rfl,rfl,rfl⟩
 ·obtain⟨rfl,rfl,rfl⟩:=hk;exact k
end rules
end
section
variable {a:Act}{c:Cx}{s:S}{w:World}{ρ:Nat->Nat}
variable [Cc]
section rules
variable {P:Program} [Ba P] {fn:Func} {Post:B0} {st:List KI×S} {u m:PH}
section based
variable [Dy]
theorem Rel.less {c:Cx}{s:S}{ρ:Nat->Nat}{a:Act}{w:World}(h:Rel c s u m ρ a w){m':PH}(hl:PH.le m' m):Rel c s u m' ρ a w:=by
 have hn:∀ g,m g=none->m' g=none:=fun g hg=>by
  cases e:m' g with
  |none=>rfl
  |some o=>rw[hl g o e]at hg;cases hg
 refine⟨h.sz,h.tm,h.df.of fun r e _ hu hm=>⟨e,hu,hn _ hm⟩,fun k b hb=>?_,h.inj,h.lv,h.gd.less hl,⟨h.gr.sz,h.gr.old,h.gr.us,fun g hg hm=>hn g (h.gr.ms g hg hm),h.gr.io,h.gr.dr⟩⟩;obtain⟨e1,e2,e3,e4⟩:=h.box k b hb;exact⟨e1,e2,e3,hn _ e4⟩
theorem G.drop (m':PH)(h:Fd (ctl P 100 st).1=true)(hl:PH.le m' m)(k:G P fn Post (ctl P 100 st) u m'):G P fn Post st u m:=by
 refine⟨Is 100 st ?_⟩;have hk:=k.out;rw[Sym.ofNo h]at hk⊢;intro c ρ a w hm0 hr;exact hk c ρ a w hm0 (hr.less hl)
def Axl (P:Program)(s:S)(m:PH)(r:ResultVar)(v:Value):Prop :=
 W8 P s r=some v\/∃ a t g off kd,r=.cell a t/\s.tm a=.v (.pointer (some ⟨g,off,none⟩))/\Wc P t=some kd/\Aby kd v=true/\ElP m g off v
def Asn (P:Program)(s:S)(m:PH):List ResultVar->List Value->Prop
 |[],[]=>True
 |r::rs,v::vs=>Axl P s m r v/\Asn P s m rs vs
 |_,_=>False
theorem Au2 (hr:Rel c s u m ρ a w){r:ResultVar}{x:Value}(h:Axl P s m r x):(Tu a.tmps r).run P w=.ok x w:=by
 rcases h with h|⟨p,t,g,off,kd,rfl,h1,h2,h3,h4⟩
 ·exact Abq hr h
 ·have:=hr.tm p (by rw[h1];simp);rw[h1]at this;simp[Tu,this,SV.den,asAddr,Tt h2 h3 h4 hr.gd.pm]
theorem Ar8 (hr:Rel c s u m ρ a w){l:List Value}(h:Asn P s m fn.results.toList l):(results fn a.tmps).run P w=.ok (Ad5 l) w:=by
 have key:∀ (rs:List ResultVar) (l:List Value),Asn P s m rs l->(rs.mapM (Tu a.tmps)).run P w=.ok l w:=by
  intro rs;induction rs with
  |nil=>intro l h;cases l with|nil=>simp|cons=>exact h.elim
  |cons r rs ih =>
   intro l h;cases l with
   |nil=>exact h.elim
   |cons x xs =>
    rw[List.mapM_cons];simp only[A1n,Au2 hr h.1,A0y,ih xs h.2,A3g]
 have e:results fn a.tmps=(do let vs <-fn.results.mapM (Tu a.tmps);pure (if h:vs.size=1 then vs[0] else .tuple vs)):=by
  unfold results;rfl
 rw[e,<-Array.toArray_toList (xs:=fn.results),List.mapM_toArray];simp only[A1n,Sem.run_map,key _ l h,A0y,A3g]
 congr 1
 match l with
 |[]=>rfl
 |[x]=>rfl
 |x::y::l=>rfl
def Av7 (st:List KI×S):Bool:=match st.1 with
 |.code .ret::_=>true
 |[]=>true
 |_=>false
end based
theorem G.retM (l:List Value)(m':PH)(h:Av7 (adv P st)=true)(hr:Asn P (adv P st).2 m fn.results.toList l)(hl:PH.le m' m)(hp:Post.post (Ad5 l) u m'):G P fn Post st u m:=by
 refine G.stp ?_;generalize adv P st=st' at h hr;obtain⟨ks,s⟩:=st';unfold Av7 at h;simp only at h;split at h
 ·refine⟨?_⟩;intro c ρ a w hm0 hrel;exact wp_ret (K5 (hrel.ends fun w' h'=>⟨Ar8 (a:=⟨a.tmps,[]⟩) h' hr,_,_,_,rfl,(h'.less hl).gd,(h'.less hl).gr,hp⟩).1 _)
 ·refine⟨?_⟩;intro c ρ a w hm0 hrel;exact (hrel.ends fun w' h'=>⟨Ar8 (a:=⟨a.tmps,[]⟩) h' hr,_,_,_,rfl,(h'.less hl).gd,(h'.less hl).gr,hp⟩).2
 ·cases h
theorem PH.mt_le (m:PH):PH.le PH.mt m:=fun _ _ h=>by cases h
end rules
end
section
variable {A:List (List Rat)}
theorem If (A:List (List Rat)):(Jx A).length=A.length:=by simp[Jx]
theorem Gj {j:Nat}{r:List Rat}(h:A[j]?=some r):(Jx A)[j]?=some (r.map Af):=by simp[Jx,h]
theorem Asi {r:List (List UInt8)}(h:r∈Jx A):∃ q∈A,r=q.map Af:=by
 simp only[Jx,A0u]at h;obtain⟨q,h1,rfl⟩:=h;exact⟨q,h1,rfl⟩
theorem Asy (m:PH)(g:Nat)(z:Int)(t:TypeId):ElP (m.upd g (.cells [A15 .i64 z].toArray t (0,0))) g 0 (.int .i64 z):=fun i y hy=>by
 match i,hy with
 |0,hy=>simp[A1e]at hy;subst hy;exact⟨_,_,_,Ac _ _ _,rfl⟩
theorem Azv {u:PH}{v:Value}{k:Nat}(h:N7 u v (Jx A))(hn:A.length<=12)(hk:k<=12)(hr:∀ r∈A,r.length=k)(h0:A.length=0->k=0)(hT:∀ r∈A,∀ q∈r,Tx q) :
 Fn0 prog 212 [v] u fun v' _=>v'=.tuple #[.int .i64 (A.length:Int),.int .i64 (k:Int),.int .i64 0]:=by
 obtain⟨a,c,rfl⟩:=h.opn;rw[If]at h⊢;refine Fn0.o func212 ?_;refine G.gF (A.length:Int) 12 ?_;refine G.c call261 (Ard (fid:=262) (cap:=[]) h (by rw[If];omega) call262 (fun r hr' u' x _ hx=>?_)) ?_
 ·obtain⟨q,hq,rfl⟩:=Asi hr';exact Ayk hx (by rw[A0p,hr q hq];omega)
 rintro v1 u1 l1 rfl;have hlen:∀ r∈Jx A,r.length=k:=fun r hr'=>by
  obtain⟨q,hq,rfl⟩:=Asi hr';rw[A0p,hr q hq]
 by_cases hpos:0<A.length
 ·refine G.gT (A.length:Int) 0 ?_;have htk:A[0]?=some A[0]:=A0n hpos;obtain⟨ba,oa,a',c',rfl,ea,es⟩:=(h.mono l1).row (Gj htk);rw[A0p,hr _ (A04 hpos)]at ea;refine G.a ba oa A.length c 0 1 oV ?_;refine G.lU none ba (oa+0*1) (.slice a' k c') ea ?_;refine G.pub 1 3 [.int .i64 (k:Int)] kV kV ?_;intro g hu hm;refine G.callM _ _ kV kV call261 (C2 _).symm (Sj _) (Ar5 (fid:=263) (cap:=[.pointer (some ⟨g,0,none⟩)]) (h.mono l1) (by rw[If];omega) call263 (fun r hr' u' x _ hx=>Awa hx (hlen r hr') hk (Ac _ _ _))) ?_;rintro v2 u2 mc2 l2 ⟨rfl,rfl⟩;rw[C2];refine G.c call261 (Ard (fid:=264) (cap:=[]) (h.mono (l1.trans l2)) (by rw[If];omega) call264 (fun r hr' u' x _ hx=>?_)) ?_
  ·obtain⟨q,hq,rfl⟩:=Asi hr';exact Awi hx (hT q hq) (by rw[hr q hq];omega)
  rintro v3 u3 l3 rfl;refine G.lM none g 0 (.int .i64 (k:Int)) (Asy _ _ _ _) ?_;refine G.storeM 1 g 0 3 [.int .i64 (k:Int)] (.int .i64 (k:Int)) kV (Ac _ _ _) (fun x hx=>by simp at hx;subst hx;rfl) mV rfl rfl ?_;exact G.retM [.int .i64 (A.length:Int),.int .i64 (k:Int),.int .i64 0] PH.mt kV ⟨.inl kV,.inr ⟨3,3,g,0,none,rfl,kV,kV,rfl,Asy _ _ _ _⟩,.inl kV,trivial⟩ (PH.mt_le _) ⟨rfl,rfl⟩
 ·refine G.gF (A.length:Int) 0 ?_;obtain rfl:k=0:=h0 oV;refine G.pub 1 3 [.int .i64 ((0:Nat):Int)] kV kV ?_;intro g hu hm;refine G.callM _ _ kV kV call261 (C2 _).symm (Sj _) (Ar5 (fid:=263) (cap:=[.pointer (some ⟨g,0,none⟩)]) (h.mono l1) (by rw[If];omega) call263 (fun r hr' u' x _ hx=>Awa hx (hlen r hr') hk (Ac _ _ _))) ?_;rintro v2 u2 mc2 l2 ⟨rfl,rfl⟩;rw[C2];refine G.c call261 (Ard (fid:=264) (cap:=[]) (h.mono (l1.trans l2)) (by rw[If];omega) call264 (fun r hr' u' x _ hx=>?_)) ?_
  ·obtain⟨q,hq,rfl⟩:=Asi hr';exact Awi hx (hT q hq) (by rw[hr q hq];omega)
  rintro v3 u3 l3 rfl;refine G.lM none g 0 (.int .i64 ((0:Nat):Int)) (Asy _ _ _ _) ?_;refine G.storeM 1 g 0 3 [.int .i64 ((0:Nat):Int)] (.int .i64 ((0:Nat):Int)) kV (Ac _ _ _) (fun x hx=>by simp at hx;subst hx;rfl) mV rfl rfl ?_;exact G.retM [.int .i64 (A.length:Int),.int .i64 ((0:Nat):Int),.int .i64 0] PH.mt kV ⟨.inl kV,.inr ⟨3,3,g,0,none,rfl,kV,kV,rfl,Asy _ _ _ _⟩,.inl kV,trivial⟩ (PH.mt_le _) ⟨rfl,rfl⟩
end
section
variable {A:List (List Rat)}
structure Sq (A:List (List Rat)):Prop where
 le:A.length<=12
 row:∀ r∈A,r.length=A.length
 tx:∀ r∈A,∀ q∈r,Tx q
theorem Sq.len (h:Sq A){i:Nat}(hi:i<A.length):A[i].length=A.length:=h.row _ (A04 hi)
theorem Ayb {u:PH}{v:Value}(h:N7 u v (Jx A))(hs:Sq A):Fn0 prog 212 [v] u fun v' _=>v'=.tuple #[.int .i64 (A.length:Int),.int .i64 (A.length:Int),.int .i64 0] :=
 Azv h hs.le hs.le hs.row (fun h=>h) hs.tx
end
section
variable {c j n sz:Nat}{e v:Value}{es:List Value}
section lists
variable {α:Type} {R:PH->Value->α->Prop} {u u':PH}
def AtP (R:PH->Value->α->Prop)(u:PH)(es:List Value)(xs:List α):Prop:=es.length=xs.length/\∀ (j:Nat) (x:α),xs[j]?=some x->∃ e,es[j]?=some e/\R u e x
theorem AtP.nil:AtP R u [] []:=⟨rfl,fun j x h=>by simp at h⟩
theorem AtP.mono {xs:List α}(hR:∀ e x,R u e x->R u' e x)(h:AtP R u es xs):AtP R u' es xs :=
 ⟨h.1,fun j x hj=>by obtain⟨e,h1,h2⟩:=h.2 j x hj;exact⟨e,h1,hR e x h2⟩⟩
theorem AtP.snoc {xs:List α}{x:α}(h:AtP R u es xs)(he:R u e x):AtP R u (es++[e]) (xs++[x]):=by
 refine⟨by simp[h.1],fun j r hj=>?_⟩;by_cases hjl:j<xs.length
 ·rw[A1d hjl]at hj;obtain⟨e',h1,h2⟩:=h.2 j r hj;exact⟨e',by rw[A1d (by rw[h.1];exact hjl)];exact h1,h2⟩
 ·rw[A1s oV]at hj;have:j-xs.length=0:=by
   rcases A1p (j-xs.length) with h0|h0
   ·exact h0
   ·rw[A1g gV]at hj;cases hj
  rw[this]at hj;simp at hj;subst hj;refine⟨e,?_,he⟩;rw[A1s (by rw[h.1];omega),h.1,this];rfl
theorem AtP.set {xs:List α}{x:α}(h:AtP R u es xs)(k:Nat)(he:R u e x):AtP R u (es.set k e) (xs.set k x):=by
 refine⟨by simp[h.1],fun j r hj=>?_⟩;rw[A25]at hj⊢;split at hj
 ·rename_i e';subst e';split at hj
  ·rename_i hlt;simp only[A0t]at hj;subst hj;exact⟨e,by rw[if_pos rfl,if_pos (by rw[h.1];exact hlt)],he⟩
  ·cases hj
 ·rename_i e';rw[if_neg e'];exact h.2 j r hj
def LP (R:PH->Value->α->Prop)(sz:Nat)(u:PH)(v:Value)(xs:List α):Prop:=∃ es,Ab u v sz es/\AtP R u es xs
theorem LP.mono {sz:Nat}{v:Value}{xs:List α}(hR:∀ e x,R u e x->R u' e x)(h:LP R sz u v xs)(hl:PH.le u u'):LP R sz u' v xs:=by
 obtain⟨es,h1,h2⟩:=h;exact⟨es,h1.mono hl,h2.mono hR⟩
theorem LP.opn {sz:Nat}{v:Value}{xs:List α}(h:LP R sz u v xs):∃ a c,v=.slice a xs.length c:=by
 obtain⟨es,h1,h2⟩:=h;obtain⟨a,c,rfl⟩:=h1.opn;exact⟨a,c,by rw[h2.1]⟩
theorem LP.at {a:Option Addr}{xs:List α}(h:LP R sz u (.slice a n c) xs){x:α}(hj:xs[j]?=some x):∃ b off e,a=some ⟨b,off,none⟩/\ElP u b (off+j*sz) e/\R u e x:=by
 obtain⟨es,h1,h2⟩:=h;obtain⟨e,e1,e2⟩:=h2.2 j x hj;obtain⟨b,off,rfl,e3⟩:=h1.at' e1;exact⟨b,off,e,rfl,e3,e2⟩
end lists
def As4 (u:PH)(v:Value)(zs:List Int):Prop:=LP Cb 2 u v zs
def Arj (u:PH)(v:Value)(zs:List (List Int)):Prop:=LP As4 1 u v zs
def Aui (u:PH)(v:Value)(qs:List (List Rat)):Prop:=LP M6 1 u v qs
theorem As4.mono {u u':PH}{v:Value}{zs:List Int}(h:As4 u v zs)(hl:PH.le u u'):As4 u' v zs:=LP.mono (fun _ _ h=>h.mono hl) h hl
theorem Arj.mono {u u':PH}{v:Value}{zs:List (List Int)}(h:Arj u v zs)(hl:PH.le u u'):Arj u' v zs:=LP.mono (fun _ _ h=>h.mono hl) h hl
theorem Aui.mono {u u':PH}{v:Value}{zs:List (List Rat)}(h:Aui u v zs)(hl:PH.le u u'):Aui u' v zs:=LP.mono (fun _ _ h=>h.mono hl) h hl
theorem M6.lp {u:PH}{qs:List Rat}(h:M6 u v qs):LP Av 4 u v qs:=h
theorem Cb.ok {u:PH}{q:Int}(h:Cb u e q):A3 2 [e]:=by
 obtain⟨b,a,n,c,rfl⟩:=h.opn;intro x hx;simp at hx;subst hx;exact⟨rfl,fun y hy=>by simp[A1e]at hy;rcases hy with rfl|rfl<;>rfl⟩
theorem Gt (a:Option Addr)(n c:Nat):A3 1 [.slice a n c]:=Ak2 (by intro e he;simp at he;exact⟨_,_,_,he⟩)
theorem Ae.some' {m0 m:PH}{t:TypeId}{a:Addr}(ha:Ae m0 m (.slice (some a) n c) t sz es):∃ g,a=⟨g,0,none⟩/\m0 g=none:=by
 rcases ha.2 with ⟨h,_,_⟩|⟨g,cap,rest,h0,_,h,_⟩
 ·simp at h
 ·simp only[A09,A0t]at h;exact⟨g,h.1,h0⟩
theorem Auw {α:Type}{l:List α}{e z:α}(hl:l.length=j)(hj:j<n):(l++A0x (n-j) z).set j e=l++[e]++A0x (n-(j+1)) z:=by
 subst hl;rw[show n-l.length=(n-(l.length+1))+1 by omega,List.replicate_succ];rw[List.set_append_right _ _ (A0w _)];simp
theorem Ax4 (d e:Nat):((d:Int)/((Nat.gcd (d:Int).natAbs (e:Int).natAbs:Nat):Int)*(e:Int))=((Bb3 d e:Nat):Int):=by
 rw[A1z,A1z,Bb3,<-Nat.div_mul_right_comm (Nat.gcd_dvd_left d e)]
 push_cast
 rfl
def Azr (u:PH)(v:Value)(D:Nat)(cs:List (List Int)):Prop:=∃ b a n c a' n' c',v=.agg #[.bool b,.slice a n c,.slice a' n' c']/\Cb u (.agg #[.bool b,.slice a n c]) (D:Int)/\Arj u (.slice a' n' c') cs
def Q4 (D:Nat)(r:List Rat):List Int:=r.map fun q=>q.num*((D/q.den:Nat):Int)
structure DI where
 b:Bool
 a:Option Addr
 n:Nat
 c:Nat
 D:Nat
def A0e (d:DI):Value:=.agg #[.bool d.b,.slice d.a d.n d.c]
def As7 (u:PH)(d:DI)(L:Nat):Prop:=Cb u (A0e d) (d.D:Int)/\0<d.D/\d.D ∣ L
theorem As7.mono {u u':PH}{d:DI}{L:Nat}(h:As7 u d L)(hl:PH.le u u'):As7 u' d L:=⟨h.1.mono hl,h.2⟩
theorem Awc {u:PH}{A:List (List Rat)}{L:Nat}(h:N7 u v (Jx A))(hT:∀ r∈A,∀ q∈r,Tx q)(hl:A.length<=1000000)(hl2:∀ r∈A,r.length<=1000000)(hL:∀ r∈A,∀ q∈r,q.den ∣ L)(hL0:0<L)(hLs:nl L<=1000000000) :
 Fn0 prog 150 [v] u fun v' u'=>∃ D,0<D/\D ∣ L/\(∀ r∈A,∀ q∈r,q.den ∣ D)/\Azr u' v' D (A.map (Q4 D)):=by
 obtain⟨a,c,rfl⟩:=h.opn;rw[If]at h⊢;have hDs:∀ D:Nat,D ∣ L->nl (D:Int).natAbs<=1000000000:=fun D hD=>A0q (C6 (A5s hL0 hD)) hLs;refine Fn0.o func150 ?_;refine G.c call177 (Tz (z:=1) oV oV) ?_;intro v1 u1 l1 k1;obtain⟨b1,a1,n1,c1,rfl⟩:=k1.opn;refine G.l (ι:=Nat×List Value×(Option Addr×Nat×Nat)×DI)
  (fun i=>[(2,.p 0 0),(3,.p 1002 0),(4,sV i.2.2.1.1 i.2.2.1.2.1 i.2.2.1.2.2),(19,sV a A.length c),(20,iV A.length),(21,iV i.1)])
  (fun i=>[(0,⟨218,[bV false,sV none 0 0,sV none 0 0]⟩),(1002,⟨218,[bV i.2.2.2.b,sV i.2.2.2.a i.2.2.2.n i.2.2.2.c,sV none 0 0]⟩)])
  (fun i u' m'=>i.1<=A.length/\AtP M6 u' i.2.1 (A.take i.1)/\Ae PH.mt m' (.slice i.2.2.1.1 i.2.2.1.2.1 i.2.2.1.2.2) 124 1 i.2.1/\As7 u' i.2.2.2 L/\∀ r∈A.take i.1,∀ q∈r,q.den ∣ i.2.2.2.D)
  (fun i=>A.length-i.1) (0,[],(none,0,0),⟨b1,a1,n1,c1,1⟩)
  ⟨A1m _,AtP.nil,Ae.nil _ _ _,⟨k1,Nat.one_pos,Nat.one_dvd _⟩,fun r hr=>by simp at hr⟩ ?_
 rintro J ⟨k,Aae,⟨a2,n2,c2⟩,⟨db,da,dn,dc,D⟩⟩ hJ u2 m2 l2 ⟨hk,hF,hA,hD,hdv⟩;simp only at hk hF hA hD hdv hJ;have hel:=hF.1;rw[A00]at hel;by_cases hlt:k<A.length
 ·refine G.lT (k:Int) (A.length:Int) ?_;have htk:A[k]?=some A[k]:=A0n hlt;have hmem:=A04 hlt;obtain⟨ba,oa,a3,c3,rfl,e3,s3⟩:=(h.mono (l1.trans l2)).row (Gj htk);rw[A0p]at e3 s3;refine G.a ba oa A.length c k 1 oV ?_;refine G.lU none ba (oa+k*1) _ e3 ?_;refine G.c call117 (Aep s3 (hT _ hmem) (hl2 _ hmem)) ?_;intro v4 u4 l4 k4;obtain⟨a4,c4,rfl⟩:=k4.lp.opn;refine G.l (ι:=Nat×DI)
   (fun i=>[(2,.p 0 0),(3,.p 1002 0),(4,sV a2 n2 c2),(19,sV (some ⟨ba,oa,none⟩) A.length c),(20,iV A.length),(21,iV k),(7,sV a4 A[k].length c4),(27,sV a4 A[k].length c4),(28,iV (A[k].length)),(29,iV i.1)])
   (fun i=>[(0,⟨218,[bV false,sV none 0 0,sV none 0 0]⟩),(1002,⟨218,[bV i.2.b,sV i.2.a i.2.n i.2.c,sV none 0 0]⟩)])
   (fun i u' m'=>i.1<=A[k].length/\m'=m2/\As7 u' i.2 L/\(∀ r∈A.take k,∀ q∈r,q.den ∣ i.2.D)/\∀ q∈A[k].take i.1,q.den ∣ i.2.D)
   (fun i=>A[k].length-i.1) (0,⟨db,da,dn,dc,D⟩)
   ⟨A1m _,rfl,hD.mono l4,hdv,fun q hq=>by simp at hq⟩ ?_
  rintro J2 ⟨j,⟨eb,ea,en,ec,E⟩⟩ hJ2 u5 m5 l5 ⟨hj,rfl,hE,hev,hrv⟩;simp only at hj hE hev hrv hJ2;by_cases hlt2:j<A[k].length
  ·refine G.lT (j:Int) (A[k].length:Int) ?_;have hqj:A[k][j]?=some A[k][j]:=A0n hlt2;have hqm:=A04 hlt2;have htx:=hT _ hmem _ hqm;obtain⟨b6,o6,e6,rfl,h6,f6⟩:=(k4.mono l5).lp.at hqj;obtain⟨x1,x2,x3,x4,x5,x6,x7,x8,rfl⟩:=f6.opn;refine G.a b6 o6 A[k].length c4 j 4 hlt2 ?_;refine G.lU (some 4) b6 (o6+j*4) _ h6 ?_;refine G.c call216 (Asl f6) ?_;intro v7 u7 l7 k7;obtain⟨b7,a7,n7,c7,rfl⟩:=k7.opn;refine G.c call215 (Av4 ((hE.mono l7).1) k7 (A0q (hDs _ hE.2.2) oV) (A0q (Ms htx.den) oV) (by have:=hE.2.1;dsimp only at this⊢;omega)) ?_;intro v8 u8 l8 k8;rw[Ax4]at k8;obtain⟨b8,a8,n8,c8,rfl⟩:=k8.opn;refine G.add (j:Int) 1 ((j+1:Nat):Int) kV oV oV (by have:=hl2 _ hmem;omega) ?_;refine G.b (hJ2 (j+1,⟨b8,a8,n8,c8,Bb3 E A[k][j].den⟩) _ _ _ cV ((l5.trans l7).trans l8) ⟨dV,rfl,⟨k8,?_,?_⟩,?_,?_⟩ dV)
   ·have:=hE.2.1;simp only at this⊢;exact Nat.lcm_pos this (A[k][j]).den_pos
   ·exact Nat.lcm_dvd hE.2.2 (hL _ hmem _ hqm)
   ·exact fun r hr q hq=>A8v (hev r hr q hq) (A7v _ _)
   ·intro q hq;dsimp only at hq⊢;rw[A1c,hqj]at hq;rcases A01.1 hq with hq|hq
    ·exact A8v (hrv q hq) (A7v _ _)
    ·simp at hq;subst hq;exact Nat.dvd_lcm_right _ _
  ·have:j=A[k].length:=oV
   subst this;rw[A1k]at hrv;refine G.lF (A[k].length:Int) (A[k].length:Int) ?_;refine G.B 124 1 24 (.slice none 0 0) [.slice a4 A[k].length c4] (Gt _ _ _) ?_;intro g6 u6 l6 e6;refine G.append 124 1 24 (.slice none 0 0) PH.mt Aae [.slice a4 A[k].length c4] (.slice a2 n2 c2) g6 0 1 1 kV rfl rfl oV hA e6 (Gt _ _ _) rfl oV oV oV ?_;intro v7 m7 hA7;obtain⟨a7,c7,rfl⟩:=hA7.shape;refine G.i k ?_;refine G.b (hJ (k+1,Aae++[A06 a4 A[k].length c4],(a7,(Aae++[A06 a4 A[k].length c4]).length,c7),⟨eb,ea,en,ec,E⟩) _ _ _ cV (((l2.trans l4).trans l5).trans l6) ⟨dV,?_,hA7,hE.mono l6,?_⟩ dV)
   ·dsimp only;rw[A1c,htk];exact (hF.mono (fun _ _ h=>h.mono ((l4.trans l5).trans l6))).snoc (k4.mono (l5.trans l6))
   ·intro r hr;dsimp only at hr⊢;rw[A1c,htk]at hr;rcases A01.1 hr with hr|hr
    ·exact hev r hr
    ·simp at hr;subst hr;exact hrv
 ·have:k=A.length:=oV
  subst this;rw[A1k]at hF hdv;refine G.lF (A.length:Int) (A.length:Int) ?_;refine G.give PH.mt Aae _ kV hA (fun _=>.inl rfl) ?_;intro u3 l3 hL3;have hlv:Aae.length=A.length:=by rw[hF.1]
  obtain⟨_,_,e0⟩:=hL3.opn;simp only[A09]at e0;obtain⟨rfl,rfl,rfl⟩:=e0;rw[hlv]at hL3⊢;have hFM:Aui u3 (.slice a2 A.length c2) A:=⟨Aae,hL3,hF.mono (fun _ _ h=>h.mono l3)⟩;refine G.l (ι:=Nat×List Value×(Option Addr×Nat×Nat))
   (fun i=>[(2,.p 0 0),(3,.p 1002 0),(45,sV a2 A.length c2),(46,iV A.length),(47,iV i.1)])
   (fun i=>[(0,⟨218,[bV false,sV none 0 0,sV none 0 0]⟩),(1002,⟨218,[bV db,sV da dn dc,sV i.2.2.1 i.2.2.2.1 i.2.2.2.2]⟩)])
   (fun i u' m'=>i.1<=A.length/\AtP As4 u' i.2.1 ((A.take i.1).map (Q4 D))/\Ae PH.mt m' (.slice i.2.2.1 i.2.2.2.1 i.2.2.2.2) 220 1 i.2.1)
   (fun i=>A.length-i.1) (0,[],(none,0,0))
   ⟨A1m _,AtP.nil,Ae.nil _ _ _⟩ ?_
  rintro J2 ⟨k,cv,⟨a5,n5,c5⟩⟩ hJ2 u5 m5 l5 ⟨hk5,hN,hA5⟩;simp only at hk5 hN hA5 hJ2;have hel5:=hN.1;rw[A0p,A00]at hel5;by_cases hlt:k<A.length
  ·refine G.lT (k:Int) (A.length:Int) ?_;have htk:A[k]?=some A[k]:=A0n hlt;have hmem:=A04 hlt;have hrl:=hl2 _ hmem;obtain⟨b6,o6,e6,rfl,h6,f6⟩:=LP.at (hFM.mono l5) htk;obtain⟨a7,c7,rfl⟩:=f6.lp.opn;refine G.a b6 o6 A.length c2 k 1 oV ?_;refine G.lU none b6 (o6+k*1) _ h6 ?_;refine G.make 114 2 32 (.agg #[.bool false,.slice none 0 0]) A[k].length kV rfl rfl oV oV oV ?_;rintro v8 m8 hA8 ⟨a8,rfl⟩;obtain⟨g8,rfl,hg8⟩:=hA8.some';refine G.l (ι:=Nat×List Value)
    (fun i=>[(2,.p 0 0),(3,.p 1002 0),(45,sV (some ⟨b6,o6,none⟩) A.length c2),(46,iV A.length),(47,iV k),(12,sV (some ⟨g8,0,none⟩) A[k].length A[k].length),(54,sV a7 A[k].length c7),(55,iV (A[k].length)),(56,iV i.1)])
    (fun i=>[(0,⟨218,[bV false,sV none 0 0,sV none 0 0]⟩),(1002,⟨218,[bV db,sV da dn dc,sV a5 n5 c5]⟩)])
    (fun i u' m'=>i.1<=A[k].length/\AtP Cb u' i.2 (Q4 D (A[k].take i.1))/\Ae m5 m' (.slice (some ⟨g8,0,none⟩) A[k].length A[k].length) 114 2 (i.2++A0x (A[k].length-i.1) (.agg #[.bool false,.slice none 0 0])))
    (fun i=>A[k].length-i.1) (0,[])
    ⟨A1m _,AtP.nil,by simpa using hA8⟩ ?_
   rintro J3 ⟨j,done⟩ hJ3 u9 m9 l9 ⟨hj9,hN9,hA9⟩;simp only at hj9 hN9 hA9 hJ3;have hel9:=hN9.1;rw[Q4,A0p,A00]at hel9;by_cases hlt2:j<A[k].length
   ·refine G.lT (j:Int) (A[k].length:Int) ?_;have hqj:A[k][j]?=some A[k][j]:=A0n hlt2;have hqm:=A04 hlt2;have htx:=hT _ hmem _ hqm;have hq0:=(A[k][j]).den_pos;obtain⟨b10,o10,e10,rfl,h10,f10⟩:=(f6.mono l9).lp.at hqj;obtain⟨x1,x2,x3,x4,x5,x6,x7,x8,rfl⟩:=f10.opn;refine G.a b10 o10 A[k].length c7 j 4 hlt2 ?_;refine G.lU (some 4) b10 (o10+j*4) _ h10 ?_;refine G.c call216 (Asl f10) ?_;intro v11 u11 l11 k11;obtain⟨b11,a11,n11,c11,rfl⟩:=k11.opn;refine G.c call196 (Ael ((hD.mono (((l3.trans l5).trans l9).trans l11)).1) k11 (A0q (hDs _ hD.2.2) oV) (A0q (Ms htx.den) oV) oV) ?_;rintro v12 u12 l12 ⟨v13,v14,rfl,k13,k14⟩;obtain⟨b13,a13,n13,c13,rfl⟩:=k13.opn;obtain⟨b14,a14,n14,c14,rfl⟩:=k14.opn;refine G.c call217 (Auq (f10.mono (l11.trans l12))) ?_;intro v15 u15 l15 k15;obtain⟨b15,a15,n15,c15,rfl⟩:=k15.opn;have hdq:((D:Int)/(A[k][j].den:Int))=((D/A[k][j].den:Nat):Int):=by push_cast;rfl
    rw[hdq]at k13;refine G.c call121 (Gg k15 (k13.mono l15) (A0q (Ms htx.1) oV) (by rw[A1z];exact A0q (Asr _ _) (A0q (hDs _ hD.2.2) oV))) ?_;intro v16 u16 l16 k16;obtain⟨b16,a16,n16,c16,rfl⟩:=k16.opn;refine G.a g8 0 A[k].length A[k].length j 2 hlt2 ?_;refine G.storeA 2 m5 _ g8 A[k].length A[k].length j (.agg #[.bool b16,.slice a16 n16 c16]) kV hA9 gV rfl rfl ?_;intro m17 hA17;rw[Auw oV hlt2]at hA17;refine G.i j ?_;refine G.b (hJ3 (j+1,done++[.agg #[.bool b16,.slice a16 n16 c16]]) _ _ _ cV ((((l9.trans l11).trans l12).trans l15).trans l16) ⟨dV,?_,hA17⟩ dV);dsimp only;rw[A1c,hqj,Q4,A07];exact (hN9.mono (fun _ _ h=>h.mono (((l11.trans l12).trans l15).trans l16))).snoc k16
   ·have:j=A[k].length:=oV
    subst this;rw[A1k]at hN9;rw[A45,A5c,A1i]at hA9;refine G.lF (A[k].length:Int) (A[k].length:Int) ?_;refine G.give m5 done _ kV hA9 (fun _=>.inl rfl) ?_;intro u10 l10 hL10;refine G.B 220 1 24 (.slice none 0 0) [.slice (some ⟨g8,0,none⟩) A[k].length A[k].length] (Gt _ _ _) ?_;intro g11 u11 l11 e11;refine G.append 220 1 24 (.slice none 0 0) PH.mt cv [.slice (some ⟨g8,0,none⟩) A[k].length A[k].length] (.slice a5 n5 c5) g11 0 1 1 kV rfl rfl oV hA5 e11 (Gt _ _ _) rfl oV oV oV ?_;intro v12 m12 hA12;obtain⟨a12,c12,rfl⟩:=hA12.shape;refine G.i k ?_;refine G.b (hJ2 (k+1,cv++[.slice (some ⟨g8,0,none⟩) A[k].length A[k].length],(a12,(cv++[A06 (some ⟨g8,0,none⟩) A[k].length A[k].length]).length,c12)) _ _ _ cV (((l5.trans l9).trans l10).trans l11) ⟨dV,?_,hA12⟩ dV);dsimp only;rw[A1c,htk,A07];exact (hN.mono (fun _ _ h=>h.mono ((l9.trans l10).trans l11))).snoc (x:=Q4 D A[k]) ⟨done,hL10.mono l11,hN9.mono (fun _ _ h=>h.mono (l10.trans l11))⟩
  ·have:k=A.length:=oV
   subst this;rw[A1k]at hN;refine G.lF (A.length:Int) (A.length:Int) ?_;refine G.give PH.mt cv _ kV hA5 (fun _=>.inl rfl) ?_;intro u6 l6 hL6;exact G.r (.agg #[.bool db,.slice da dn dc,.slice a5 n5 c5]) ⟨rfl,D,hD.2.1,hD.2.2,hdv,db,da,dn,dc,a5,n5,c5,rfl,(hD.mono ((l3.trans l5).trans l6)).1,cv,hL6,hN.mono (fun _ _ h=>h.mono l6)⟩
end
section
theorem Arj.opn {u:PH}{v:Value}{cs:List (List Int)}(h:Arj u v cs):∃ a c,v=.slice a cs.length c:=LP.opn h
theorem As4.opn {u:PH}{v:Value}{cs:List Int}(h:As4 u v cs):∃ a c,v=.slice a cs.length c:=LP.opn h
theorem Ayw {u:PH}{v:Value}{D K:Nat}{cs:List (List Int)}(ht:Lb u)(h:Azr u v D cs)(hK:K<=400)(hD:A1v D<=K)(hc:∀ r∈cs,∀ z∈r,A1v z.natAbs<=K)(hl:cs.length<=1000000)(hl2:∀ r∈cs,r.length<=1000000) :
 Fn0 prog 214 [v] u fun v' _=>∃ n:Nat,v'=.int .i64 (n:Int)/\n<=K:=by
 obtain⟨b,a,n,c,a',n',c',rfl,h1,h2⟩:=h;obtain⟨a'',c'',e⟩:=h2.opn;simp only[A09]at e;obtain⟨rfl,rfl,rfl⟩:=e;refine Fn0.o func214 ?_;refine G.c call122 (S7 ht h1 (by rw[A1z];exact A0q (Ms oV) oV)) ?_;rintro v1 u1 l1 rfl;rw[A1z];refine G.l (ι:=Nat×Nat) (fun i=>[(1,.p 0 0),(3,iV i.2),(12,sV a' cs.length c'),(13,iV cs.length),(14,iV i.1)])
  (fun i=>[(0,⟨218,[bV b,sV a n c,sV a' cs.length c']⟩)])
  (fun i u' m'=>i.1<=cs.length/\i.2<=K/\m'=PH.mt) (fun i=>cs.length-i.1) (0,A1v D) ⟨A1m _,hD,rfl⟩ ?_
 rintro J ⟨i,k⟩ hJ u2 m2 l2 ⟨hi,hk,rfl⟩;simp only at hi hk hJ;by_cases hlt:i<cs.length
 ·refine G.lT (i:Int) (cs.length:Int) ?_;have hti:cs[i]?=some cs[i]:=A0n hlt;have hmem:=A04 hlt;obtain⟨b3,o3,e3,rfl,h3,f3⟩:=LP.at (h2.mono (l1.trans l2)) hti;obtain⟨a4,c4,rfl⟩:=f3.opn;refine G.a b3 o3 cs.length c' i 1 hlt ?_;refine G.lU none b3 (o3+i*1) _ h3 ?_;refine G.l (ι:=Nat×Nat) (fun j=>[(1,.p 0 0),(3,iV j.2),(12,sV (some ⟨b3,o3,none⟩) cs.length c'),(13,iV cs.length),(14,iV i),(18,sV a4 cs[i].length c4),(19,iV (cs[i].length)),(20,iV j.1)])
   (fun j=>[(0,⟨218,[bV b,sV a n c,sV (some ⟨b3,o3,none⟩) cs.length c']⟩)])
   (fun j u' m'=>j.1<=cs[i].length/\j.2<=K/\m'=PH.mt) (fun j=>cs[i].length-j.1) (0,k) ⟨A1m _,hk,rfl⟩ ?_
  rintro J2 ⟨j,k2⟩ hJ2 u5 m5 l5 ⟨hj,hk2,rfl⟩;simp only at hj hk2 hJ2;have hrl:=hl2 _ hmem;by_cases hlt2:j<cs[i].length
  ·refine G.lT (j:Int) (cs[i].length:Int) ?_;have htj:cs[i][j]?=some cs[i][j]:=A0n hlt2;have hzm:=hc _ hmem _ (A04 hlt2);obtain⟨b6,o6,e6,rfl,h6,f6⟩:=LP.at (f3.mono l5) htj;obtain⟨b7,a7,n7,c7,rfl⟩:=f6.opn;refine G.a b6 o6 cs[i].length c4 j 2 hlt2 ?_;refine G.lU (some 2) b6 (o6+j*2) _ h6 ?_;refine G.c call122 (S7 (ht.mono ((l1.trans l2).trans l5)) f6 (A0q (Ms oV) oV)) ?_;rintro v8 u8 l8 rfl;generalize A1v (cs[i][j]).natAbs=d at *
   refine G.maxI [3,3] (k2:Int) (d:Int) ((max k2 d:Nat):Int) kV oV ?_;refine G.i j ?_;exact G.b (hJ2 (j+1,max k2 d) _ _ _ cV (l5.trans l8) ⟨dV,dV,rfl⟩ dV)
  ·refine G.lF (j:Int) (cs[i].length:Int) ?_;refine G.i i ?_;exact G.b (hJ (i+1,k2) _ _ _ cV (l2.trans l5) ⟨dV,hk2,rfl⟩ dV)
 ·refine G.lF (i:Int) (cs.length:Int) ?_;exact G.r (.int .i64 (k:Int)) ⟨rfl,k,rfl,hk⟩
theorem Axe {u:PH}{v:Value}{A:List (List Rat)}{L K N:Nat}(ht:Lb u)(h:N7 u v (Jx A))(hT:∀ r∈A,∀ q∈r,Tx q)(hl:A.length<=N)(hl2:∀ r∈A,r.length<=N)(hN:N<=12)(hNK:N*K<=600)(hK:K<=400)
 (hL:∀ r∈A,∀ q∈r,q.den ∣ L) (hL0:0<L) (hLs:nl L<=1000000000) (hD:∀ D:Nat,D ∣ L->0<D->A1v D<=K/\∀ r∈A,∀ q∈r,q.den ∣ D->A1v (q.num*((D/q.den:Nat):Int)).natAbs<=K) :
 Fn0 prog 148 [v] u fun v' _=>v'=.bool false:=by
 have hof:=fun (v:Value) (u':PH) (hv:N7 u' v (Jx A))=>Awc hv hT oV (fun r hr=>by have:=hl2 r hr;omega) hL hL0 hLs;obtain⟨a,c,rfl⟩:=h.opn;rw[If]at h⊢;have hdig:=fun (u':PH) (x:Value) (D:Nat) (ht':Lb u') (hx:Azr u' x D (A.map (Q4 D))) (h1:D ∣ L) (h0:0<D) (h2:∀ r∈A,∀ q∈r,q.den ∣ D) =>
  Ayw (K:=K) ht' hx hK (hD D h1 h0).1 (fun r hr z hz=>by
   obtain⟨r0,hr0,rfl⟩:=A0u.1 hr;obtain⟨q,hq,rfl⟩:=A0u.1 hz;exact (hD D h1 h0).2 r0 hr0 q hq (h2 r0 hr0 q hq)) (by rw[A0p];omega) (fun r hr=>by
   obtain⟨r0,hr0,rfl⟩:=A0u.1 hr;rw[Q4,A0p];have:=hl2 r0 hr0;omega)
 refine Fn0.o func148 ?_;by_cases hpos:0<A.length
 ·refine G.gT (A.length:Int) 0 ?_;have htk:A[0]?=some A[0]:=A0n hpos;have hrl:=hl2 _ (A04 hpos);obtain⟨ba,oa,a',c',rfl,ea,es⟩:=h.row (Gj htk);rw[A0p]at ea;generalize A[0].length=r0 at *
  refine G.a ba oa A.length c 0 1 oV ?_;refine G.lU none ba (oa+0*1) (.slice a' r0 c') ea ?_;refine G.maxI [3,3] (A.length:Int) (r0:Int) ((max A.length r0:Nat):Int) kV oV ?_;refine G.c call150 (hof _ _ h) ?_;rintro v1 u1 l1 ⟨D,hD0,hDL,hdv,hTab⟩;have hTab':=hTab;obtain⟨x1,x2,x3,x4,x5,x6,x7,rfl,_,_⟩:=hTab;refine G.c call214 (hdig _ _ D (ht.mono l1) hTab' hDL hD0 hdv) ?_;rintro v2 u2 l2 ⟨n,rfl,hn⟩;have hm:max A.length r0*n<=600:=A0q (A3j (by omega:max A.length r0<=N) hn) hNK;refine G.mul ((max A.length r0:Nat):Int) (n:Int) ((max A.length r0*n:Nat):Int) kV (by push_cast;rfl) oV oV ?_;refine G.gF ((max A.length r0*n:Nat):Int) 600 ?_;exact G.r (.bool false) ⟨rfl,rfl⟩
 ·refine G.gF (A.length:Int) 0 ?_;refine G.c call150 (hof _ _ h) ?_;rintro v1 u1 l1 ⟨D,hD0,hDL,hdv,hTab⟩;have hTab':=hTab;obtain⟨x1,x2,x3,x4,x5,x6,x7,rfl,_,_⟩:=hTab;refine G.c call214 (hdig _ _ D (ht.mono l1) hTab' hDL hD0 hdv) ?_;rintro v2 u2 l2 ⟨n,rfl,hn⟩;have h0:A.length=0:=oV
  refine G.mul (A.length:Int) (n:Int) 0 kV (by rw[h0];simp) oV oV ?_;refine G.gF 0 600 ?_;exact G.r (.bool false) ⟨rfl,rfl⟩
structure Az1 (A:List (List Rat))(L K:Nat):Prop where
 den:∀ r∈A,∀ q∈r,q.den ∣ L
 pos:0<L
 nl:nl L<=1000000000
 dig:∀ D:Nat,D ∣ L->0<D->A1v D<=K/\∀ r∈A,∀ q∈r,q.den ∣ D->A1v (q.num*((D/q.den:Nat):Int)).natAbs<=K
end
section
variable [Cc] [Dy]
structure Arr where
 v:Value
 t:TypeId
 sz:Nat
 es:List Value
def Arr.At (a:Arr)(m0 m:PH):Prop:=Ae m0 m a.v a.t a.sz a.es
def Bag:PH->List Arr->Prop
 |_,[]=>True
 |m,a::l=>∃ m0,a.At m0 m/\Bag m0 l
theorem Jg (m:PH){g h:Nat}(o p:Obj)(hn:g≠h):(m.upd g o).upd h p=(m.upd h p).upd g o:=by
 funext k
 unfold PH.upd;by_cases h1:k=g
 ·subst h1;simp[hn]
 ·by_cases h2:k=h
  ·subst h2;simp[h1]
  ·simp[h1,h2]
theorem At.swap {x y:Arr}{m0 m1 m:PH}(hy:y.At m1 m)(hx:x.At m0 m1):∃ m2,y.At m0 m2/\x.At m2 m/\∀ (x':Arr) m',x'.At m2 m'->∃ m1',y.At m1' m'/\x'.At m0 m1':=by
 obtain⟨oy,hy⟩:=hy;rcases hy with ⟨y1,y2,rfl⟩|⟨h,cap,rest,y1,rfl,y2,y3,y4,y5⟩
 ·exact⟨m0,⟨oy,.inl ⟨y1,y2,rfl⟩⟩,hx,fun x' m' hx'=>⟨m',⟨oy,.inl ⟨y1,y2,rfl⟩⟩,hx'⟩⟩
 ·obtain⟨ox,hx⟩:=hx;rcases hx with ⟨x1,x2,rfl⟩|⟨g,cap',rest',x1,rfl,x2,x3,x4,x5⟩
  ·refine⟨_,⟨oy,.inr ⟨h,cap,rest,y1,rfl,y2,y3,y4,y5⟩⟩,⟨ox,.inl ⟨x1,x2,rfl⟩⟩,fun x' m' hx'=>?_⟩;obtain⟨ox',hx'⟩:=hx';rcases hx' with ⟨z1,z2,rfl⟩|⟨g',cap'',rest'',z1,rfl,z2,z3,z4,z5⟩
   ·exact⟨_,⟨oy,.inr ⟨h,cap,rest,y1,rfl,y2,y3,y4,y5⟩⟩,⟨ox',.inl ⟨z1,z2,rfl⟩⟩⟩
   ·have hne:g'≠h:=fun e=>by subst e;rw[Ac]at z1;cases z1
    rw[Ad _ _ hne]at z1;refine⟨_,⟨oy,.inr ⟨h,cap,rest,?_,Jg _ _ _ hne.symm,y2,y3,y4,y5⟩⟩,⟨ox',.inr ⟨g',cap'',rest'',z1,rfl,z2,z3,z4,z5⟩⟩⟩;rw[Ad _ _ hne.symm];exact y1
  ·have hne:h≠g:=fun e=>by subst e;rw[Ac]at y1;cases y1
   rw[Ad _ _ hne]at y1;refine⟨_,⟨oy,.inr ⟨h,cap,rest,y1,rfl,y2,y3,y4,y5⟩⟩,⟨ox,.inr ⟨g,cap',rest',?_,Jg _ _ _ hne.symm,x2,x3,x4,x5⟩⟩,fun x' m' hx'=>?_⟩
   ·rw[Ad _ _ hne.symm];exact x1
   ·obtain⟨ox',hx'⟩:=hx';rcases hx' with ⟨z1,z2,rfl⟩|⟨g',cap'',rest'',z1,rfl,z2,z3,z4,z5⟩
    ·exact⟨_,⟨oy,.inr ⟨h,cap,rest,y1,rfl,y2,y3,y4,y5⟩⟩,⟨ox',.inl ⟨z1,z2,rfl⟩⟩⟩
    ·have hne':g'≠h:=fun e=>by subst e;rw[Ac]at z1;cases z1
     rw[Ad _ _ hne']at z1;refine⟨_,⟨oy,.inr ⟨h,cap,rest,?_,Jg _ _ _ hne'.symm,y2,y3,y4,y5⟩⟩,⟨ox',.inr ⟨g',cap'',rest'',z1,rfl,z2,z3,z4,z5⟩⟩⟩;rw[Ad _ _ hne'.symm];exact y1
theorem Bag.focus:∀ {l:List Arr} {m:PH} (_:Bag m l) (i:Nat) {x:Arr},l[i]?=some x->∃ m0,x.At m0 m/\∀ (x':Arr) m',x'.At m0 m'->Bag m' (l.set i x')
 |[],m,_,i,x,hi=>by simp at hi
 |y::l,m,⟨m1,hy,hl⟩,0,x,hi=>by
  simp at hi;subst hi;exact⟨m1,hy,fun x' m' hx'=>⟨m1,hx',hl⟩⟩
 |y::l,m,⟨m1,hy,hl⟩,i+1,x,hi=>by
  simp at hi;obtain⟨m0,hx,hput⟩:=Bag.focus hl i hi;obtain⟨m2,hy2,hx2,hk⟩:=At.swap hy hx;refine⟨m2,hx2,fun x' m' hx'=>?_⟩;obtain⟨m1',k1,k2⟩:=hk x' m' hx';exact⟨m1',k1,hput x' m1' k2⟩
theorem Bag.take:∀ {l:List Arr} {m:PH} (_:Bag m l) (i:Nat) {x:Arr},l[i]?=some x->∃ m0,x.At m0 m/\Bag m0 (l.eraseIdx i)
 |[],m,_,i,x,hi=>by simp at hi
 |y::l,m,⟨m1,hy,hl⟩,0,x,hi=>by
  simp at hi;subst hi;exact⟨m1,hy,hl⟩
 |y::l,m,⟨m1,hy,hl⟩,i+1,x,hi=>by
  simp at hi;obtain⟨m0,hx,hput⟩:=Bag.take hl i hi;obtain⟨m2,hy2,hx2,hk⟩:=At.swap hy hx;exact⟨m2,hx2,m0,hy2,hput⟩
theorem Bag.el {l:List Arr}{m:PH}(h:Bag m l)(i:Nat){x:Arr}(hi:l[i]?=some x){b n c j:Nat}{e:Value}(hv:x.v=.slice (some ⟨b,0,none⟩) n c)(hj:x.es[j]?=some e):ElP m b (0+j*x.sz) e:=by
 obtain⟨m0,hx,_⟩:=h.focus i hi;unfold Arr.At at hx;rw[hv]at hx;exact hx.el hj
theorem Bag.shape {l:List Arr}{m:PH}(h:Bag m l)(i:Nat){x:Arr}(hi:l[i]?=some x):∃ a c,x.v=.slice a x.es.length c:=by
 obtain⟨m0,hx,_⟩:=h.focus i hi;exact hx.shape
theorem Bag.ptr {l:List Arr}{m:PH}(h:Bag m l)(i:Nat){x:Arr}(hi:l[i]?=some x)(hn:x.es≠[]):∃ b c,x.v=.slice (some ⟨b,0,none⟩) x.es.length c:=by
 obtain⟨m0,hx,_⟩:=h.focus i hi;exact hx.ptr hn
section rules
variable {P:Program} [Ba P] {fn:Func} {Post:B0} {st:List KI×S} {u m:PH}
theorem G.callO (f:Nat)(args:List Value){R:Value->PH->PH->Prop}(h:Al P (adv P st)=.call f args)(hc:∀ args w,(callFunc f args).run P w=.ok (.enter f args) w)(c:Ai P f args u PH.mt R)
 (k:∀ v u' mc,PH.le u u'->R v u' mc->(∀ g,mc g≠none->m g=none)->G P fn Post (nx (adv P st) v) u' (m.or mc)):G P fn Post st u m:=by
 refine G.big (K:=fun v u' m'=>∃ mc,m'=m.or mc/\R v u' mc/\∀ g,mc g≠none->m g=none) h mV Fm (.inl fun v u' m' hK=>?_) (fun env o hview w hgd=>?_) (fun v u' m' h1 h2=>?_)
 ·obtain⟨mc,rfl,_⟩:=hK;exact fun g o hg=>PH.or_l hg
 ·refine Lz hview hc w _ (Calls.mono (c w hgd.noM) fun e w' he=>?_);obtain⟨v,u',mc,e1,e2,e3,e4⟩:=he;have hor:m.or PH.mt=m:=by
   funext g;unfold PH.or;split
   ·rename_i o e;rw[e]
   ·rename_i e;rw[e];rfl
  have hfr:∀ g,mc g≠none->m g=none:=fun g hg=>by
   rcases A11 g w.heap.size with hlt|hge
   ·exact absurd (e3.ms g hlt rfl) hg
   ·exact hgd.pm.none hge
  obtain⟨g1,g2⟩:=Bx.frameM (mf:=m) (mc:=PH.mt) (by rw[hor];exact hgd) (fun _=>.inr rfl) e2 e3;rw[hor]at g2;exact⟨v,e1,u',m.or mc,g1,g2,mc,rfl,e4,hfr⟩
 ·obtain⟨mc,rfl,hR,hf⟩:=h2;exact k v u' mc h1 hR hf
theorem Uw {env:Operand->Value}{o:Op}{ts:List TypeId}{xs:List Value}(h:A7 P env o=.blt .copy ts xs):Ke o=true/\D6 o=false:=by
 obtain⟨c,rfl,h2,_⟩:=Ou h;obtain⟨cal,a,t⟩:=c;simp only at h2;subst h2;exact⟨rfl,rfl⟩
theorem G.copyM (dT sT e:TypeId)(sz g o n c:Nat)(a:Addr)(sn sc:Nat)(t:TypeId)(cur cs:List Value)(h:Al P (adv P st)=.blt .copy [dT,sT] [.slice (some ⟨g,o,none⟩) n c,.slice (some a) sn sc])
 (hu:P.underlying dT=some (.slice e)) (hsz:szB P e=some sz) (hb:m g=some (.cells cur.toArray t (0,0))) (hk:cs.length=A4m sn n*sz)
 (hsrc:∀ w,Eb u w->Eb m w->∀ (j:Nat) (v:Value),cs[j]?=some v->w.cell? (a.add j)=some v) (hfit:o+cs.length<=cur.length) (h1:∀ x∈cs,Be x=true) (h2:∀ x∈cur,Be x=true)
 (k:G P fn Post (nx (adv P st) (.int .i64 ((A4m sn n:Nat):Int))) u (m.upd g (.cells (cur.take o++cs++cur.drop (o+cs.length)).toArray t (0,0)))):G P fn Post st u m:=by
 refine G.big (K:=fun v' u' m'=>u'=u/\v'=.int .i64 ((A4m sn n:Nat):Int)/\m'=m.upd g (.cells (cur.take o++cs++cur.drop (o+cs.length)).toArray t (0,0))) h mV (fun env op hv=>(Uw hv).2) (.inr fun env op hv=>(Uw hv).1) (fun env op hview w hgd=>?_) (fun v' u' m' _ hk=>?_)
 ·obtain⟨cc,e1,e2,e3,e4⟩:=Ou hview;obtain⟨dst,opp,type,pos,after,guard⟩:=op;obtain⟨cal,ar,ty⟩:=cc;simp only at e1 e2 e3 e4;subst e1 e2 e3;have hgw:=hgd.pm g _ hb;have hl:=run_loadCells_list (P:=P) w a cs (hsrc w hgd.pu hgd.pm);have hst:=run_storeCells_at P g o t cs 0 cur.toArray w hgw (by simpa using hfit) (fun x hx=>Aqt (h1 x hx));have hrun:(Builtin.copy_ #[dT,sT] type #[.slice (some ⟨g,o,none⟩) n c,.slice (some a) sn sc]).run P w=.ok (.int .i64 ((A4m sn n:Nat):Int)) (w.setRow g (cur.take o++cs++cur.drop (o+cs.length)).toArray):=by
   simp only[A3f,A2z]at hst;simp[Builtin.copy_,run_underlying hu,Builtin.lenOf,Builtin.firstCells,Bf hsz,<-hk,hl];rw[hst];simp[goInt]
  have hcell:∀ x∈(cur.take o++cs++cur.drop (o+cs.length)).toArray.toList,Be x=true:=by
   intro x hx;simp only[A2z,A01]at hx;rcases hx with (hx|hx)|hx
   ·exact h2 x (A2r hx)
   ·exact h1 x hx
   ·exact h2 x (A3k hx)
  obtain⟨g1,g2⟩:=hgd.setM hb hcell;unfold D3;have hex:(execOp env ⟨dst,.call ⟨.builtin .copy,ar,#[dT,sT]⟩,type,pos,after,guard⟩).run P w=.ok (.value (.int .i64 ((A4m sn n:Nat):Int))) (w.setRow g (cur.take o++cs++cur.drop (o+cs.length)).toArray):=by
   simp[execOp,resolve,invoke,builtin,e4,hrun]
  rw[hex];exact⟨u,_,g1,g2,rfl,rfl,rfl⟩
 ·obtain⟨rfl,rfl,rfl⟩:=hk;exact k
end rules
end
section
variable {e z:Value}{es:List Value}{k n q sz:Nat}
theorem Afq (h:A3 sz es)(k:Nat):(Az es).take (k*sz)=Az (es.take k):=by
 by_cases hk:k<=es.length
 ·have e:Az es=Az (es.take k)++Az (es.drop k):=by rw[<-Co,A37]
  have hl:(Az (es.take k)).length=k*sz:=by rw[A2 (sz:=sz) (fun x hx=>h x (A2r hx)),A00];congr 1;omega
  rw[e,List.take_append_of_le_length oV,<-hl,A1k]
 ·rw[A03 (by rw[A2 h];exact A12 _ oV),A03 oV]
theorem Aes (h:A3 sz es)(k:Nat):(Az es).drop (k*sz)=Az (es.drop k):=by
 by_cases hk:k<=es.length
 ·have e:Az es=Az (es.take k)++Az (es.drop k):=by rw[<-Co,A37]
  have hl:(Az (es.take k)).length=k*sz:=by rw[A2 (sz:=sz) (fun x hx=>h x (A2r hx)),A00];congr 1;omega
  rw[e,<-hl,List.drop_left]
 ·rw[A1u (by rw[A2 h];exact A12 _ oV),A1u oV];rfl
theorem A3.replicate (h:A3 sz [e])(n:Nat):A3 sz (A0x n e):=fun x hx=>h x (by rw[List.eq_of_mem_replicate hx];simp)
section rules
variable {P:Program} [Ba P] {fn:Func} {Post:B0} {st:List KI×S} {u m:PH}
theorem G.copyA (dT sT e:TypeId)(sz g n k:Nat)(a:Addr)(sn sc c:Nat)(t:TypeId)(m0:PH)(es xs:List Value)(h:Al P (adv P st)=.blt .copy [dT,sT] [.slice (some ⟨g,0+k*sz,none⟩) (n-k) c,.slice (some a) sn sc])
 (hu:P.underlying dT=some (.slice e)) (hsz:szB P e=some sz) (ha:Ae m0 m (.slice (some ⟨g,0,none⟩) n n) t sz es) (ho:A3 sz xs) (hk:xs.length=A4m sn (n-k)) (hkn:k<=n)
 (hsrc:∀ w,Eb u w->Eb m w->∀ (j:Nat) (v:Value),(Az xs)[j]?=some v->w.cell? (a.add j)=some v)
 (kk:∀ m',Ae m0 m' (.slice (some ⟨g,0,none⟩) n n) t sz (es.take k++xs++es.drop (k+xs.length))->G P fn Post (nx (adv P st) (.int .i64 ((A4m sn (n-k):Nat):Int))) u m'):G P fn Post st u m:=by
 have hlen:=ha.len;obtain⟨hoe,h'⟩:=ha;rcases h' with ⟨h1,_,_⟩|⟨g',cap,rest,h1,rfl,h2,h3,h4,h5⟩
 ·simp at h1
 simp only[A09,A0t,Addr.mk.injEq,and_true]at h2;obtain⟨rfl,h2,rfl⟩:=h2;have hr:rest = []:=by
  rw[A0z,A2 hoe,<-h2]at h4;exact List.eq_nil_of_length_eq_zero oV
 subst hr;simp only[A1i]at h4⊢;have hmin:A4m sn (n-k)<=n-k:=A7w _ _;have hfl:(Az xs).length=A4m sn (n-k)*sz:=by rw[A2 ho,hk]
 refine G.copyM dT sT e sz g (0+k*sz) (n-k) c a sn sc t (Az es) (Az xs) h hu hsz (Ac _ _ _) hfl (by simpa using hsrc) (by rw[hfl,A2 hoe,<-h2,A2b,<-A1o];exact A12 _ oV) (Ep ho) (Ep hoe) ?_;rw[Dh];refine kk _ ⟨?_,.inr ⟨g,n,[],h1,?_,?_,?_,?_,mV⟩⟩
 ·exact ((A3.append (fun x hx=>hoe x (A2r hx)) ho).append (fun x hx=>hoe x (A3k hx)))
 ·congr 3
  rw[A2b,Afq hoe,hfl,<-A1o,Aes hoe,<-Co,<-Co,A1i,hk]
 ·congr 1
  simp only[A0z,A00,A5e,hk];omega
 ·simp only[A0z,A00,A5e,hk];omega
 ·rw[A1i,A2 (sz:=sz)]
  ·congr 1
   simp only[A0z,A00,A5e,hk];omega
  ·exact ((A3.append (fun x hx=>hoe x (A2r hx)) ho).append (fun x hx=>hoe x (A3k hx)))
end rules
theorem Ajc {u:PH}(hn:n<=1000000):Fn0 prog 247 [.int .u64 1,.int .u64 (n:Int)] u fun v _=>v=.tuple #[.int .u64 0,.int .u64 (n:Int)]:=by
 refine Fn0.ofW (fun v _=>v=.tuple #[.int .u64 0,.int .u64 (n:Int)]) (fun w _=>(Tryz.bits_Mul 1 n oV oV w).mono fun _ _ ⟨e,h⟩=>⟨_,e,?_,by rw[h];exact Ext.refl _⟩) (fun _ _ _ h _ _ _=>h);rw[Nat.one_mul,Nat.div_eq_of_lt oV,Nat.mod_eq_of_lt oV];rfl
theorem X8 {z:Int}(h1:0<=z)(h2:z<18446744073709551616):IntKind.u64.wrap z=z:=by
 simp only[IntKind.wrap,IntKind.signed,IntKind.bits];simp;omega
theorem Yb (hk:k+q<=n):(A0x k e++A0x (n-k) z).take k++A0x q e++(A0x k e++A0x (n-k) z).drop (k+(A0x q e).length)=A0x (k+q) e++A0x (n-(k+q)) z:=by
 rw[List.take_left' mV,A3e,List.drop_append,A1u mV,A3e,A2t,List.drop_replicate,List.replicate_append_replicate]
 congr 2;omega
theorem Ai3 {g q k r:Nat}{u m m0:PH}{t:TypeId}(ho:A3 sz [e])(hq:q<=k)(hsz:0<sz)(hA:Ae m0 m (.slice (some ⟨g,0,none⟩) n n) t sz (A0x k e++A0x r z)) :
 ∀ w,Eb u w->Eb m w->∀ (j:Nat) (v:Value),(Az (A0x q e))[j]?=some v->w.cell? ((⟨g,0,none⟩:Addr).add j)=some v:=by
 intro w _ hp j v hj;refine El.cells (u:=m) (b:=g) (off:=0) hsz (fun i x hi=>?_) (ho.replicate q) hp j v hj;have hlt:i<q:=by
  rcases A11 i q with h|h
  ·exact h
  ·rw[A1g (by simpa using h)]at hi;cases hi
 have hx:x=e:=by rw[A54,if_pos hlt]at hi;exact (A2d hi).symm
 subst hx;refine hA.el ?_;rw[A1d gV,A54,if_pos oV]
theorem Re {u:PH}{v e:Value}(h:Ab u v 1 [e])(ho:A3 1 [e])(hn:n<=1000000) :
 Fn0 prog 191 [v,.int .i64 (n:Int)] u fun v' u'=>Ab u' v' 1 (A0x n e):=by
 obtain⟨a,c,rfl⟩:=h.opn;have hea:=Ab.at' h (j:=0) (e:=e) rfl;obtain⟨b,off,rfl,hel⟩:=hea;refine Fn0.o func191 ?_;refine G.lF (n:Int) 0 ?_;refine G.convI .i64 .u64 .i64 1 1 kV (X8 oV oV) ?_;refine G.convI .i64 .u64 .i64 (n:Int) (n:Int) kV (X8 oV oV) ?_;refine G.c call247 (Ajc hn) ?_;rintro v1 u1 l1 rfl;refine G.cmpG .gtr .u64 0 0 false kV rfl rfl ?_;refine G.cmpG .gtr .u64 (n:Int) 9223372036854775807 false kV rfl (by simp only[B4,decide_eq_false_iff_not];omega) ?_;refine G.convI .u64 .i64 .u64 (n:Int) (n:Int) kV (Cl oV oV) ?_;refine G.make 33 1 16 (.string (mkS [])) n kV rfl rfl oV oV oV ?_;rintro v2 m2 hA ⟨a2,rfl⟩;obtain⟨g,rfl,hg⟩:=hA.some';have hmn:A4m 1 (n-0)<=1:=Bbu _ _;refine G.copyA 84 84 33 1 g n 0 ⟨b,off,none⟩ 1 c n 33 PH.mt (A0x n (.string (mkS []))) (A0x (A4m 1 (n-0)) e) kV kV kV hA (ho.replicate _) mV (A1m _) (fun w hp _ j x hj=>?_) ?_
 ·refine El.cells (u:=u) (b:=b) (off:=off) (sz:=1) oV (fun i y hi=>?_) (ho.replicate _) (fun g o hg=>hp g o (l1 g o hg)) j x hj;have hlt:i<A4m 1 (n-0):=by
   rcases A11 i (A4m 1 (n-0)) with h|h
   ·exact h
   ·rw[A1g (by simpa using h)]at hi;cases hi
  rw[A54,if_pos hlt]at hi;have hy:y=e:=(A2d hi).symm;subst hy;have:i=0:=oV
  subst this;exact hel
 intro m3 hA3;have hs3:=Yb (e:=e) (z:=.string (mkS [])) (n:=n) (k:=0) (q:=A4m 1 (n-0)) (by have:A4m 1 (n-0)<=n-0:=A7w _ _;omega);simp only[A5c,A2t,A6i,A2b]at hs3 hA3;rw[hs3]at hA3;clear hs3;refine G.l (ι:=Nat) (fun k=>[(7,sV (some ⟨g,0,none⟩) n n),(8,iV k)]) (fun _=>[])
  (fun k u' m'=>k<=n/\(k=0->n=0)/\Ae PH.mt m' (.slice (some ⟨g,0,none⟩) n n) 33 1 (A0x k e++A0x (n-k) (.string (mkS [])))) (fun k=>n-k) (A4m 1 n)
  ⟨A7w _ _,fun h=>by have h':min 1 n=0:=h;omega,hA3⟩ ?_
 rintro J k hJ u4 m4 l4 ⟨hk,hk0,hA4⟩;by_cases hlt:k<n
 ·refine G.lT (k:Int) (n:Int) ?_;refine G.sliceFrom g 0 n n k 1 kV oV hlt ?_;refine G.sliceTo 1 (some ⟨g,0,none⟩) n n k kV oV ?_;have hq1:A4m k (n-k)<=k:=Bbu _ _;have hq2:A4m k (n-k)<=n-k:=A7w _ _;have hq3:0<A4m k (n-k):=by show 0<min k (n-k);omega
  refine G.copyA 84 84 33 1 g n k ⟨g,0,none⟩ k n (n-k) 33 PH.mt _ (A0x (A4m k (n-k)) e) kV kV kV hA4 (ho.replicate _) mV hk (Ai3 ho hq1 oV hA4) ?_;intro m5 hA5;rw[Yb oV]at hA5;generalize A4m k (n-k)=q at *
  refine G.p (k:Int) (q:Int) ((k+q:Nat):Int) ?_;exact G.b (hJ (k+q) _ _ _ cV l4 ⟨oV,oV,hA5⟩ oV)
 ·obtain rfl:k=n:=oV
  refine G.lF (k:Int) (k:Int) ?_;rw[A45,A5c,A1i]at hA4;refine G.give PH.mt _ _ kV hA4 (fun _=>.inl rfl) ?_;intro u5 l5 hL;exact G.r (.slice (some ⟨g,0,none⟩) k k) ⟨rfl,hL⟩
end
section
variable {q:Rat}
def sg (q:Rat):Int:=if q<0 then -1 else if 0<q then 1 else 0
theorem Xs (h:0<q):sg q=1:=by unfold sg;rw[if_neg (by grind),if_pos h]
theorem Anm (h:q<0):sg q = -1:=by unfold sg;rw[if_pos h]
theorem Aed:sg 0=0:=by simp[sg]
theorem Ai6 (q:Rat):(q<0/\sg q = -1)\/(q=0/\sg q=0)\/(0<q/\sg q=1):=by
 by_cases h:q<0
 ·exact .inl ⟨h,Anm h⟩
 ·by_cases h':0<q
  ·exact .inr (.inr ⟨h',Xs h'⟩)
  ·have:q=0:=by grind
   exact .inr (.inl ⟨this,by rw[this];exact Aed⟩)
end
section
def gR (l:List Rat)(i:Nat):Rat:=l.getD i 0
def gM (M:List (List Rat))(i:Nat):List Rat:=M.getD i []
end
section

end
section

end
section
variable {es:List Value}{i j k:Nat}{l:List Rat}{q r:Rat}
section rules
variable {P:Program} [Ba P] {fn:Func} {Post:B0} {st:List KI×S} {u m:PH}
end rules
theorem Ab.take' {u:PH}{a:Option Addr}{n c sz:Nat}(h:Ab u (.slice a n c) sz es)(k:Nat)(hk:k<=es.length):Ab u (.slice a k c) sz (es.take k):=by
 obtain⟨a',c',h1,h2,h3⟩:=h;simp only[A09]at h1;obtain⟨rfl,_,rfl⟩:=h1;refine⟨a,c,by rw[A00,Nat.min_eq_left hk],by rw[A00];omega,fun j e hj=>?_⟩;rw[List.getElem?_take]at hj;split at hj
 ·exact h3 j e hj
 ·cases hj
theorem AtP.at {α:Type}{R:PH->Value->α->Prop}{u:PH}{xs:List α}(h:AtP R u es xs)(hj:j<xs.length):∃ e,es[j]?=some e/\R u e xs[j]:=h.2 j _ (A0n hj)
theorem AtP.ok4 {u:PH}{qs:List Rat}(h:AtP Av u es qs):A3 4 es:=by
 intro e he;obtain⟨j,hj,rfl⟩:=A2u.1 he;obtain⟨e',h1,h2⟩:=h.2 j (qs[j]'(by rw[<-h.1];exact hj)) (A0n _);rw[A0n hj]at h1;rw[A2d h1];exact h2.ok _ mV
theorem Mj (h:i<l.length):gR l i=l[i]:=by simp[gR,h]
theorem At3 (h:i<l.length):gR l i∈l:=by rw[Mj h];exact A04 h
theorem Xn (q:Rat):sgn q.num=sg q:=by
 rcases Ai6 q with ⟨h,e⟩|⟨h,e⟩|⟨h,e⟩
 ·rw[e];refine C0 ?_;have:¬ (0<=q.num):=fun h'=>by have:=Rat.num_nonneg.1 h';grind
  omega
 ·subst h;rw[e];rfl
 ·rw[e];refine B9 ?_;have h1:0<=q.num:=Rat.num_nonneg.2 (by grind);have h2:q.num≠0:=fun h'=>by have:=Rat.num_eq_zero.1 h';grind
  omega
theorem Agl {z:Int}(h:z.natAbs<1000000000):Sz (z:Rat) 1:=⟨A4 (by simpa using h),A4 mV⟩
theorem Ly (h:Sz q j)(h':Sz r k):Sz (q+r) (j+k+1):=by
 rw[<-Nx q r];have a1:=Fp q.num.natAbs r.den;have a2:=Fp r.num.natAbs q.den;have a3:=Fp q.den r.den;have a4:=Aie (q.num.natAbs*r.den) (r.num.natAbs*q.den);have a5:(q.num*(r.den:Int)+r.num*(q.den:Int)).natAbs<=q.num.natAbs*r.den+r.num.natAbs*q.den:=by
  refine A0q (Int.natAbs_add_le _ _) ?_;rw[A30,A30];simp
 have a6:=C6 a5;have:=h.1;have:=h.2;have:=h'.1;have:=h'.2;exact Hd (Kv q r) oV (by rw[A30];simp only[A1z];omega)
theorem Aok (h:Sz q k):Sz (-q) k:=⟨by rw[Rat.neg_num,Int.natAbs_neg];exact h.1,by rw[Rat.neg_den];exact h.2⟩
theorem Ie (h:Sz q j)(h':Sz r k):Sz (q-r) (j+k+1):=by
 rw[Rat.sub_eq_add_neg];exact Ly h (Aok h')
theorem In (h:Sz q j)(h':Sz r k):Sz (q*r) (j+k):=by
 rw[<-Wf q r];have a1:=Fp q.num.natAbs r.num.natAbs;have a3:=Fp q.den r.den;have:=h.1;have:=h.2;have:=h'.1;have:=h'.2;exact Hd (Kv q r) (by rw[A30];omega) (by rw[A30];simp only[A1z];omega)
end
section
end
section
variable {M:List (List Rat)}{q:Rat}
structure F4 where
 b:Bool
 a:Option Addr
 n:Nat
 c:Nat
 b':Bool
 a':Option Addr
 n':Nat
 c':Nat
def fv (f:F4):Value:=.agg #[.bool f.b,.slice f.a f.n f.c,.bool f.b',.slice f.a' f.n' f.c']
def fc (f:F4):List SV:=[.v (.bool f.b),.v (.slice f.a f.n f.c),.v (.bool f.b'),.v (.slice f.a' f.n' f.c')]
theorem Av.opF {u:PH}{v:Value}(h:Av u v q):∃ f,v=fv f:=by
 obtain⟨b,a,n,c,b',a',n',c',rfl⟩:=h.opn;exact⟨⟨b,a,n,c,b',a',n',c'⟩,rfl⟩
theorem Bds (f:F4):A3 4 [fv f]:=by
 intro x hx;simp at hx;subst hx;exact⟨rfl,fun y hy=>by simp[fv,A1e]at hy;rcases hy with rfl|rfl|rfl|rfl<;>rfl⟩
theorem Bag.perm {l l':List Arr}(h:l.Perm l'):∀ {m:PH},Bag m l->Bag m l':=by
 induction h with
 |nil=>exact fun h=>h
 |cons x _ ih=>exact fun⟨m0,h1,h2⟩=>⟨m0,h1,ih h2⟩
 |swap x y l =>
  rintro m ⟨m1,hy,m0,hx,hl⟩;obtain⟨m2,k1,k2,_⟩:=At.swap hy hx;exact⟨m2,k2,m0,k1,hl⟩
 |trans _ _ h1 h2=>exact fun h=>h2 (h1 h)
section bag
variable {o:Arr} {rows:List (Value×List Value)} {rest:List Arr} {i j n:Nat} {r r':Value×List Value} {x x':Arr}
end bag
theorem Ka {i j:Nat}{q:List Rat}(hi:i<M.length):gM (M.set i q) j=if i=j then q else gM M j:=by
 unfold gM;simp only[A0o,A25];split
 ·rename_i e;subst e;simp
 ·rfl
theorem Aoj {l:List Rat}{i j:Nat}(hi:i<l.length):gR (l.set i q) j=if i=j then q else gR l j:=by
 unfold gR;simp only[A0o,A25];split
 ·rename_i e;subst e;simp
 ·rfl
theorem N6 {i:Nat}(h:i<M.length):gM M i=M[i]:=by simp[gM,h]
end
section
theorem Xv:Sz 0 1:=Agl (z:=0) fV
section steps
variable {fn:Func} {Post:B0} {u m:PH}
end steps
end
section
end
section
end
section
def Ku (q:Rat):Bool:=decide (q.num.natAbs<10^100)&&decide (q.den<10^100)
end
section
theorem Ed:∀ {k n:Nat} (_:0<k) (_:n<10^k),A1v n<=k
 |0,n,hk,h=>oV
 |k+1,n,hk,h=>by
  by_cases hn:n<10
  ·rw[A5a hn];omega
  ·rw[Lib.nDigits_big hn];have hk0:0<k:=by
    rcases A1p k with h0|h0
    ·subst h0;simp at h;omega
    ·exact h0
   have:=Ed (k:=k) (n:=n/10) hk0 (by rw[Nat.div_lt_iff_lt_mul oV,<-Nat.pow_succ];exact h);omega
theorem Qg {q:Rat}(h:Ku q=true):Tx q/\Sz q 12:=by
 simp only[Ku,Bool.and_eq_true,decide_eq_true_eq]at h;have h1:=Ed oV h.1;have h2:=Ed oV h.2;have e:(10:Nat)^100<=1000000000^12:=fV
 exact⟨⟨oV,oV⟩,A4 (A2e h.1 e),A4 (A2e h.2 e)⟩
end
section
section rules
variable {P:Program} [Ba P] {fn:Func} {Post:B0} {st:List KI×S} {u m:PH}
theorem G.buildM (e:TypeId)(sz bt:Nat)(z:Value)(es:List Value)(h:Al P (adv P st)=.buildS (some (e,sz,bt,z)) es.length (es.zipIdx.map fun p=>(p.2,p.1)))(ho:A3 sz es)(hzs:z.cells.size=sz)(hsz:0<sz)(hn0:0<es.length)(hb:es.length*sz<=16777216)
 (k:∀ g m',Ae m m' (.slice (some ⟨g,0,none⟩) es.length es.length) e sz es->G P fn Post (nx (adv P st) (.slice (some ⟨g,0,none⟩) es.length es.length)) u m'):G P fn Post st u m:=by
 refine G.big (K:=fun v' u' m'=>u'=u/\PH.le m m'/\∃ g,v'=.slice (some ⟨g,0,none⟩) es.length es.length/\Ae m m' (.slice (some ⟨g,0,none⟩) es.length es.length) e sz es) h mV (fun env op hv=>?_) (.inl fun v u' m' hk=>hk.2.1) (fun env o hview w hgd=>?_) (fun v' u' m' hle hk=>?_)
 ·obtain⟨t,qs,rfl,_⟩:=E1 hv;rfl
 ·obtain⟨t,qs,e1,e2,hi⟩:=E1 hview;obtain⟨dst,opp,type,pos,after,guard⟩:=o;simp only at e1;subst e1;obtain⟨hu,i,hi1,hi2,rfl,rfl⟩:=Df hi;obtain⟨g1,g2,g3,g4⟩:=hgd.newM (cs:=(Az es).toArray) (t:=e) (by simpa using Ep ho);have hfl:=A2 ho;have hne:es.length*i.size≠0:=by have:=Nat.mul_pos hn0 hsz;omega
  have hfill:=Oz es 0 ((A6d (es.length*i.size)).map (z.cells[· % z.cells.size]!)) ho mV;have e0:((A6d (es.length*i.size)).map (z.cells[· % z.cells.size]!)).toList.drop (es.length*i.size) = []:=by
   apply List.drop_eq_nil_of_le;simp
  simp only[Nat.zero_mul,List.take_zero,A2t,A2b,e0,A1i]at hfill;refine Bq (w':=w.alloc (.cells (Az es).toArray e (0,0))) (v:=.slice (some ⟨w.heap.size,0,none⟩) es.length es.length) ?_ ⟨u,_,g1,g2,rfl,Jw _ g3,_,rfl,ho,.inr ⟨w.heap.size,es.length,[],g3,by rw[A1i],rfl,A0w _,by rw[A1i,hfl],mV⟩⟩;simp only[execOp,e2];simp[Instr.buildSlice,run_underlying hu,sizeOf,typeInfo,zeroValue,hi1,hi2,hne,hfill,newRow,show ¬ 16777216<es.length*i.size by omega]
 ·obtain⟨rfl,_,g,rfl,hk⟩:=hk;exact k g m' hk
end rules
end
section
variable [Cc] [Dy]
section rules
variable {P:Program} [Ba P] {fn:Func} {Post:B0} {st:List KI×S} {u m:PH}
theorem Zy {env:Operand->Value}{o:Op}{t:TypeId}{x:Value}{f:Nat}(h:A7 P env o=.fieldA t x f):∃ X,o=.fieldAddr t X f/\env X=x:=by
 cases o<;>simp only[A7]at h<;>try cases h
 any_goals ((repeat' split at h)<;>cases h;done)
 ·exact⟨_,rfl,rfl⟩
theorem G.fieldA (t:TypeId)(b off f fo:Nat)(h:Al P (adv P st)=.fieldA t (.pointer (some ⟨b,off,none⟩)) f)(hf:Lq P t f=some fo)(k:G P fn Post (nx (adv P st) (.pointer (some ⟨b,off+fo,none⟩))) u m):G P fn Post st u m:=by
 refine G.ask h mV (fun env o hview w _=>?_) k;obtain⟨X,e,e1⟩:=Zy hview;obtain⟨dst,opp,type,pos,after,guard⟩:=o;simp only at e;subst e;unfold Lq at hf;split at hf
 ·rename_i fs hfs;split at hf
  ·rename_i fd hfd;split at hf
   ·rename_i n hn;simp only[A0t]at hf;subst hf;simp[execOp,Instr.fieldAt,run_underlying hfs,hfd,A3x,e1,fieldPlace,Bf hn,Db]
   ·cases hf
  ·cases hf
 ·cases hf
theorem G.remZ (x y z:Int)(h:Al P (adv P st)=.bin .rem (.int .i64 x) (.int .i64 y))(hy:0<y)(hy2:y<=9223372036854775807)(hz:x.tmod y=z)
 (k:G P fn Post (nx (adv P st) (.int .i64 z)) u m):G P fn Post st u m:=by
 refine G.bin _ h Cy (fun t w=>?_) k;have h4:¬ y=0:=oV
 have h5:-y<z/\z<y:=by
  rw[<-hz];have a1:=Bas x hy;have a2:=Bat x hy;exact⟨a2,a1⟩
 simp[binOp,Op.intDiv,h4,hz]
end rules
end
section
variable [Cc] [Dy]
variable {P:Program} [Ba P] {fn:Func} {Post:B0} {st:List KI×S} {u m:PH}
theorem G.f (t:TypeId)(b off f fo:Nat)(k:G P fn Post (nx (adv P st) (.pointer (some ⟨b,off+fo,none⟩))) u m)(h:Al P (adv P st)=.fieldA t (.pointer (some ⟨b,off,none⟩)) f:=by kernel_rfl)(hf:Lq P t f=some fo:=by kernel_rfl):G P fn Post st u m:=G.fieldA t b off f fo h hf k
end
section
end
section
variable {k:Nat}{m0:PH}
theorem Aii (m:PH):m.or PH.mt=m:=by
 funext g;unfold PH.or;split
 ·rename_i o e;rw[e]
 ·rename_i e;rw[e];rfl
theorem Agz (m0 m:PH){g:Nat}(o:Obj)(h:m0 g=none):m0.or (m.upd g o)=(m0.or m).upd g o:=by
 funext k
 by_cases e:k=g
 ·subst e;rw[PH.or_r h,Ac,Ac]
 ·rw[Ad _ _ e];unfold PH.or;split
  ·rfl
  ·rw[Ad _ _ e]
theorem Bag.or {l':List Arr}{m':PH}(h':Bag m' l'):∀ {l:List Arr} {m:PH},Bag m l->(∀ g,m g≠none->m' g=none)->Bag (m'.or m) (l++l')
 |[],m,h,hd=>by
  exact Bag.or_junk h' hd
 |x::l,m,⟨m0,hx,hl⟩,hd=>by
  obtain⟨ox,hx⟩:=hx;rcases hx with ⟨x1,x2,rfl⟩|⟨g,cap,rest,x1,rfl,x2,x3,x4,x5⟩
  ·exact⟨_,⟨ox,.inl ⟨x1,x2,rfl⟩⟩,Bag.or h' hl hd⟩
  ·have hg:m' g=none:=hd g (by rw[Ac];simp);refine⟨m'.or m0,⟨ox,.inr ⟨g,cap,rest,by rw[PH.or_r hg];exact x1,Agz _ _ _ hg,x2,x3,x4,x5⟩⟩,Bag.or h' hl (fun k hk=>hd k ?_)⟩;by_cases e:k=g
   ·subst e;rw[x1]at hk;exact absurd rfl hk
   ·rw[Ad _ _ e];exact hk
where
 Bag.or_junk {l':List Arr} {m' m:PH} (h':Bag m' l') (hd:∀ g,m g≠none->m' g=none):Bag (m'.or m) (l'):=by
  induction l' generalizing m' with
  |nil=>trivial
  |cons x l ih =>
   obtain⟨m0,⟨ox,hx⟩,hl⟩:=h';rcases hx with ⟨x1,x2,rfl⟩|⟨g,cap,rest,x1,rfl,x2,x3,x4,x5⟩
   ·exact⟨_,⟨ox,.inl ⟨x1,x2,rfl⟩⟩,ih hl hd⟩
   ·have hg:m g=none:=by
     cases e:m g with
     |none=>rfl
     |some o=>have:=hd g (by rw[e];simp);rw[Ac]at this;cases this
    refine⟨m0.or m,⟨ox,.inr ⟨g,cap,rest,by rw[PH.or_r x1];exact hg,?_,x2,x3,x4,x5⟩⟩,ih hl (fun k hk=>?_)⟩
    ·funext k
     by_cases e:k=g
     ·subst e;rw[Ac,PH.or_l (Ac _ _ _)]
     ·rw[Ad _ _ e];unfold PH.or;rw[Ad _ _ e]
    ·have:=hd k hk;by_cases e:k=g
     ·subst e;rw[Ac]at this;cases this
     ·rw[Ad _ _ e]at this;exact this
theorem Ae.list {m0 m u:PH}{v:Value}{t:TypeId}{sz:Nat}{es:List Value}(h:Ae m0 m v t sz es)(hl:PH.le m u):Ab u v sz es:=by
 obtain⟨ho,h⟩:=h;rcases h with ⟨rfl,rfl,_⟩|⟨g,cap,rest,_,rfl,rfl,hcap,hlen,_⟩
 ·exact Ab.nil _ _ _ _
 ·refine⟨_,_,rfl,hcap,fun j e hj=>⟨g,0,rfl,fun i x hx=>⟨_,_,_,hl _ _ (Ac _ _ _),?_⟩⟩⟩;rw[List.getElem?_toArray,A2b];have:=Gm ho hj hx;rw[A1d (by obtain⟨h,_⟩:=A0s.1 this;exact h)];exact this
theorem Bag.list {l:List Arr}{m u:PH}(h:Bag m l)(hl:PH.le m u)(i:Nat){x:Arr}(hi:l[i]?=some x):Ab u x.v x.sz x.es:=by
 obtain⟨m0,hx,_⟩:=h.focus i hi;exact Ae.list hx hl
section rules
variable [Cc] [Dy] {P:Program} [Ba P] {fn:Func} {Post:B0} {st:List KI×S} {u m:PH}
theorem G.callA (f:Nat)(args:List Value){mf mc:PH}{R:Value->PH->PH->Prop}(h:Al P (adv P st)=.call f args)(hdr:Tc (adv P st)=true)(hc:∀ args w,(callFunc f args).run P w=.ok (.enter f args) w)(hm:m=mf.or mc)(hd:Ki mf mc)(c:Ai P f args u mc R)
 (k:∀ v u' mc',PH.le u u'->R v u' mc'->Ki mf mc'->G P fn Post (nx (adv P st) v) u' (mf.or mc')):G P fn Post st u m:=by
 subst hm;refine G.bigN (K:=fun v u' m'=>∃ mc',m'=mf.or mc'/\R v u' mc'/\Ki mf mc') h mV hdr Fm (fun env o hview w hgd=>?_) (fun v u' m' h1 h2=>?_)
 ·have hgc:Bx u mc w:=hgd.less (fun g o hg=>by
   cases hx:mf g with
   |some o'=>have:=(hd g).resolve_left (by rw[hx];simp);rw[this]at hg;cases hg
   |none=>rw[PH.or_r hx];exact hg)
  refine Lz hview hc w _ (Calls.mono (c w hgc) fun e w' he=>?_);obtain⟨v,u',mc',e1,e2,e3,e4⟩:=he;obtain⟨g1,g2⟩:=hgd.frameM hd e2 e3;refine⟨v,e1,u',mf.or mc',g1,g2,mc',rfl,e4,fun g=>?_⟩;cases hx:mf g with
  |none=>exact .inl rfl
  |some o =>
   right;have hlt:=Bw (hgd.pm g o (PH.or_l hx));exact e3.ms g hlt ((hd g).resolve_left (by rw[hx];simp))
 ·obtain⟨mc',rfl,hR,hA⟩:=h2;exact k v u' mc' h1 hR hA
theorem G.giveP {ma sm:PH}(h:Fd (ctl P 100 st).1=true)(hm:m=ma.or sm)(ha:Ki ma sm)(h0:∀ g,Post.m0 g=none\/sm g≠none)(k:∀ u',PH.le u u'->PH.le ma u'->G P fn Post (ctl P 100 st) u' sm):G P fn Post st u m:=by
 subst hm;refine⟨Is 100 st ?_⟩;rw[Sym.ofNo h];intro c ρ a w hm0 hr;have hap:∀ g o,ma g=some o->u g=none:=fun g o hg=>(hr.gd.ap g).resolve_right (by rw[PH.or_l hg];simp);have hsm:∀ g o,sm g=some o->ma g=none:=fun g o hg=>(ha g).resolve_right (by rw[hg];simp);have hnew:∀ g o,ma g=some o->c.w0.heap.size<=g:=by
  intro g o hg;rcases A11 g c.w0.heap.size with hlt|hge
  ·have hpm:c.m0 g=none:=by
    rw[hm0];rcases h0 g with e|e
    ·exact e
    ·cases hs:sm g with
     |none=>exact absurd hs e
     |some o'=>have:=hsm g o' hs;rw[this]at hg;cases hg
   have:=hr.gr.ms g hlt hpm;rw[PH.or_l hg]at this;cases this
  ·exact hge
 have hle:PH.le u (ma.or u):=fun g o hg=>by
  cases hx:ma g with
  |none=>rw[PH.or_r hx];exact hg
  |some o'=>have:=hap g o' hx;rw[this]at hg;cases hg
 have hk:=(k (ma.or u) hle (fun g o hg=>PH.or_l hg)).out;rw[Sym.ofNo h]at hk;refine hk c ρ a w hm0 ⟨hr.sz,hr.tm,hr.df.of fun r e _ hu hm=>(by
  have hma:ma r=none:=(by
   cases hx:ma r with
   |none=>rfl
   |some o=>rw[PH.or_l hx]at hm;cases hm)
  rw[PH.or_r hma]at hm;exact⟨e,by rw[PH.or_r hma];exact hu,hm⟩),fun kk b hb=>?_,hr.inj,hr.lv,⟨fun g' o hg=>?_,fun g' o hg=>?_,fun g'=>?_,fun g' cs t' fr j z hg hj=>?_⟩,⟨hr.gr.sz,hr.gr.old,fun g' hg=>?_,fun g' hg hm=>?_,hr.gr.io,hr.gr.dr⟩⟩
 ·obtain⟨e1,e2,e3,e4⟩:=hr.box kk b hb;have hma:ma (ρ kk)=none:=by
   cases hx:ma (ρ kk) with
   |none=>rfl
   |some o=>rw[PH.or_l hx]at e4;cases e4
  rw[PH.or_r hma]at e4;exact⟨e1,e2,by rw[PH.or_r hma];exact e3,e4⟩
 ·cases hx:ma g' with
  |some o'=>rw[PH.or_l hx]at hg;cases hg;exact hr.gd.pm g' _ (PH.or_l hx)
  |none=>rw[PH.or_r hx]at hg;exact hr.gd.pu g' o hg
 ·exact hr.gd.pm g' o (by rw[PH.or_r (hsm g' o hg)];exact hg)
 ·cases hx:ma g' with
  |some o'=>right;exact (ha g').resolve_left (by rw[hx];simp)
  |none =>
   rw[PH.or_r hx];have:=hr.gd.ap g';rw[PH.or_r hx]at this;exact this
 ·cases hx:ma g' with
  |some o' =>
   rw[PH.or_l hx,<-hg];exact (hr.gd.pm g' _ (PH.or_l hx)).symm
  |none=>rw[PH.or_r hx];exact hr.gd.cl g' cs t' fr j z hg hj
 ·have hx:ma g'=none:=by
   cases hx:ma g' with
   |none=>rfl
   |some o=>have:=hnew g' o hx;omega
  rw[PH.or_r hx];exact hr.gr.us g' hg
 ·have:=hr.gr.ms g' hg hm;cases hx:ma g' with
  |some o=>have:=hnew g' o hx;omega
  |none=>rw[PH.or_r hx]at this;exact this
end rules
structure Src where
 g:Nat
 a:Option Addr
 n:Nat
 c:Nat
def Src.ptr (s:Src):Value:=.pointer (some ⟨s.g,0,none⟩)
def Src.el (s:Src)(k:Nat):Value:=.agg #[.slice s.a s.n s.c,.int .i64 (k:Int)]
def Src.M (s:Src)(k:Nat):PH:=PH.mt.upd s.g (.cells #[.slice s.a s.n s.c,.int .i64 (k:Int)] 97 (0,0))
def Src.arr (s:Src)(k:Nat):Arr:=⟨.slice (some ⟨s.g,0,none⟩) 1 1,97,2,[s.el k]⟩
theorem Src.el_ok (s:Src)(k:Nat):A3 2 [s.el k]:=by
 intro x hx;simp at hx;subst hx;exact⟨rfl,fun y hy=>by simp[Src.el,A1e]at hy;rcases hy with rfl|rfl<;>rfl⟩
theorem Src.at {s:Src}(h:m0 s.g=none):(s.arr k).At m0 (m0.or (s.M k)):=by
 refine⟨s.el_ok k,.inr ⟨s.g,1,[],h,?_,rfl,A0w _,rfl,mV⟩⟩;unfold Src.M;rw[Agz _ _ _ h,Aii];rfl
theorem Src.split {s:Src}{m0 m:PH}(h:(s.arr k).At m0 m):m=m0.or (s.M k)/\m0 s.g=none:=by
 obtain⟨_,h⟩:=h;rcases h with ⟨h,_,_⟩|⟨g,cap,rest,h1,rfl,h2,h3,h4,h5⟩
 ·simp[Src.arr]at h
 ·simp only[Src.arr,A09,A0t,Addr.mk.injEq,and_true]at h2;obtain⟨rfl,_,rfl⟩:=h2;have hr:rest = []:=by
   simp[Src.arr,Az,Src.el,A1e]at h4;exact h4
  subst hr;refine⟨?_,h1⟩;unfold Src.M;rw[Agz _ _ _ h1,Aii];rfl
theorem Src.apart {s:Src}(h:m0 s.g=none):Ki m0 (s.M k):=fun g=>by
 by_cases e:g=s.g
 ·subst e;exact .inl h
 ·right;unfold Src.M;rw[Ad _ _ e];rfl
structure Aq7 (u:PH)(s:Src)(ts:List Int):Prop where
 list:Ab u (.slice s.a s.n s.c) 1 (Dx ts)
 n:s.n=ts.length
 le:ts.length<=600
 lo:∀ t∈ts,-9223372036854775808<=t
 hi:∀ t∈ts,t<=9223372036854775807
theorem Aq7.mono {u u':PH}{s:Src}{ts:List Int}(h:Aq7 u s ts)(hl:PH.le u u'):Aq7 u' s ts:=⟨h.list.mono hl,h.n,h.le,h.lo,h.hi⟩
theorem Src.cell0 (s:Src)(k:Nat):ElP (s.M k) s.g (0+0) (.slice s.a s.n s.c):=fun i y hy=>by
 match i,hy with
 |0,hy=>simp[A1e]at hy;subst hy;exact⟨_,_,_,Ac _ _ _,rfl⟩
theorem Src.cell1 (s:Src)(k:Nat):ElP (s.M k) s.g (0+1) (.int .i64 (k:Int)):=fun i y hy=>by
 match i,hy with
 |0,hy=>simp[A1e]at hy;subst hy;exact⟨_,_,_,Ac _ _ _,rfl⟩
end
section
variable [Cc] [Dy]
variable {P:Program} [Ba P] {fn:Func} {Post:B0} {st:List KI×S} {u m:PH}
theorem G.A {f:Nat}{args:List Value}{R:Value->PH->PH->Prop}(hc:∀ args w,(callFunc f args).run P w=.ok (.enter f args) w)(c:Ai P f args u m R)(k:∀ v u' mc',PH.le u u'->R v u' mc'->Ki PH.mt mc'->G P fn Post (nx (adv P st) v) u' (PH.mt.or mc'))(h:Al P (adv P st)=.call f args:=by kernel_rfl)(hdr:Tc (adv P st)=true:=by kernel_rfl):G P fn Post st u m:=G.callA f args h hdr hc (C2 _).symm (Sj _) c k
theorem G.D {f:Nat}{args:List Value}{mf mc:PH}{R:Value->PH->PH->Prop}(hc:∀ args w,(callFunc f args).run P w=.ok (.enter f args) w)(hd:Ki mf mc)(c:Ai P f args u mc R)(k:∀ v u' mc',PH.le u u'->R v u' mc'->Ki mf mc'->G P fn Post (nx (adv P st) v) u' (mf.or mc'))(h:Al P (adv P st)=.call f args:=by kernel_rfl)(hdr:Tc (adv P st)=true:=by kernel_rfl):G P fn Post st u (mf.or mc):=G.callA f args h hdr hc rfl hd c k
end
section
variable {k n:Nat}{q:Rat}{s:Src}{ts:List Int}{u:PH}
theorem Ap1 {x:Int}(h1:-9223372036854775808<=x)(h2:x<=9223372036854775807)(hn:0<n)(hn2:n<=1000000) :
 Fn0 prog 157 [.int .i64 x,.int .i64 (n:Int)] u fun v _=>∃ r:Nat,v=.int .i64 (r:Int)/\r<n:=by
 refine Fn0.o func157 ?_;refine G.lF (n:Int) 1 ?_;have a1:=Bas x (show (0:Int)<n by omega);have a2:=Bat x (show (0:Int)<n by omega);refine G.remZ x (n:Int) (x.tmod n) kV oV oV rfl ?_;refine G.add (x.tmod n) (n:Int) (x.tmod n+n) kV rfl oV oV ?_;obtain⟨y,hy⟩:∃ y:Nat,x.tmod n+n=(y:Int):=⟨(x.tmod n+n).toNat,oV⟩;refine G.remZ (x.tmod n+n) (n:Int) ((y%n:Nat):Int) kV oV oV (by rw[hy,Int.tmod_eq_emod_of_nonneg oV];rfl) ?_;exact G.r _ ⟨rfl,y%n,rfl,Nat.mod_lt _ hn⟩
def Apq (s:Src)(n:Nat)(v:Value)(m':PH):Prop:=∃ r k:Nat,v=.int .i64 (r:Int)/\r<n/\k<=s.n/\m'=s.M k
theorem Ia (h:Aq7 u s ts)(hk:k<=s.n)(hn:0<n)(hn2:n<=1000000) :
 Ai prog 73 [s.ptr,.int .i64 (n:Int)] u (s.M k) fun v _ m'=>Apq s n v m':=by
 have hsn:=h.n;have hle:=h.le;refine Ai.o func73 ?_;refine G.f 97 s.g 0 1 1 ?_;refine G.lM none s.g (0+1) (.int .i64 (k:Int)) (s.cell1 k) ?_;refine G.f 97 s.g 0 0 0 ?_;refine G.lM none s.g (0+0) (.slice s.a s.n s.c) (s.cell0 k) ?_;by_cases hlt:k<s.n
 ·refine G.hF (k:Int) (s.n:Int) ?_;refine G.f 97 s.g 0 1 1 ?_;refine G.lM none s.g (0+1) (.int .i64 (k:Int)) (s.cell1 k) ?_;refine G.i k ?_;refine G.f 97 s.g 0 1 1 ?_;refine G.storeM 1 s.g (0+1) 97 [.slice s.a s.n s.c,.int .i64 (k:Int)] (.int .i64 ((k+1:Nat):Int)) kV (Ac _ _ _) (fun x hx=>by simp at hx;rcases hx with rfl|rfl<;>rfl) mV rfl rfl ?_
  have e:(s.M k).upd s.g (.cells (([A06 s.a s.n s.c,.int .i64 (k:Int)].take (0+1))++(A15 .i64 ((k+1:Nat):Int)).cells.toList++([A06 s.a s.n s.c,.int .i64 (k:Int)].drop (0+1+1))).toArray 97 (0,0))=s.M (k+1):=by
   unfold Src.M;rw[Dh];rfl
  rw[e];refine G.f 97 s.g 0 0 0 ?_;refine G.lM none s.g (0+0) (.slice s.a s.n s.c) (s.cell0 (k+1)) ?_;refine G.f 97 s.g 0 1 1 ?_;refine G.lM none s.g (0+1) (.int .i64 ((k+1:Nat):Int)) (s.cell1 (k+1)) ?_;refine G.s ((k+1:Nat):Int) 1 (k:Int) ?_;have hkt:k<ts.length:=oV
  obtain⟨b,off,ea,eb⟩:=Ab.at' h.list (j:=k) (e:=.int .i64 ts[k]) (by simp[Dx,A0n hkt]);obtain⟨g,a,n',c⟩:=s;simp only at ea hlt hk hsn;subst ea;refine G.a b off n' c k 1 hlt ?_;refine G.lU none b (off+k*1) (.int .i64 ts[k]) eb ?_;refine G.c call157 (Ap1 (h.lo _ (A04 hkt)) (h.hi _ (A04 hkt)) hn hn2) ?_;rintro v1 u1 l1 ⟨r,rfl,hr⟩;exact G.r _ ⟨r,k+1,rfl,hr,dV,rfl⟩
 ·refine G.hT (k:Int) (s.n:Int) ?_;exact G.r (.int .i64 0) ⟨0,k,rfl,hn,hk,rfl⟩
theorem Aet {lo hi:Int}(h:Aq7 u s ts)(hk:k<=s.n)(hlo:-1000000<=lo)(hlo2:lo<=1000000)(hn:hi-lo+1=(n:Int))(hn0:0<n)(hn2:n<=1000000) :
 Ai prog 156 [s.ptr,.int .i64 lo,.int .i64 hi] u (s.M k) fun v _ m'=>∃ (r:Nat) (k':Nat),v=.int .i64 (lo+(r:Int))/\r<n/\k'<=s.n/\m'=s.M k':=by
 refine Ai.o func156 ?_;refine G.sub hi lo (hi-lo) kV rfl oV oV ?_;refine G.add (hi-lo) 1 (n:Int) kV hn oV oV ?_;refine G.A call73 (Ia h hk hn0 hn2) ?_;rintro v1 u1 m1 l1 ⟨r,k',rfl,hr,hk',rfl⟩ _;rw[C2];refine G.add lo (r:Int) (lo+(r:Int)) kV rfl oV oV ?_;exact G.r _ ⟨r,k',rfl,hr,hk',rfl⟩
theorem Za {v:Value}{L:List Int}(h:Aq7 u s ts)(hk:k<=s.n)(hL:Ab u v 1 (Dx L))(hn0:0<L.length)(hn2:L.length<=1000000) :
 Ai prog 104 [s.ptr,v] u (s.M k) fun v _ m'=>∃ z∈L,∃ k':Nat,v=.int .i64 z/\k'<=s.n/\m'=s.M k':=by
 obtain⟨a,c,rfl⟩:=hL.opn;rw[Aqg]at hL⊢;refine Ai.o func104 ?_;refine G.A call73 (Ia h hk hn0 hn2) ?_;rintro v1 u1 m1 l1 ⟨r,k',rfl,hr,hk',rfl⟩ _;rw[C2];obtain⟨b,off,rfl,e⟩:=Ab.at' (hL.mono l1) (j:=r) (e:=.int .i64 L[r]) (by simp[Dx,A0n hr]);refine G.a b off L.length c r 1 hr ?_;refine G.lU none b (off+r*1) (.int .i64 L[r]) e ?_;exact G.r _ ⟨L[r],A04 hr,k',rfl,hk',rfl⟩
structure SmR (q:Rat):Prop where
 num:q.num.natAbs<=9
 den:q.den ∣ 12
theorem SmR.le (h:SmR q):q.den<=12:=A5s oV h.den
theorem SmR.tx (h:SmR q):Tx q:=⟨A0q (Ed (k:=2) oV (by have:=h.num;omega)) oV,A0q (Ed (k:=2) oV (by have:=h.le;omega)) oV⟩
theorem SmR.sz (h:SmR q):Sz q 1:=⟨A4 (by have:=h.num;omega),A4 (by have:=h.le;omega)⟩
theorem Bdr:∀ r:Fin 19,∀ d:Fin 5,d.val≠0->((A2m ((r.val:Int)-9) (d.val:Int)).num.natAbs<=9/\(A2m ((r.val:Int)-9) (d.val:Int)).den ∣ 12):=fV
theorem Bdu {r:Nat}(hr:r<19){d:Int}(hd:d∈[1,1,1,2,3,(4:Int)]):SmR (A2m (-9+(r:Int)) d)/\d≠0/\0<d/\d<=4:=by
 have:∃ d':Fin 5,d'.val≠0/\d=(d'.val:Int):=by
  simp at hd;rcases hd with rfl|rfl|rfl|rfl
  ·exact⟨1,fV,rfl⟩
  ·exact⟨2,fV,rfl⟩
  ·exact⟨3,fV,rfl⟩
  ·exact⟨4,fV,rfl⟩
 obtain⟨d',h1,rfl⟩:=this;have h2:=Bdr ⟨r,hr⟩ d' h1;have e:(-9+(r:Int))=(r:Int)-9:=oV
 rw[e];exact⟨⟨h2.1,h2.2⟩,oV,oV,by have:=d'.isLt;omega⟩
theorem Bdg (h:Aq7 u s ts)(hk:k<=s.n) :
 Ai prog 72 [s.ptr] u (s.M k) fun v _ m'=>∃ (q:Rat) (k':Nat),v=.string (mkS (Af q))/\SmR q/\k'<=s.n/\m'=s.M k':=by
 refine Ai.o func72 ?_;refine G.A call156 (Aet (lo:=-9) (hi:=9) (n:=19) h hk oV oV oV oV oV) ?_;rintro v1 u1 m1 l1 ⟨r,k1,rfl,hr,hk1,rfl⟩ _;rw[C2];refine G.c call79 (Te (n:=-9+(r:Int)) oV oV) ?_;intro v2 u2 l2 k2;obtain⟨b2,a2,n2,c2,rfl,_,_⟩:=k2.opn;refine G.buildU 3 1 8 (.int .i64 0) (Dx [1,1,1,2,3,4]) kV (K9 _) rfl oV (by simp[Dx]) (by simp[Dx]) ?_;intro g3 u3 l3 e3;have hLP:Ab u3 (.slice (some ⟨g3,0,none⟩) 6 6) 1 (Dx [1,1,1,2,3,4]):=⟨_,6,rfl,A0w _,fun j e hj=>⟨g3,0,rfl,e3 j e hj⟩⟩;refine G.A call104 (Za (h.mono ((l1.trans l2).trans l3)) hk1 hLP mV mV) ?_;rintro v4 u4 m4 l4 ⟨d,hd,k4,rfl,hk4,rfl⟩ _;rw[C2];obtain⟨hq,hd0,hd1,hd4⟩:=Bdu hr hd;refine G.c call79 (Te (n:=d) oV oV) ?_;intro v5 u5 l5 k5;obtain⟨b5,a5,n5,c5,rfl,_,_⟩:=k5.opn;refine G.c call84 (Q1 (k2.mono ((l3.trans l4).trans l5)) k5 (Ao1 oV oV) (Ao1 oV oV) hd0) ?_;intro v6 u6 l6 k6;obtain⟨b6,a6,n6,c6,a6',n6',c6',rfl,_⟩:=k6.opn;refine G.c call35 (Kw k6 hq.tx) ?_;rintro v7 u7 l7 rfl;exact G.r _ ⟨_,k4,rfl,hq,hk4,rfl⟩
end
section
section rules
variable [Cc] {P:Program} [Ba P] {fn:Func} {Post:B0} {st:List KI×S} {u m:PH}
theorem G.appendM (e:TypeId)(sz bt:Nat)(z:Value)(m0:PH)(es xs:List Value)(v:Value)(b off n c:Nat)(h:Al P (adv P st)=.app (some (e,sz,bt,z)) true [v,.slice (some ⟨b,off,none⟩) n c])(hz:z.cells.toList.all Be=true)(hzs:z.cells.size=sz)(hsz:0<sz)
 (ha:Ae m0 m v e sz es) (hx:El m b off sz xs) (ho:A3 sz xs) (hn:xs.length=n) (hn0:0<n) (hb:(es.length+n)*bt<=140737488355328) (hb2:es.length+n<=9223372036854775807)
 (k:∀ v' m',Ae m0 m' v' e sz (es++xs)->G P fn Post (nx (adv P st) v') u m'):G P fn Post st u m:=by
 refine G.big (K:=fun v' u' m'=>u'=u/\Ae m0 m' v' e sz (es++xs)) h mV (fun env op hv=>(Dl (P:=P) (o:=⟨none,op,0, "",#[],none⟩) hv).2.1) (.inr fun env op hv=>(Dl (P:=P) (o:=⟨none,op,0, "",#[],none⟩) hv).1) (fun env o hview w hgd=>?_) (fun v' u' m' _ hk=>?_)
 ·obtain⟨_,_,t,hi,hex⟩:=Dl (P:=P) hview;obtain⟨v',w',m',h1,h2,h3,h4⟩:=Nm (P:=P) m0 es xs v b off n c o.type hi hz hzs hsz ha ho hn hn0 hb hb2 hgd (hx.cells hsz ho hgd.pm);refine Bq (w':=w') (v:=v') ?_ ⟨u,m',h2,h3,rfl,h4⟩;rw[hex w,h1];rfl
 ·obtain⟨rfl,hk⟩:=hk;exact k v' m' hk
end rules
theorem Src.h0 (s:Src)(k k':Nat)(g:Nat):s.M k g=none\/s.M k' g≠none:=by
 by_cases e:g=s.g
 ·subst e;right;unfold Src.M;rw[Ac];simp
 ·left;unfold Src.M;rw[Ad _ _ e];rfl
theorem Alv {u:PH}{v:Value}{ts:List Int}(h:Ab u v 1 (Dx ts))(hl:ts.length<=600)(h1:∀ t∈ts,-9223372036854775808<=t)(h2:∀ t∈ts,t<=9223372036854775807) :
 Ai prog 9 [v] u PH.mt fun v' u' m'=>∃ s:Src,v'=s.ptr/\m'=s.M 0/\Aq7 u' s ts:=by
 have hcap:∃ a c,v=.slice a ts.length c/\ts.length<=c:=by
  obtain⟨a,c,e1,e2,_⟩:=h;rw[Aqg]at e1 e2;exact⟨a,c,e1,e2⟩
 obtain⟨a,c,rfl,hcap⟩:=hcap;refine Ai.o func9 ?_;refine G.minI [3,3] (ts.length:Int) 600 (ts.length:Int) kV oV ?_;refine G.sliceTo 1 a ts.length c ts.length kV hcap ?_;refine G.pub 1006 97 [.slice a ts.length c,.int .i64 0] kV kV ?_;intro g hu hm;exact G.r (.pointer (some ⟨g,0,none⟩)) ⟨⟨g,a,ts.length,c⟩,rfl,rfl,h,rfl,hl,h1,h2⟩
theorem Src.bag0 (s:Src)(k:Nat){l:List Arr}(h:Bag PH.mt l):Bag (s.M k) (s.arr k::l):=by
 have:=Src.at (s:=s) (k:=k) (m0:=PH.mt) rfl;rw[C2]at this;exact⟨PH.mt,this,h⟩
theorem Y3 {o l:Arr}{rows:List Arr}:(l::o::rows).Perm (o::(rows++[l])):=by
 refine (A4s _ _ _).trans (A42 _ ?_);exact (List.perm_append_singleton l rows).symm
end
section
variable {l o s:Arr}{rows:List Arr}
theorem Oe (z:Int):Af (z:Rat)=A1a z:=by
 have h1:((z:Int):Rat).den=1:=mV
 have h2:((z:Int):Rat).num=z:=mV
 rw[Af,if_pos h1,h2]
theorem Afh :(s::l::o::rows).Perm (s::o::(rows++[l])):=A42 _ Y3
theorem Afg :(l::s::o::rows).Perm (s::o::(rows++[l])):=(A4s _ _ _).trans Afh
theorem Zc {rows:List (Value×List Value)}{i:Nat}{r r':Value×List Value}(h:rows[i]?=some r)(e:r'.1=r.1):(rows.set i r').map (·.1)=rows.map (·.1):=by
 rw[A27];apply A4g;intro j;rw[A25];split
 ·rename_i e';subst e';have hlt:i<rows.length:=by
   rcases A11 i rows.length with h'|h'
   ·exact h'
   ·rw[A1g h']at h;cases h
  rw[if_pos (by simpa using hlt),A0v,h,e];rfl
 ·rfl
end
section
theorem Ahw:Af 2 = [50]:=by
 have:Af ((2:Int):Rat)=A1a 2:=Oe 2;rw[show ((2:Int):Rat)=2 from by decide]at this;rw[this,Cz oV];exact Lib.decDigits_one oV
end
section
def T12 (q:Rat)(N:Nat):Prop:=∃ k:Int,q=A2m k 12/\k.natAbs<=N
theorem SmR.t12 {q:Rat}(h:SmR q):T12 q 108:=by
 obtain⟨c,hc⟩:=h.den;refine⟨q.num*(c:Int),?_,?_⟩
 ·have hd:=q.den_pos;have hc0:c≠0:=fun e=>by rw[e]at hc;simp at hc
  have h1:(12:Int)=(q.den:Int)*(c:Int):=by rw[<-Int.natCast_mul,<-hc];rfl
  rw[h1,Rat.divInt_mul_right oV,Rat.num_divInt_den]
 ·have h1:=h.num;have h2:c<=12:=by
   have hd:=q.den_pos;have:1*c<=q.den*c:=A12 _ hd;omega
  rw[A30,A1z];have:q.num.natAbs*c<=9*12:=A3j h1 h2;omega
theorem Anj {n:Nat}(f:Nat->Rat){j:Nat}(hj:j<n):gR ((List.range n).map f) j=f j:=by
 unfold gR;rw[A0o,A0v,List.getElem?_range hj];rfl
end
section
def Rec (n w:Nat)(X:List (List Rat)):Prop:=X.length=n/\∀ i,i<n->(gM X i).length=w
def en (X:List (List Rat))(i j:Nat):Rat:=gR (gM X i) j
theorem Ib {n w i:Nat}{X:List (List Rat)}{r:List Rat}(h:Rec n w X)(hi:i<n)(hr:r.length=w):Rec n w (X.set i r):=by
 refine⟨by simp[h.1],fun j hj=>?_⟩;rw[Ka (by rw[h.1];exact hi)];split
 ·exact hr
 ·exact h.2 j hj
end
section
end
section
theorem nl1 {n:Nat}(h:n<1000000000):nl n<=1:=A4 (by simpa using h)
end
section
end
section
theorem Mx {α:Type}{l:List α}{k:Nat}(h:k<l.length):l.take (k+1)=l.take k++[l[k]]:=by
 rw[A1c,A0n h];rfl
end
section
variable [Cc] [Dy]
def Amv:List KI->Bool
 |.code (.region _ _ _)::_=>true
 |_=>false
def Aqo (P:Program):Nat->List KI×S->List KI×S
 |0,st=>st
 |n+1,st=>cond (Amv st.1) st (match one P st.1 st.2 with|some st'=>Aqo P n st'|none=>st)
section rules
variable {P:Program} [Ba P] {fn:Func} {Post:B0} {st:List KI×S} {u m:PH}
theorem Nf:∀ (n:Nat) (st:List KI×S),Sym P fn Post (Aqo P n st).1 (Aqo P n st).2 u m->Sym P fn Post st.1 st.2 u m
 |0,st,h=>h
 |n+1,st,h=>by
  unfold Aqo at h;cases hn:Amv st.1 with
  |true=>simp[hn]at h;exact h
  |false =>
   simp only[hn,cond_false]at h;split at h
   ·rename_i st' he;obtain⟨ks',s'⟩:=st';exact Ar0 Ba.mx he (Nf n _ h)
   ·exact h
theorem G.canon (T:List (Nat×SV))(B:List (Nat×Blk))(h:Fd (Aqo P 200 st).1=true)(hl:Qm T B=true)(h0:Cov (Aqo P 200 st).2.n (Aqo P 200 st).2 T B)(k:G P fn Post ((Aqo P 200 st).1,S.of (Aqo P 200 st).2.n T B) u m):G P fn Post st u m:=by
 refine⟨Nf 200 st ?_⟩;have hk:=k.out;rw[Sym.ofNo h]at hk⊢;intro c ρ a w hm0 hr;exact hk c ρ a w hm0 (hr.cov h0 hl)
theorem G.join {ι:Type}(b:Value)(T:ι->List (Nat×SV))(B:ι->List (Nat×Blk))(Inv:ι->PH->PH->Prop)(hl:∀ i,Qm (T i) (B i)=true)(hn:Fd (Aqo P 200 (nx (adv P st) b)).1=true)
 (tail:∀ i u' m',PH.le u u'->Inv i u' m'->G P fn Post ((Aqo P 200 (nx (adv P st) b)).1,S.of (Aqo P 200 (nx (adv P st) b)).2.n (T i) (B i)) u' m')
 (k:(∀ i st' u' m',(Aqo P 200 st').1=(Aqo P 200 (nx (adv P st) b)).1->Cov (Aqo P 200 (nx (adv P st) b)).2.n (Aqo P 200 st').2 (T i) (B i)->PH.le u u'->Inv i u' m'->G P fn Post st' u' m')->G P fn Post st u m):G P fn Post st u m:=by
 refine k fun i st' u' m' h1 h2 h3 h4=>?_;have hc:Cov (Aqo P 200 st').2.n (Aqo P 200 st').2 (T i) (B i):=⟨rfl,h2.t,h2.b⟩;refine G.canon (T i) (B i) (by rw[h1];exact hn) (hl i) hc ?_;rw[h1,h2.n];exact tail i u' m' h3 h4
end rules
end
section
def Xz (v:Value)(P:List Nat):Arr:=⟨v,3,1,Ag P⟩
theorem Aky {v:Value}{P:List Nat}{m0 m:PH}:(Xz v P).At m0 m=Ae m0 m v 3 1 (Ag P):=rfl
end
section
theorem Ti {α:Type}{l:List α}{i:Nat}{x:α}(h:l[i]?=some x):l.set i x=l:=by
 obtain⟨h1,h2⟩:=A0s.1 h;rw[<-h2];exact List.set_getElem_self h1
end
section
open Go.MapKept
variable {et t:TypeId}{g:Nat}{o:Obj}{w:World}
structure Rr (P:Program)(kt:TypeId){κ:Type}[DecidableEq κ](enc:κ->Value):Prop where
 eq:∀ a b w,(Op.equal kt (enc a) (enc b)).run P w=.ok (decide (a=b)) w
 now:∃ d,P.underlying kt=some d/\((∀ a b,Bac d (enc a) (enc b)=none)\/(∀ a b,Bac d (enc a) (enc b)=some (decide (a=b))))
 chk:∀ e a w,(Instr.checkKey e 10000 kt (enc a)).run P w=.ok () w
 bits:∀ a,Instr.sameBits 10000 (enc a) (enc a)=true
 inj:∀ a b,enc a=enc b->a=b
def Ec {κ:Type}(enc:κ->Value)(o:Obj)(l:List (κ×Value)):Prop :=
 ∃ es clock,o=.map es clock/\es.toList.map (fun e=>(e.key,e.val))=l.map (fun p=>(enc p.1,p.2))/\Stamped es clock
def Fi {κ:Type}[DecidableEq κ](a:κ):List (κ×Value)->Option Value
 |[]=>none
 |(b,v)::l=>if a=b then some v else Fi a l
def H5 {κ:Type}[DecidableEq κ](a:κ)(x:Value):List (κ×Value)->List (κ×Value)
 |[]=>[(a,x)]
 |(b,v)::l=>if a=b then (b,x)::l else (b,v)::H5 a x l
def Alz {κ:Type}[DecidableEq κ](a:κ):List (κ×Value)->List (κ×Value)
 |[]=>[]
 |(b,v)::l=>if a=b then l else (b,v)::Alz a l
def Gn {κ:Type}[DecidableEq κ](a:κ):List (κ×Value)->Nat->Option (Nat×Value)
 |[],_=>none
 |(b,v)::l,i=>if a=b then some (i,v) else Gn a l (i+1)
def Aem (z:Value)(r:Option Value)(ok:Bool):Value:=match r with|some v=>(if ok then .tuple #[v,.bool true] else v)|none=>(if ok then .tuple #[z,.bool false] else z)
theorem Kb {α β:Type}{f:α->β}{l:List α}(h:(l.map f).Nodup):l.Nodup:=(List.pairwise_map.1 h).imp fun h e=>h (by rw[e])
section
variable {κ:Type} [DecidableEq κ] {enc:κ->Value}
theorem Vd (a:κ):∀ (l:List (κ×Value)) (i:Nat),(Gn a l i).map (·.2)=Fi a l
 |[],_=>rfl
 |(b,v)::l,i=>by
  unfold Gn Fi;split
  ·rfl
  ·exact Vd a l (i+1)
theorem Sb {a:κ}:∀ {l:List (κ×Value)} {i:Nat},Gn a l i=none->a∉l.map (·.1)
 |[],_,_=>mV
 |(b,v)::l,i,h=>by
  unfold Gn at h;split at h
  ·cases h
  ·rename_i hne;simp only[A1y,A02,not_or];exact⟨hne,Sb h⟩
theorem Rc {a:κ}:∀ {l:List (κ×Value)} {i j:Nat} {v:Value},Gn a l i=some (j,v)->i<=j/\l[j-i]?=some (a,v)/\(∀ x,H5 a x l=l.set (j-i) (a,x))/\Alz a l=l.eraseIdx (j-i)
 |[],_,_,_,h=>by cases h
 |(b,w)::l,i,j,v,h=>by
  unfold Gn at h;split at h
  ·rename_i e;simp only[A0t,A1r]at h;obtain⟨rfl,rfl⟩:=h;subst e;exact⟨A0w _,mV,fun x=>by simp[H5],by simp[Alz]⟩
  ·rename_i hne;obtain⟨h1,h2,h3,h4⟩:=Rc h;have e:j-i=(j-(i+1))+1:=oV
   refine⟨oV,by rw[e,List.getElem?_cons_succ];exact h2,fun x=>?_,?_⟩
   ·rw[e,List.set_cons_succ,<-h3 x];simp[H5,hne]
   ·rw[e,List.eraseIdx_cons_succ,<-h4];simp[Alz,hne]
theorem Aap {a:κ}:∀ {l:List (κ×Value)} (x:Value),a∉l.map (·.1)->H5 a x l=l++[(a,x)]
 |[],_,_=>rfl
 |(b,v)::l,x,h=>by
  simp only[A1y,A02,not_or]at h;unfold H5;rw[if_neg h.1,Aap x h.2];rfl
theorem Fz {a:κ}:∀ {l:List (κ×Value)},Fi a l=none↔a∉l.map (·.1)
 |[]=>by simp[Fi]
 |(b,v)::l=>by
  unfold Fi;split
  ·rename_i e;simp[e]
  ·rename_i hne;rw[Fz];simp[hne]
variable {P:Program} {kt:TypeId}
theorem K0 (K:Rr P kt enc)(a:κ)(w:World):∀ (es:List MapEntry) (l:List (κ×Value)) (i:Nat),es.map (fun e=>(e.key,e.val))=l.map (fun p=>(enc p.1,p.2))->(A9a kt (enc a) es i).run P w=.ok (Gn a l i) w
 |[],[],i,_=>by simp[A9a,Gn]
 |[],_::_,_,h=>by simp at h
 |_::_,[],_,h=>by simp at h
 |e::es,(b,v)::l,i,h=>by
  simp only[A1y,A18,A1r]at h;obtain⟨⟨h1,h2⟩,h3⟩:=h;unfold A9a;simp only[A1n,h1,K.eq,A0y];unfold Gn;by_cases e':a=b
  ·simp[e',h2]
  ·simp only[decide_eq_false e',Bool.false_eq_true,if_false,if_neg e'];exact K0 K a w es l (i+1) h3
theorem Tp {d:TypeDesc}(hn:∀ a b,Bac d (enc a) (enc b)=some (decide (a=b)))(a:κ):∀ (es:List MapEntry) (l:List (κ×Value)) (i:Nat),es.map (fun e=>(e.key,e.val))=l.map (fun p=>(enc p.1,p.2))->A6p d (enc a) es i=some (Gn a l i)
 |[],[],i,_=>by simp[A6p,Gn]
 |[],_::_,_,h=>by simp at h
 |_::_,[],_,h=>by simp at h
 |e::es,(b,v)::l,i,h=>by
  simp only[A1y,A18,A1r]at h;obtain⟨⟨h1,h2⟩,h3⟩:=h;unfold A6p Gn;rw[h1,hn];by_cases e':a=b
  ·simp[e',h2]
  ·simp only[decide_eq_false e',if_neg e'];exact Tp hn a es l (i+1) h3
theorem Qj (K:Rr P kt enc)(a:κ)(w:World){es:List MapEntry}{l:List (κ×Value)}(h:es.map (fun e=>(e.key,e.val))=l.map (fun p=>(enc p.1,p.2))):(Bcc kt (enc a) es).run P w=.ok (Gn a l 0) w:=by
 obtain⟨d,hd,hn⟩:=K.now;unfold Bcc;simp only[A1n,run_underlying hd,A0y];rcases hn with hn|hn
 case inr=>rw[Tp hn a es l 0 h];rfl
 cases es with
 |nil =>
  cases l with
  |nil=>simp[A6p,Gn]
  |cons=>simp at h
 |cons e es =>
  have hf:A6p d (enc a) (e::es) 0=none:=by
   cases l with
   |nil=>simp at h
   |cons p l =>
    simp only[A1y,A18,A1r]at h;unfold A6p;rw[h.1.1,hn]
  rw[hf];exact K0 K a w _ _ _ h
theorem Ec.empty:Ec enc (.map #[] 0) []:=⟨#[],0,rfl,mV,stamped_empty 0⟩
theorem Ec.nodup {l:List (κ×Value)}(h:Ec enc o l):(l.map (·.1)).Nodup:=by
 obtain⟨es,clock,rfl,he,hs⟩:=h;have h1:es.toList.map (·.key)=l.map (fun p=>enc p.1):=by
  have:=congrArg (List.map (·.1)) he;simpa[Function.comp_def] using this
 have h2:=hs.2.2;rw[h1]at h2;have:l.map (fun p=>enc p.1)=(l.map (·.1)).map enc:=by simp[Function.comp_def]
 rw[this]at h2;exact Kb h2
theorem Ab5 (K:Rr P kt enc)(ht:P.underlying t=some (.map kt et)){z:Value}(hz:∀ w,(zeroValue et).run P w=.ok z w){l:List (κ×Value)}(hg:w.heap[g]?=some o)(ho:Ec enc o l)(a:κ)(ok:Bool) :
 (Bcl t (.map (some g)) (enc a) ok).run P w=.ok (Aem z (Fi a l) ok) w:=by
 obtain⟨es,clock,rfl,he,hs⟩:=ho;have hf:=Qj K a w he;rw[<-Vd a l 0];simp only[Bcl,A1n,run_underlying ht,A0y,MapKept.run_getObj_map hg,K.chk,A3g,hf];cases Gn a l 0 with
 |none=>simp only[Aem,Option.map_none,A1n,hz,A0y,A3g]
 |some p=>simp only[Aem,A3h,A1n,A3g,A0y]
theorem Ab3 (K:Rr P kt enc)(ht:P.underlying t=some (.map kt et)){l:List (κ×Value)}(hg:w.heap[g]?=some o)(ho:Ec enc o l)(a:κ)(x:Value) :
 ∃ o',Ec enc o' (H5 a x l)/\(A9k t (.map (some g)) (enc a) x).run P w=.ok () { w with heap:=w.heap.setIfInBounds g o' }:=by
 obtain⟨es,clock,rfl,he,hs⟩:=ho;have hf:=Qj K a w he;have hlen:es.toList.length=l.length:=by simpa using congrArg List.length he
 cases hfk:Gn a l 0 with
 |none =>
  rw[hfk]at hf;have hn:=Sb hfk;refine⟨.map (es.push { key:=enc a,val:=x,born:=clock }) (clock+1),⟨_,_,rfl,?_,stamped_push hs (fun e hm hk=>?_)⟩,?_⟩
  ·rw[Aap x hn];simp only[Array.toList_push,A07,he,A1y,List.map_nil]
  ·obtain⟨j,hj,rfl⟩:=A2u.1 hm;have:=congrArg (fun t=>t[j]?) he;simp only[A0v,A0n hj,A3h]at this;rw[A0n oV]at this;simp only[A3h,A0t,A1r]at this;rw[this.1]at hk;exact hn (A0u.2 ⟨_,A04 oV,K.inj _ _ hk⟩)
  ·simp only[A9k,A1n,run_underlying ht,A0y,MapKept.run_getObj_map hg,K.chk,hf];exact MapKept.run_setObj_map _ hg
 |some p =>
  obtain⟨j,v⟩:=p;rw[hfk]at hf;obtain⟨_,h2,h3,_⟩:=Rc hfk;rw[A6i]at h2 h3;have hjl:j<l.length:=(A0s.1 h2).1;have hje:j<es.toList.length:=oV
  obtain⟨e0,he0⟩:∃ e0,es.toList[j]?=some e0:=⟨_,A0n hje⟩;have hek:e0.key=enc a:=by
   have:=congrArg (fun t=>t[j]?) he;simp only[A0v,he0,A3h,h2,A0t,A1r]at this;exact this.1
  have hej:es[j]?=some e0:=by rw[<-A6k];exact he0
  refine⟨.map (es.modify j fun e=>{ e with key:=enc a,val:=x }) clock,⟨_,_,rfl,?_,stamped_modify hs j _ (fun _ _=>rfl) (fun e _ h=>?_)⟩,?_⟩
  ·rw[h3 x,A27];apply A4g;intro i;simp only[A0v,A6k,Array.getElem?_modify,A25];have hi:=congrArg (fun t=>t[i]?) he;simp only[A0v,A6k]at hi;by_cases e:j=i
   ·subst e;rw[if_pos rfl,if_pos rfl,hej,if_pos (by simpa using hjl)];rfl
   ·rw[if_neg e,if_neg e];exact hi
  ·rw[hej]at h;cases h;exact hek.symm
  ·have hkey:((es[j]?).map (·.key)).getD (enc a)=enc a:=by rw[hej];simp[hek]
   simp only[A9k,A1n,run_underlying ht,A0y,MapKept.run_getObj_map hg,K.chk,hf,hkey];have hst:(Bau (enc a) (enc a)).run P w=.ok (enc a) w:=by unfold Bau;rw[if_pos (K.bits a)];rfl
   rw[hst];simp only[A0y];exact MapKept.run_setObj_map _ hg
end
end
end Go.Proofs.YtanfagpabkdmiaaGreatDoor
