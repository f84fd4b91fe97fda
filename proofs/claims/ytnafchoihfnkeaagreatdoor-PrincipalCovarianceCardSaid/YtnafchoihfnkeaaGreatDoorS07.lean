/- Parts of one proof, joined by a program. -/
import Derived.Test.YtnafchoihfnkeaaGreatDoorS06
import Derived.MapKept
import Derived.Laws.IdiomRangeMap
import Derived.Laws.StructEq
import Derived.ChangeKeysEq
set_option linter.defProp false
set_option linter.unusedVariables false
set_option linter.unusedSimpArgs false
set_option linter.unusedSectionVars false
set_option maxHeartbeats 16000000
namespace Go.Proofs.YtnafchoihfnkeaaGreatDoor
open Go.Proofs.Tryz
open Go.RowKit
open _root_.Array renaming eq_empty_of_size_eq_zero -> Ayk, forIn_toList -> A2g, getElem?_toList -> Ayq, mk.injEq -> Axh, range -> A0m
open Bool renaming and_eq_true -> Atj, eq_false_iff -> A2p, false_eq_true -> Aw7, not_true -> Ayc
open Instr renaming checkKey -> Aw6, entry -> A33, findAsking -> A06, findKey -> A3n, findNow -> Ay2, keyThatStays -> A2f, lookup -> A3w, mapUpdate -> A1d, next -> A26, sameBits -> Awk, sameNow -> A1y
open Int renaming lt_tmod_of_pos -> A2e, tmod_lt_of_pos -> A2d
open List renaming append_nil -> Auu, cons.injEq -> Ave, forIn_cons -> A1e, forIn_nil -> A1r, getElem?_eq_getElem -> As5, getElem?_eq_some_iff -> Atc, getElem?_map -> Aty, getElem_mem -> Ath, length -> Av5, length_cons -> Auh, length_map -> Ata, length_pos_iff -> Avq, map_append -> Atk, map_cons -> Auk, map_nil -> Axd, mem_append -> Ati, mem_cons -> At6, mem_cons_of_mem -> Auv, mem_map -> Ate, mem_singleton -> Aub, nodup_append -> Awq, nodup_cons -> Awr, pairwise_cons -> A0q, pairwise_map -> A2o, replicate -> As6
open Nat renaming eq_zero_or_pos -> At5, le_of_dvd -> Axt, le_refl -> Atb, le_trans -> As9, lt_of_lt_of_le -> Auf, mod_lt -> Au3, one_mul -> Avm, sub_self -> Avc, sub_zero -> Awx, zero_add -> Aud, zero_le -> Atu, zero_mul -> Ax5
open Option renaming map_some -> Awh, some.inj -> Auq, some.injEq -> Atd
open Prod renaming ext -> A07, mk.injEq -> Aun
open Result renaming andThen -> Azg, andThen_ok -> Atf
open Sem renaming run -> A3d, run_bind -> At4, run_pure -> Avt
open UInt8 renaming lt_iff_toNat_lt -> A1q
open Value renaming agg.injEq -> Axc, cells -> Atw, int -> Auj, int.injEq -> A27, slice -> Au8, slice.injEq -> Atr, string.injEq -> A2h
section
variable {S:Nat}{p:List Rat}{u:PH}{v:Value}
def rb (S:Nat):Nat->Nat
 |0=>S
 |t+1=>rb S t+(rb S t+S+S)+1
theorem Aki {S t:Nat}(ht:t<=5)(hS:S<=1000000):rb S t<=200000000:=by
 have h0:rb S 0=S:=rfl;have h1:rb S 1=rb S 0+(rb S 0+S+S)+1:=rfl;have h2:rb S 2=rb S 1+(rb S 1+S+S)+1:=rfl;have h3:rb S 3=rb S 2+(rb S 2+S+S)+1:=rfl;have h4:rb S 4=rb S 3+(rb S 3+S+S)+1:=rfl;have h5:rb S 5=rb S 4+(rb S 4+S+S)+1:=rfl
 match t,ht with
 |0,_=>omega
 |1,_=>omega
 |2,_=>omega
 |3,_=>omega
 |4,_=>omega
 |5,_=>omega
structure DI2 where
 cnt:Nat
 z:Int
 eq:List Value
 er:List Value
 Q:List Rat
 R:List Rat
theorem Afu {v v':Value}{p q:List Rat}(h:Bn u v p)(h':Bn u v' q)(hs:SzL p S)(hs':SzL q S)(hS:S<=1000000)(hp:p≠[])(hp5:p.length<=5)(hq:q≠[])(hq5:q.length<=5)(hl:gR q (q.length-1)≠0) :
 Fn0 prog 137 [v,v'] u fun r u'=>∃ r1 r2,r=.tuple #[r1,r2]/\Bn u' r1 (Aq5 p q)/\Bn u' r2 (Aa0 p q):=by
 obtain⟨a,c,rfl⟩:=h.opn;obtain⟨a',c',rfl⟩:=h'.opn;have hpp:=Avq.2 hp;have hqp:=Avq.2 hq;obtain⟨es0,hL0,hF0⟩:=id h;have hF0':AtP An u es0 p:=hF0;have hel0:es0.length=p.length:=hF0.1;have hne0:es0≠[]:=by intro e;rw[e]at hel0;simp at hel0;omega
 have zero:((0:Int):Rat)=0:=fV
 have szt:∀ {x:Rat} {t:Nat},Sz x (rb S t)->t<=5->Sz x 1000000000000:=fun h1 h2=>h1.mono (As9 (Aki h2 hS) oV);refine Fn0.o func137 ?_;refine G.callO _ _ kV call119 (S1 hL0 hF0'.ok4 hne0 oV) ?_;intro v1 u1 m1 l1 hA1 hf1;rw[C6];obtain⟨gR',cR,rfl⟩:=hA1.ptr hne0;rw[hel0]at hA1⊢;refine G.c call56 (Dk (z:=0) oV oV) ?_;intro v2 u2 l2 k2;rw[zero]at k2;obtain⟨f2,rfl⟩:=k2.opF;refine G.B 103 4 64 zF [fv f2] (Re f2) ?_;intro g3 u3 l3 e3;refine G.sub (p.length:Int) (q.length:Int) ((p.length:Int)-(q.length:Int)) kV rfl oV oV ?_;refine G.add ((p.length:Int)-(q.length:Int)) 1 ((p.length:Int)-(q.length:Int)+1) kV rfl oV oV ?_;obtain⟨n,hn⟩:∃ n,n=p.length+1-q.length:=⟨_,rfl⟩;refine G.maxI [3,3] 0 ((p.length:Int)-(q.length:Int)+1) (n:Int) kV oV ?_;have hLP:Ad u3 (.slice (some ⟨g3,0,none⟩) 1 1) 4 [fv f2]:=⟨_,1,rfl,Atb _,fun j e hj=>⟨g3,0,rfl,e3 j e hj⟩⟩;refine G.callO _ _ kV call188 (Aln (n:=n) hLP (Re f2) oV) ?_;intro v4 u4 m4 l4 hA4 hf4;have hA4':=hA4.join hf4;obtain⟨a4,c4,rfl⟩:=hA4.shape;rw[List.length_replicate]at hA4'⊢;have hbag:Bag (m1.or m4) [C5 (.slice a4 n c4) (As6 n (fv f2)),C5 (.slice (some ⟨gR',0,none⟩) p.length cR) es0]:=⟨m1,hA4',PH.mt,hA1,trivial⟩;refine G.sub (n:Int) 1 ((n:Int)-1) kV rfl oV oV ?_;refine G.l (ι:=DI2) (fun s=>[(1,sV a' q.length c'),(4,sV a4 n c4),(5,sV (some ⟨gR',0,none⟩) p.length cR),(6,iV s.z)]) (fun _=>[])
  (fun s u' m'=>s.z=(s.cnt:Int)-1/\s.cnt<=n/\s.Q.length=n/\s.R.length=p.length/\Aaq q s.cnt s.Q s.R=Arg p q/\SzL s.R (rb S (n-s.cnt))/\AtP An u' s.eq s.Q/\AtP An u' s.er s.R/\Bag m' [C5 (.slice a4 n c4) s.eq,C5 (.slice (some ⟨gR',0,none⟩) p.length cR) s.er])
  (fun s=>s.cnt) ⟨n,(n:Int)-1,As6 n (fv f2),es0,As6 n 0,p⟩
  ⟨rfl,Atb _,mV,rfl,by dsimp only;rw[hn];rfl,by dsimp only;rw[Avc];exact hs,AtP.rep (k2.mono (l3.trans l4)) n,hF0'.mono (fun _ _ h=>h.mono (((l1.trans l2).trans l3).trans l4)),hbag⟩ ?_
 clear hbag hA4' hA4 hA1;rintro J ⟨cnt,z,eq,er,Q,R⟩ hJ u5 m5 l5 ⟨hz,hcn,hQl,hRl,hgo,hszR,hatQ,hatR,hbag⟩;simp only at hz hcn hQl hRl hgo hszR hatQ hatR hbag hJ;have helR:=hatR.1;have helQ:=hatQ.1;have hlu:PH.le u u5:=(((l1.trans l2).trans l3).trans l4).trans l5;by_cases hge:0<=z
 ·obtain⟨t,rfl⟩:∃ t:Nat,z=(t:Int):=⟨z.toNat,oV⟩;obtain rfl:cnt=t+1:=oV
  refine G.hT (t:Int) 0 ?_;obtain⟨B,hB⟩:∃ B,B=rb S (n-(t+1)):=⟨_,rfl⟩;have hB1:rb S (n-t)=B+(B+S+S)+1:=by rw[show n-t=(n-(t+1))+1 by omega,rb,hB]
  have hBle:B<=200000000:=by rw[hB];exact Aki oV hS
  rw[<-hB]at hszR;have hti:t+q.length-1<R.length:=oV
  obtain⟨e6,he6,hf6⟩:=hatR.at hti;rw[<-F3 hti]at hf6;obtain⟨f6,rfl⟩:=hf6.opF;have hEl6:ElP m5 gR' (0+(t+q.length-1)*4) (fv f6):=hbag.el 1 rfl rfl he6;obtain⟨b7,o7,b1,a1,n1,c1,b2,a2,n2,c2,rfl,e7,hf7⟩:=(h'.mono hlu).at (j:=q.length-1) oV;refine G.p (t:Int) (q.length:Int) ((t+q.length:Nat):Int) ?_;refine G.s ((t+q.length:Nat):Int) 1 ((t+q.length-1:Nat):Int) ?_;refine G.a gR' 0 p.length cR (t+q.length-1) 4 oV ?_;refine G.lM (some 4) gR' (0+(t+q.length-1)*4) _ hEl6 ?_;refine G.s (q.length:Int) 1 ((q.length-1:Nat):Int) ?_;refine G.a b7 o7 q.length c' (q.length-1) 4 oV ?_;refine G.lU (some 4) b7 (o7+(q.length-1)*4) _ e7 ?_;have hs6:=hszR.at hti;have hs7:=hs'.at (i:=q.length-1) oV;have hsF:=Alw hs6 hs7 hl;refine G.c call39 (Ib hf6 hf7 (hs6.mono oV) (hs7.mono oV) hl) ?_;intro v8 u8 l8 k8;obtain⟨f8,rfl⟩:=k8.opF;generalize hF:gR R (t+q.length-1)/gR q (q.length-1)=F at *
  obtain⟨bq,cq,eq0⟩:=hbag.ptr 0 rfl (by intro e;simp only[C5]at e;rw[e]at helQ;simp at helQ;omega);simp only[C5,Atr]at eq0;obtain⟨rfl,_,rfl⟩:=eq0;obtain⟨m0,hx0,hput⟩:=hbag.focus 0 rfl;rw[H3]at hx0;refine G.a bq 0 n c4 t 4 oV ?_;refine G.storeA 4 m0 eq bq n c4 t (fv f8) kV hx0 oV rfl rfl ?_;intro m9 hx9;have hbag2:Bag m9 [C5 (.slice (some ⟨bq,0,none⟩) n c4) (eq.set t (fv f8)),C5 (.slice (some ⟨gR',0,none⟩) p.length cR) er]:=hput (C5 (.slice (some ⟨bq,0,none⟩) n c4) (eq.set t (fv f8))) m9 hx9;clear hput hx0 hx9;refine G.l (ι:=Nat×List Value×List Rat) (fun i=>[(1,sV (some ⟨b7,o7,none⟩) q.length c'),(4,sV (some ⟨bq,0,none⟩) n c4),(5,sV (some ⟨gR',0,none⟩) p.length cR),(6,iV t),(7,.p 6015 0),(48,sV (some ⟨b7,o7,none⟩) q.length c'),(49,iV q.length),(50,iV i.1)])
   (fun _=>[(6015,⟨103,fc f8⟩)])
   (fun i u' m'=>i.1<=q.length/\i.2.2.length=p.length/\Wd q F t (q.length-i.1) i.1 i.2.2=Wd q F t q.length 0 R/\SzL i.2.2 (rb S (n-t))/\(∀ j,t+i.1<=j->j<p.length->Sz (gR i.2.2 j) B)/\AtP An u' i.2.1 i.2.2/\Bag m' [C5 (.slice (some ⟨bq,0,none⟩) n c4) (eq.set t (fv f8)),C5 (.slice (some ⟨gR',0,none⟩) p.length cR) i.2.1])
   (fun i=>q.length-i.1) (0,er,R)
   ⟨Atu _,hRl,rfl,hszR.mono oV,fun j _ h2=>hszR.at oV,hatR.mono (fun _ _ h=>h.mono l8),hbag2⟩ ?_
  rintro J2 ⟨i,er2,R2⟩ hJ2 u9 m10 l9 ⟨hi,hR2,hsg,hszR2,hszB,hat2,hbag3⟩;simp only at hi hR2 hsg hszR2 hszB hat2 hbag3 hJ2;have her2:=hat2.1;by_cases hlt:i<q.length
  ·refine G.lT (i:Int) (q.length:Int) ?_;obtain⟨b10,o10,d1,d2,d3,d4,d5,d6,d7,d8,eqa,e10,hf10⟩:=(h'.mono (hlu.trans (l8.trans l9))).at (j:=i) hlt;cases eqa;refine G.a b7 o7 q.length c' i 4 hlt ?_;refine G.lU (some 4) b7 (o7+i*4) _ e10 ?_;have hti2:t+i<R2.length:=oV
   obtain⟨e11,he11,hf11⟩:=hat2.at hti2;rw[<-F3 hti2]at hf11;obtain⟨f11,rfl⟩:=hf11.opF;have hEl11:ElP m10 gR' (0+(t+i)*4) (fv f11):=hbag3.el 1 rfl rfl he11;refine G.p (t:Int) (i:Int) ((t+i:Nat):Int) ?_;refine G.p (t:Int) (i:Int) ((t+i:Nat):Int) ?_;refine G.a gR' 0 p.length cR (t+i) 4 oV ?_;refine G.lM (some 4) gR' (0+(t+i)*4) _ hEl11 ?_;have hsx:=hs'.at hlt;have hsP:=Yx hsF hsx;have hsr:=hszB (t+i) (Atb _) oV;refine G.c call42 (L6 (k8.mono l9) hf10 (hsF.mono oV) (hsx.mono oV)) ?_;intro v12 u12 l12 k12;obtain⟨f12,rfl⟩:=k12.opF;refine G.c call40 (Aby (hf11.mono l12) k12 (hsr.mono oV) (hsP.mono oV)) ?_;intro v13 u13 l13 k13;obtain⟨f13,rfl⟩:=k13.opF;have hsn:Sz (gR R2 (t+i)-F*gR q i) (rb S (n-t)):=(Apa hsr hsP).mono oV;obtain⟨m0,hx0,hput⟩:=hbag3.focus 1 rfl;rw[H3]at hx0;refine G.a gR' 0 p.length cR (t+i) 4 oV ?_;refine G.storeA 4 m0 er2 gR' p.length cR (t+i) (fv f13) kV hx0 oV rfl rfl ?_;intro m14 hx14;have hbag4:=hput (C5 (.slice (some ⟨gR',0,none⟩) p.length cR) (er2.set (t+i) (fv f13))) m14 hx14;refine G.i i ?_;refine G.b (hJ2 (i+1,er2.set (t+i) (fv f13),R2.set (t+i) (gR R2 (t+i)-F*gR q i)) _ _ _ cV ((l9.trans l12).trans l13) ⟨dV,by simp[hR2],?_,hszR2.set hsn,?_,?_,hbag4⟩ dV)
   ·dsimp only;rw[<-hsg,show q.length-i=(q.length-(i+1))+1 by omega,Wd]
   ·intro j h1 h2;dsimp only at h1⊢;rw[Xx hti2,if_neg oV];exact hszB j oV h2
   ·exact (hat2.mono (fun _ _ h=>h.mono (l12.trans l13))).set (t+i) k13
  ·obtain rfl:i=q.length:=oV
   refine G.lF (q.length:Int) (q.length:Int) ?_;rw[Avc,Wd]at hsg;refine G.sub (t:Int) 1 ((t:Int)-1) kV rfl oV oV ?_;refine G.b (hJ ⟨t,(t:Int)-1,eq.set t (fv f8),er2,Q.set t F,R2⟩ _ _ _ cV ((l5.trans l8).trans l9) ⟨rfl,dV,by simp[hQl],hR2,?_,hszR2,?_,hat2,hbag3⟩ dV)
   ·dsimp only;rw[<-hgo,Aaq,hF,hsg]
   ·exact (hatQ.mono (fun _ _ h=>h.mono (l8.trans l9))).set t (k8.mono l9)
 ·obtain rfl:cnt=0:=oV
  refine G.hF z 0 ?_;rw[Aaq]at hgo;obtain⟨m0,hx0,hbag2⟩:=hbag.take 1 rfl;rw[H3]at hx0;refine G.give m0 er _ kV hx0 (fun _=>.inl rfl) ?_;intro u6 l6 hLr;obtain⟨m1',hx1,_⟩:=hbag2.take 0 rfl;rw[H3]at hx1;refine G.give m1' eq _ kV hx1 (fun _=>.inl rfl) ?_;intro u7 l7 hLq;refine G.drop PH.mt kV (PH.mt_le _) ?_;have hR:Bn u7 (.slice (some ⟨gR',0,none⟩) p.length cR) R:=⟨er,hLr.mono l7,hatR.mono (fun _ _ h=>h.mono (l6.trans l7))⟩;have hQ:Bn u7 (.slice a4 n c4) Q:=⟨eq,hLq,hatQ.mono (fun _ _ h=>h.mono (l6.trans l7))⟩;refine G.c call189 (Asa hR hszR (As9 (Aki oV hS) oV) oV) ?_;intro v8 u8 l8 k8;obtain⟨a8,c8,rfl⟩:=k8.opn;refine G.r (.tuple #[.slice a4 n c4,.slice a8 (Ws R).length c8]) ⟨rfl,.slice a4 n c4,.slice a8 (Ws R).length c8,rfl,?_,?_⟩
  ·unfold Aq5;rw[<-hgo];exact hQ.mono l8
  ·unfold Aa0;rw[<-hgo];exact k8
def Ajj:Nat->List Rat->List Rat->Prop
 |_,_,[]=>True
 |0,_,_::_=>False
 |f+1,a,x::b=>gR (x::b) ((x::b).length-1)≠0/\a≠[]/\a.length<=5/\(x::b).length<=5/\SzL a 1000000/\SzL (x::b) 1000000/\Ajj f (x::b) (Aa0 a (x::b))
def I0:Nat->List Rat->List Rat->List Rat
 |0,a,_=>a
 |f+1,a,b=>if b = [] then a else I0 f b (Aa0 a b)
theorem Aht:∀ (f:Nat) (a:List Rat),I0 f a []=a
 |0,_=>rfl
 |f+1,_=>by simp[I0]
def Ey (f:Nat)(p:List Rat):List Rat:=Aq5 p (I0 f p (N6 p))
structure Aho (f:Nat)(p:List Rat):Prop where
 ok:Ajj f p (N6 p)
 ne:p≠[]
 len:p.length<=5
 sz:SzL p 1000000
 ne':I0 f p (N6 p)≠[]
 len':(I0 f p (N6 p)).length<=5
 sz':SzL (I0 f p (N6 p)) 1000000
 last:gR (I0 f p (N6 p)) ((I0 f p (N6 p)).length-1)≠0
theorem Ano {f:Nat}(h:Bn u v p)(hp:Aho f p):Fn0 prog 68 [v] u fun v' u'=>Bn u' v' (Ey f p):=by
 obtain⟨a,c,rfl⟩:=h.opn;have hlen:=hp.len;refine Fn0.o func68 ?_;refine G.c call136 (Aal h hp.sz oV oV) ?_;intro v1 u1 l1 k1;obtain⟨a1,c1,rfl⟩:=k1.opn;refine G.l (ι:=Nat×(Option Addr×Nat)×(Option Addr×Nat)×List Rat×List Rat) (fun i=>[(0,sV a p.length c),(3,sV i.2.1.1 i.2.2.2.1.length i.2.1.2),(4,sV i.2.2.1.1 i.2.2.2.2.length i.2.2.1.2)]) (fun _=>[])
  (fun i u' m'=>Ajj i.1 i.2.2.2.1 i.2.2.2.2/\I0 i.1 i.2.2.2.1 i.2.2.2.2=I0 f p (N6 p)/\Bn u' (.slice i.2.1.1 i.2.2.2.1.length i.2.1.2) i.2.2.2.1/\Bn u' (.slice i.2.2.1.1 i.2.2.2.2.length i.2.2.1.2) i.2.2.2.2/\m'=PH.mt)
  (fun i=>i.1) (f,(a,c),(a1,c1),p,N6 p) ⟨hp.ok,rfl,h.mono l1,k1,rfl⟩ ?_
 rintro J ⟨k,⟨a2,c2⟩,⟨a3,c3⟩,x,y⟩ hJ u2 m2 l2 ⟨hok,hgo,hx,hy,rfl⟩;simp only at hok hgo hx hy hJ;cases y with
 |nil =>
  refine G.gF ((0:Nat):Int) 0 ?_;rw[Aht]at hgo;subst hgo;refine G.c call137 (Afu (h.mono (l1.trans l2)) hx hp.sz hp.sz' oV hp.ne hlen hp.ne' hp.len' hp.last) ?_;rintro v4 u4 l4 ⟨r1,r2,rfl,k4,k5⟩;obtain⟨a4,c4,rfl⟩:=k4.opn;obtain⟨a5,c5,rfl⟩:=k5.opn;exact G.r _ ⟨rfl,k4⟩
 |cons y0 y =>
  cases k with
  |zero=>exact hok.elim
  |succ k =>
   obtain⟨h1,h2,h3,h4,h5,h6,h7⟩:=hok;refine G.gT' (((y0::y).length:Nat):Int) 0 mV ?_;refine G.c call137 (Afu hx hy h5 h6 oV h2 h3 mV h4 h1) ?_;rintro v4 u4 l4 ⟨r1,r2,rfl,k4,k5⟩;obtain⟨a4,c4,rfl⟩:=k4.opn;obtain⟨a5,c5,rfl⟩:=k5.opn;refine G.b (hJ (k,(a3,c3),(a5,c5),y0::y,Aa0 x (y0::y)) _ _ _ cV (l2.trans l4) ⟨h7,?_,hy.mono l4,k5,rfl⟩ dV);dsimp only;rw[<-hgo,I0,if_neg mV]
end
def Yt (q:Rat):Rat:=if q<0 then -q else q
def Ki (r:List Rat):Nat->Nat->Rat->Rat
 |0,_,s=>s
 |f+1,i,s=>Ki r f (i+1) (s+Yt (gR r i))
def Q4:Nat->Rat->Rat->Rat
 |0,o,_=>o
 |f+1,o,s=>if o<s then Q4 f (o+o) s else o
def Ach (F:Nat)(A:List (List Rat)):Nat->Nat->Rat->Rat
 |0,_,o=>o
 |f+1,i,o=>Ach F A f (i+1) (Q4 F o (Ki (gM A i) (gM A i).length 0 0))
def Qz (F:Nat)(A:List (List Rat)):Rat:=Ach F A A.length 0 1
def B4 (q:Rat):Bool:=decide (q.num.natAbs<10^100)&&decide (q.den<10^100)
def Ahh:Nat->Rat->Rat->Bool
 |0,o,s=>B4 o && !decide (o<s)
 |f+1,o,s=>B4 o&&(!decide (o<s)||Ahh f (o+o) s)
def Adz (F:Nat)(A:List (List Rat)):Nat->Nat->Rat->Bool
 |0,_,o=>B4 o
 |f+1,i,o=>Ahh F o (Ki (gM A i) (gM A i).length 0 0)&&Adz F A f (i+1) (Q4 F o (Ki (gM A i) (gM A i).length 0 0))
def Ls (all sim:List Rat)(h:Nat):Nat->List (Rat×Rat×Nat)->List (Rat×Rat×Int)->Option (List (Rat×Rat×Int))
 |0,_,_=>none
 |_+1,[],out=>some out
 |f+1,x::st,out =>
  if B4 x.1&&B4 x.2.1 then
   if Au sim x.1 x.2.1=0 then Ls all sim h f st out
   else if Au sim x.1 x.2.1=1/\h<=x.2.2 then Ls all sim h f st (out++[(x.1,x.2.1,Au all x.1 x.2.1)])
   else if 60<=x.2.2 then none
   else Ls all sim h f ((x.1,(x.1+x.2.1)/2,x.2.2+1)::((x.1+x.2.1)/2,x.2.1,x.2.2+1)::st) out
  else none
def Akz:Option Rat->Rat->Bool
 |none,_=>true
 |some r,x=>decide (r<=x)
def Xk (p:List Rat):Option Rat->List (Rat×Rat×Int)->Int->Option Int
 |_,[],s=>some s
 |pr,x::l,s =>
  if B4 x.1&&B4 x.2.1&&decide (x.1<x.2.1)&&Akz pr x.1&&decide (C7 p x.2.1+(Co p x.2.1:Int)-(C7 p x.1+(Co p x.1:Int))=x.2.2)&&decide (1<=x.2.2)
  then Xk p (some x.2.1) l (s+x.2.2) else none
section
variable {q r:Rat}{u:PH}
theorem D9:∀ {k n:Nat} (_:0<k) (_:n<10^k),Lib.nDigits n<=k
 |0,n,hk,h=>oV
 |k+1,n,hk,h=>by
  by_cases hn:n<10
  ·rw[Lib.nDigits_small hn];omega
  ·rw[Lib.nDigits_big hn];have hk0:0<k:=by
    rcases At5 k with h0|h0
    ·subst h0;simp at h;omega
    ·exact h0
   have:=D9 (k:=k) (n:=n/10) hk0 (by rw[Nat.div_lt_iff_lt_mul oV,<-Nat.pow_succ];exact h);omega
theorem Cz (h:B4 q=true):Tx q/\Sz q 12:=by
 simp only[B4,Atj,decide_eq_true_eq]at h;have h1:=D9 oV h.1;have h2:=D9 oV h.2;have e:(10:Nat)^100<=1000000000^12:=fV
 exact⟨⟨oV,oV⟩,A0 (Auf h.1 e),A0 (Auf h.2 e)⟩
theorem Afh :sg (q-r)<0↔q<r:=by
 rcases Jj (q-r) with ⟨h,e⟩|⟨h,e⟩|⟨h,e⟩
 ·rw[e];exact⟨fun _=>by grind,fun _=>oV⟩
 ·rw[e];exact⟨fun h'=>oV,fun h'=>by grind⟩
 ·rw[e];exact⟨fun h'=>oV,fun h'=>by grind⟩
theorem Yh {x x':Value}(h:An u x q)(h':An u x' r)(h1:Sz q 1000000000000)(h2:Sz r 1000000000000):Fn0 prog 138 [x,x'] u fun v _=>v=.int .i64 (sg (q-r)):=by
 rw[<-Ru,<-Afg];exact O5 h h' h1 h2
theorem Amj {k:Nat}(h:Sz q k):Sz (Yt q) k:=by
 unfold Yt;split
 ·exact Alu h
 ·exact h
theorem Ap0 {v:Value}{A:List (List Rat)}{T F:Nat}(h:Bx u v (Br A))(hA:M3 A T)(hb:Adz F A A.length 0 1=true) :
 Fn0 prog 69 [v] u fun v' u'=>An u' v' (Qz F A):=by
 obtain⟨a,c,rfl⟩:=h.opn;rw[Ba]at h⊢;have hle:=hA.le;have hT:=hA.tle;have one:((1:Int):Rat)=1:=fV
 have zero:((0:Int):Rat)=0:=fV
 refine Fn0.o func69 ?_;refine G.c call56 (Dk (z:=1) oV oV) ?_;intro v1 u1 l1 k1;rw[one]at k1;obtain⟨f1,rfl⟩:=k1.opF;refine G.l (ι:=Nat×F4×Rat) (fun i=>[(2,.p 0 0),(3,.p 1001 0),(10,sV a A.length c),(11,iV A.length),(12,iV i.1)])
  (fun i=>[(0,⟨103,[bV false,sV none 0 0,bV false,sV none 0 0]⟩),(1001,⟨103,fc i.2.1⟩)])
  (fun i u' m'=>i.1<=A.length/\Adz F A (A.length-i.1) i.1 i.2.2=true/\Ach F A (A.length-i.1) i.1 i.2.2=Qz F A/\An u' (fv i.2.1) i.2.2/\m'=PH.mt)
  (fun i=>A.length-i.1) (0,f1,1) ⟨Atu _,hb,rfl,k1,rfl⟩ ?_
 rintro J ⟨i,fo,o⟩ hJ u2 m2 l2 ⟨hi,hbo,hgo,ho,rfl⟩;simp only at hi hbo hgo ho hJ;by_cases hlt:i<A.length
 ·refine G.lT (i:Int) (A.length:Int) ?_;have htk:A[i]?=some A[i]:=As5 hlt;have hmem:=Ath hlt;have hgm:=Q5 hlt;have hrl:A[i].length=A.length:=hA.sq.row _ hmem;obtain⟨ba,oa,a3,c3,rfl,e3,s3⟩:=(h.mono (l1.trans l2)).row (Ex htk);rw[Ata]at e3 s3;refine G.a ba oa A.length c i 1 oV ?_;refine G.lU none ba (oa+i*1) _ e3 ?_;refine G.c call56 (Dk (z:=0) oV oV) ?_;intro v4 u4 l4 k4;rw[zero]at k4;obtain⟨f4,rfl⟩:=k4.opF;refine G.c call117 (P5 (Ad.mono s3 l4) (hA.sq.tx _ hmem) oV) ?_;intro v5 u5 l5 k5;obtain⟨a5,c5,rfl⟩:=k5.opn;have hszr:=hA.sz _ hmem;rw[show A.length-i=(A.length-(i+1))+1 by omega,Adz,Atj,hgm]at hbo;rw[show A.length-i=(A.length-(i+1))+1 by omega,Ach,hgm]at hgo;generalize A[i]=r at *
  refine G.l (ι:=Nat×F4×Rat) (fun j=>[(2,.p 0 0),(3,.p 1001 0),(10,sV (some ⟨ba,oa,none⟩) A.length c),(11,iV A.length),(12,iV i),(6,.p 5001 0),(18,sV a5 r.length c5),(19,iV r.length),(20,iV j.1)])
   (fun j=>[(0,⟨103,[bV false,sV none 0 0,bV false,sV none 0 0]⟩),(1001,⟨103,fc fo⟩),(5001,⟨103,fc j.2.1⟩)])
   (fun j u' m'=>j.1<=r.length/\Ki r (r.length-j.1) j.1 j.2.2=Ki r r.length 0 0/\Sz j.2.2 (1+j.1*(T+1))/\An u' (fv j.2.1) j.2.2/\m'=PH.mt)
   (fun j=>r.length-j.1) (0,f4,0) ⟨Atu _,rfl,Mt.mono oV,k4.mono l5,rfl⟩ ?_
  rintro J2 ⟨j,fs,s⟩ hJ2 u6 m6 l6 ⟨hj,hag,hsz,hs,rfl⟩;simp only at hj hag hsz hs hJ2;have hjT:j*(T+1)<=4*(T+1):=Nat.mul_le_mul_right _ oV;by_cases hltj:j<r.length
  ·refine G.lT (j:Int) (r.length:Int) ?_;obtain⟨b7,o7,d1,d2,d3,d4,d5,d6,d7,d8,rfl,e7,hf7⟩:=(k5.mono l6).at (j:=j) hltj;have hs7:=hszr.at hltj;refine G.a b7 o7 r.length c5 j 4 hltj ?_;refine G.lU (some 4) b7 (o7+j*4) _ e7 ?_;refine G.c call96 (Jz hf7 hs7 oV) ?_;rintro v8 u8 l8 rfl;have hse:=Nat.succ_mul j (T+1);simp only[Nat.succ_eq_add_one]at hse;have hsn:=F6 hsz (Amj hs7);by_cases hneg:gR r j<0
   ·have hab:Yt (gR r j) = -gR r j:=by unfold Yt;rw[if_pos hneg]
    refine G.lT' (sg (gR r j)) 0 (by rw[Qe hneg];omega) ?_;refine G.c call70 (Tj (hf7.mono l8) (As9 hs7.1 oV)) ?_;intro v9 u9 l9 k9;obtain⟨f9,rfl⟩:=k9.opF;rw[<-hab]at k9;refine G.c call57 (D7 (hs.mono (l8.trans l9)) k9 (hsz.mono oV) ((Amj hs7).mono oV)) ?_;intro v10 u10 l10 k10;obtain⟨f10,rfl⟩:=k10.opF;refine G.i j ?_;refine G.b (hJ2 (j+1,f10,s+Yt (gR r j)) _ _ _ cV (((l6.trans l8).trans l9).trans l10) ⟨dV,?_,hsn.mono dV,k10,rfl⟩ dV);dsimp only;rw[<-hag,show r.length-j=(r.length-(j+1))+1 by omega,Ki]
   ·have hab:Yt (gR r j)=gR r j:=by unfold Yt;rw[if_neg hneg]
    refine G.lF' (sg (gR r j)) 0 (by rcases Jj (gR r j) with ⟨h,e⟩|⟨h,e⟩|⟨h,e⟩<;>rw[e]<;>first|exact absurd h hneg|omega) ?_
    refine G.c call57 (D7 (hs.mono l8) (hf7.mono l8) (hsz.mono oV) (hs7.mono oV)) ?_;intro v10 u10 l10 k10;obtain⟨f10,rfl⟩:=k10.opF;rw[<-hab]at k10;refine G.i j ?_;refine G.b (hJ2 (j+1,f10,s+Yt (gR r j)) _ _ _ cV ((l6.trans l8).trans l10) ⟨dV,?_,hsn.mono dV,k10,rfl⟩ dV);dsimp only;rw[<-hag,show r.length-j=(r.length-(j+1))+1 by omega,Ki,hab]
  ·obtain rfl:j=r.length:=oV
   refine G.lF (r.length:Int) (r.length:Int) ?_;rw[Avc,Ki]at hag;rw[<-hag]at hbo hgo;have hss:Sz s 1000000000000:=hsz.mono oV;refine G.l (ι:=Nat×F4×Rat) (fun j=>[(2,.p 0 0),(3,.p 1001 0),(10,sV (some ⟨ba,oa,none⟩) A.length c),(11,iV A.length),(12,iV i),(6,.p 5001 0)])
    (fun j=>[(0,⟨103,[bV false,sV none 0 0,bV false,sV none 0 0]⟩),(1001,⟨103,fc j.2.1⟩),(5001,⟨103,fc fs⟩)])
    (fun j u' m'=>Ahh j.1 j.2.2 s=true/\Q4 j.1 j.2.2 s=Q4 F o s/\An u' (fv j.2.1) j.2.2/\m'=PH.mt)
    (fun j=>j.1) (F,fo,o) ⟨hbo.1,rfl,ho.mono ((l4.trans l5).trans l6),rfl⟩ ?_
   rintro J3 ⟨k,fp,p⟩ hJ3 u7 m7 l7 ⟨hdb,hdg,hp,rfl⟩;simp only at hdb hdg hp hJ3;have hsmall:B4 p=true:=by cases k<;>simp only[Ahh,Atj]at hdb<;>exact hdb.1
   have hszp:Sz p 1000000000000:=(Cz hsmall).2.mono oV;refine G.c call138 (Yh hp (hs.mono l7) hszp hss) ?_;rintro v8 u8 l8 rfl;by_cases hps:p<s
   ·refine G.lT' (sg (p-s)) 0 (Afh.2 hps) ?_;cases k with
    |zero=>simp[Ahh,hps]at hdb
    |succ k =>
     refine G.c call57 (D7 (hp.mono l8) (hp.mono l8) hszp hszp) ?_;intro v9 u9 l9 k9;obtain⟨f9,rfl⟩:=k9.opF;simp only[Ahh,Atj,hps,decide_true,Ayc,Bool.false_or]at hdb;refine G.b (hJ3 (k,f9,p+p) _ _ _ cV ((l7.trans l8).trans l9) ⟨hdb.2,?_,k9,rfl⟩ dV);dsimp only;rw[<-hdg,Q4,if_pos hps]
   ·refine G.lF' (sg (p-s)) 0 (fun h'=>hps (Afh.1 h')) ?_;have hpe:Q4 F o s=p:=by
     rw[<-hdg];cases k with
     |zero=>rfl
     |succ k=>rw[Q4,if_neg hps]
    rw[hpe]at hbo hgo;refine G.i i ?_;exact G.b (hJ (i+1,fp,p) _ _ _ cV (((((l2.trans l4).trans l5).trans l6).trans l7).trans l8) ⟨dV,hbo.2,hgo,hp.mono l8,rfl⟩ dV)
 ·obtain rfl:i=A.length:=oV
  refine G.lF (A.length:Int) (A.length:Int) ?_;rw[Avc,Ach]at hgo;rw[hgo]at ho;exact G.r (fv fo) ⟨rfl,ho⟩
end
section
section rules
variable [Ca] [Df] [Pu] {P:Program} [A7 P] {fn:Func} {Post:By} {st:List KI×S} {u m:PH}
theorem G.buildM (e:TypeId)(sz bt:Nat)(z:Value)(es:List Value)(h:Al P (adv P st)=.buildS (some (e,sz,bt,z)) es.length (es.zipIdx.map fun p=>(p.2,p.1)))(ho:Ax sz es)(hzs:z.cells.size=sz)(hsz:0<sz)(hn0:0<es.length)(hb:es.length*sz<=16777216)
 (k:∀ g m',Ae m m' (.slice (some ⟨g,0,none⟩) es.length es.length) e sz es->G P fn Post (nx (adv P st) (.slice (some ⟨g,0,none⟩) es.length es.length)) u m'):G P fn Post st u m:=by
 refine G.big (K:=fun v' u' m'=>u'=u/\PH.le m m'/\∃ g,v'=.slice (some ⟨g,0,none⟩) es.length es.length/\Ae m m' (.slice (some ⟨g,0,none⟩) es.length es.length) e sz es) h mV (fun env op hv=>?_) (.inl fun v u' m' hk=>hk.2.1) (fun env o hview w hgd=>?_) (fun v' u' m' hle hk=>?_)
 ·obtain⟨t,qs,rfl,_⟩:=Fp hv;rfl
 ·obtain⟨t,qs,e1,e2,hi⟩:=Fp hview;obtain⟨dst,opp,type,pos,after,guard⟩:=o;simp only at e1;subst e1;obtain⟨hu,i,hi1,hi2,rfl,rfl⟩:=Dx hi;obtain⟨g1,g2,g3,g4⟩:=hgd.newM (cs:=(Aw es).toArray) (t:=e) (by simpa using E7 ho);have hfl:=A4 ho;have hne:es.length*i.size≠0:=by have:=Nat.mul_pos hn0 hsz;omega
  have hfill:=T0 es 0 ((A0m (es.length*i.size)).map (z.cells[· % z.cells.size]!)) ho mV;have e0:((A0m (es.length*i.size)).map (z.cells[· % z.cells.size]!)).toList.drop (es.length*i.size) = []:=by
   apply List.drop_eq_nil_of_le;simp
  simp only[Ax5,List.take_zero,List.nil_append,Aud,e0,Auu]at hfill;refine Bs (w':=w.alloc (.cells (Aw es).toArray e (0,0))) (v:=.slice (some ⟨w.heap.size,0,none⟩) es.length es.length) ?_ ⟨u,_,g1,g2,rfl,K6 _ g3,_,rfl,ho,.inr ⟨w.heap.size,es.length,[],g3,by rw[Auu],rfl,Atb _,by rw[Auu,hfl],mV⟩⟩;simp only[execOp,e2];simp[Instr.buildSlice,run_underlying hu,sizeOf,typeInfo,zeroValue,hi1,hi2,hne,hfill,newRow,show ¬ 16777216<es.length*i.size by omega]
 ·obtain⟨rfl,_,g,rfl,hk⟩:=hk;exact k g m' hk
end rules
def pc9 (x y:F4)(k:Nat):Value:=.agg #[.bool x.b,.slice x.a x.n x.c,.bool x.b',.slice x.a' x.n' x.c',.bool y.b,.slice y.a y.n y.c,.bool y.b',.slice y.a' y.n' y.c',.int .i64 (k:Int)]
theorem Ko (x y:F4)(k:Nat):Ax 9 [pc9 x y k]:=by
 intro v hv;simp at hv;subst hv;refine⟨rfl,fun z hz=>?_⟩;simp[pc9,Atw]at hz;rcases hz with rfl|rfl|rfl|rfl|rfl|rfl|rfl|rfl|rfl<;>rfl
def zP:Value:=.agg #[.bool false,.slice none 0 0,.bool false,.slice none 0 0,.bool false,.slice none 0 0,.bool false,.slice none 0 0,.int .i64 0]
structure Pc where
 x:F4
 y:F4
 lo:Rat
 hi:Rat
 k:Nat
def Pc.val (p:Pc):Value:=pc9 p.x p.y p.k
def Pc.plain (p:Pc):Rat×Rat×Nat:=(p.lo,p.hi,p.k)
structure Alp (u:PH)(p:Pc):Prop where
 lo:An u (fv p.x) p.lo
 hi:An u (fv p.y) p.hi
 k:p.k<=60
theorem Alp.mono {u u':PH}{p:Pc}(h:Alp u p)(hl:PH.le u u'):Alp u' p:=⟨h.lo.mono hl,h.hi.mono hl,h.k⟩
def O8 (v:Value)(es:List Value):Arr:=⟨v,144,9,es⟩
def Aac (v:Value)(es:List Value):Arr:=⟨v,148,2,es⟩
def Aaj (v:Value)(es:List Value):Arr:=⟨v,3,1,es⟩
def ivV (x:Rat×Rat×Int):Value:=.agg #[.string (mkS (Ap x.1)),.string (mkS (Ap x.2.1))]
def muV (x:Rat×Rat×Int):Value:=.int .i64 x.2.2
theorem Amo (l:List (Rat×Rat×Int)):Ax 2 (l.map ivV):=by
 intro e he;obtain⟨x,_,rfl⟩:=Ate.1 he;exact⟨rfl,fun y hy=>by simp[ivV,Atw]at hy;rcases hy with rfl|rfl<;>rfl⟩
theorem Ak7 (l:List (Rat×Rat×Int)):Ax 1 (l.map muV):=by
 intro e he;obtain⟨x,_,rfl⟩:=Ate.1 he;exact⟨rfl,fun y hy=>by simp[muV,Atw]at hy;subst hy;rfl⟩
def Lj (u:PH)(v:Value)(res:List (Rat×Rat×Int)):Prop:=∃ a c a' c',v=.agg #[.slice a res.length c,.slice a' res.length c']/\Ad u (.slice a res.length c) 2 (res.map ivV)/\Ad u (.slice a' res.length c') 1 (res.map muV)
structure SpI where
 f:Nat
 st:List Pc
 out:List (Rat×Rat×Int)
 sa:Option Addr
 sn:Nat
 sc:Nat
 ia:Option Addr
 ic:Nat
 ma:Option Addr
 mc:Nat
def K9 (all sim:List Rat)(h:Nat):Nat->List (Rat×Rat×Nat)->List (Rat×Rat×Int)->Option (Option (List (Rat×Rat×Int)))
 |0,_,_=>none
 |_+1,[],out=>some (some out)
 |f+1,x::st,out =>
  if B4 x.1&&B4 x.2.1 then
   if Au sim x.1 x.2.1=0 then K9 all sim h f st out
   else if Au sim x.1 x.2.1=1/\h<=x.2.2 then K9 all sim h f st (out++[(x.1,x.2.1,Au all x.1 x.2.1)])
   else if 60<=x.2.2 then some none
   else K9 all sim h f ((x.1,(x.1+x.2.1)/2,x.2.2+1)::((x.1+x.2.1)/2,x.2.1,x.2.2+1)::st) out
  else none
theorem Pw {all sim:List Rat}{h:Nat}{res:List (Rat×Rat×Int)}:∀ (f:Nat) (st:List (Rat×Rat×Nat)) (out:List (Rat×Rat×Int)),Ls all sim h f st out=some res->K9 all sim h f st out=some (some res)
 |0,_,_,e=>by simp[Ls]at e
 |f+1,[],out,e=>by simp only[Ls,Atd]at e;rw[K9,e]
 |f+1,x::st,out,e=>by
  rw[Ls]at e;rw[K9];split at e
  ·rename_i h1;rw[if_pos h1];split at e
   ·rename_i h2;rw[if_pos h2];exact Pw f _ _ e
   ·rename_i h2;rw[if_neg h2];split at e
    ·rename_i h3;rw[if_pos h3];exact Pw f _ _ e
    ·rename_i h3;rw[if_neg h3];split at e
     ·cases e
     ·rename_i h4;rw[if_neg h4];exact Pw f _ _ e
  ·cases e
def Py (u:PH)(v:Value):Option (List (Rat×Rat×Int))->Prop
 |some res=>∃ r,v=.tuple #[r,.int .i64 0]/\Lj u r res
 |none=>v=.tuple #[.agg #[.slice none 0 0,.slice none 0 0],.int .i64 3]
theorem Py.mk {u:PH}{v:Value}{res:List (Rat×Rat×Int)}(h:∃ r,v=.tuple #[r,.int .i64 0]/\Lj u r res):Py u v (some res):=h
theorem Aig {u:PH}{v:Value}{A:List (List Rat)}{T S fS F fu h:Nat}{res:Option (List (Rat×Rat×Int))}(ht:D1 u)(hm:Bx u v (Br A))(hA:M3 A T)(htx:∀ q∈Ao A,Tx q)(hSS:SzL (Ao A) (cb T A.length)->SzL (Ao A) S)(hST:S+13<=500000)(hh:h<=60)(hS:Aho fS (Ao A))
 (hs1:Ey fS (Ao A)≠[]) (hs2:(Ey fS (Ao A)).length<=5) (hs3:gR (Ey fS (Ao A)) ((Ey fS (Ao A)).length-1)≠0) (hs4:SzL (Ey fS (Ao A)) 400000)
 (hb:Adz F A A.length 0 1=true) (hb2:B4 (Qz F A)=true) (hfu:fu<=100000) (hgo:K9 (Ao A) (Ey fS (Ao A)) h fu [(-(Qz F A+1),Qz F A+1,0)] []=some res) :
 Fn0 prog 20 [v,.int .i64 (h:Int)] u fun v' u'=>Py u' v' res:=by
 have hpo:=fun (u':PH) (v:Value) (ht':D1 u') (hv:Bx u' v (Br A))=>Mb ht' hv hA htx;have hch:=fun (u':PH) (v:Value) (hv:Bx u' v (Br A))=>Alc hv hA.sq hA.w.le hA.w.tle hA.sz;have hbo:=fun (u':PH) (v:Value) (hv:Bx u' v (Br A))=>Ap0 hv hA hb;have hle:=hA.le;have hcl:=Cw A;have hclast:gR (Ao A) ((Ao A).length-1)≠0:=by rw[hcl,Nat.add_sub_cancel,Up];decide
 have hcne:Ao A≠[]:=by intro e;rw[e]at hcl;simp at hcl
 have one:((1:Int):Rat)=1:=fV
 have two:((2:Int):Rat)=2:=fV
 have two0:(2:Rat)≠0:=fV
 have s2:Sz (2:Rat) 1:=Nv (z:=2) fV;generalize hsim:Ey fS (Ao A)=sim at *
 generalize hall:Ao A=all at *
 obtain⟨hbt,hbs⟩:=Cz hb2;have hes:Sz (Qz F A+1) 14:=(F6 hbs (Nv (z:=1) fV)).mono oV;obtain⟨a,c,rfl⟩:=hm.opn;refine Fn0.o func20 ?_;refine G.c call19 (hpo _ _ ht hm) ?_;rintro v1 u1 l1 ⟨r1,rfl,k1⟩;obtain⟨a1,c1,rfl⟩:=Ad.opn k1;refine G.nF 0 0 ?_;refine G.lF (h:Int) 0 ?_;refine G.gF (h:Int) 60 ?_;refine G.c call52 (hch _ _ (hm.mono l1)) ?_;rintro v2 u2 l2 ⟨k2,sz2⟩;replace sz2:=hSS sz2;obtain⟨a2,c2,rfl⟩:=k2.opn;refine G.c call68 (Ano k2 hS) ?_;intro v3 u3 l3 k3;rw[hsim]at k3;obtain⟨a3,c3,rfl⟩:=k3.opn;refine G.c call69 (hbo _ _ (hm.mono ((l1.trans l2).trans l3))) ?_;intro v4 u4 l4 k4;obtain⟨f4,rfl⟩:=k4.opF;refine G.c call56 (Dk (z:=1) oV oV) ?_;intro v5 u5 l5 k5;rw[one]at k5;obtain⟨f5,rfl⟩:=k5.opF;refine G.c call57 (D7 (k4.mono l5) k5 (hbs.mono oV) ((Nv (z:=1) fV).mono oV)) ?_;intro v6 u6 l6 k6;obtain⟨f6,rfl⟩:=k6.opF;generalize Qz F A+1=E at *
 refine G.c call70 (Tj k6 (As9 hes.1 oV)) ?_;intro v7 u7 l7 k7;obtain⟨f7,rfl⟩:=k7.opF;refine G.buildM 144 9 136 zP [pc9 f7 f6 0] kV (Ko _ _ _) rfl oV mV mV ?_;intro g8 m8 hA8;have hlu:PH.le u u7:=(((((l1.trans l2).trans l3).trans l4).trans l5).trans l6).trans l7;have hbag0:Bag m8 [O8 (.slice (some ⟨g8,0,none⟩) 1 1) [pc9 f7 f6 0],Aac (.slice none 0 0) [],Aaj (.slice none 0 0) []]:=⟨PH.mt,hA8,PH.mt,Ae.nil _ _ _,PH.mt,Ae.nil _ _ _,trivial⟩;refine G.l (ι:=SpI) (fun i=>[(1,iV h),(4,.p 0 0),(8,sV a2 all.length c2),(9,sV a3 sim.length c3),(11,sV i.sa i.sn i.sc),(12,.p 10000 0)])
  (fun i=>[(0,⟨69,[sV none 0 0,sV none 0 0]⟩),(10000,⟨69,[sV i.ia i.out.length i.ic,sV i.ma i.out.length i.mc]⟩)])
  (fun i u' m'=>K9 all sim h i.f (i.st.map Pc.plain) i.out=some res/\i.f<=fu/\i.sn=i.st.length/\i.st.length+i.f<=fu+1/\i.out.length+i.f<=fu/\(∀ p∈i.st,Alp u' p)/\Bag m' [O8 (.slice i.sa i.sn i.sc) (i.st.map Pc.val).reverse,Aac (.slice i.ia i.out.length i.ic) (i.out.map ivV),Aaj (.slice i.ma i.out.length i.mc) (i.out.map muV)])
  (fun i=>i.f) ⟨fu,[⟨f7,f6,-E,E,0⟩],[],some ⟨g8,0,none⟩,1,1,none,0,none,0⟩
  ⟨hgo,Atb _,rfl,gV,mV,fun p hp=>by simp at hp;subst hp;exact⟨k7,k6.mono l7,Atu _⟩,hbag0⟩ ?_
 clear hbag0 hA8;rintro J ⟨f,st,out,sa,sn,sc,ia,ic,ma,mc⟩ hJ u8 m9 l8 ⟨hg,hf,hsn,hfl,hol,hpk,hbag⟩;simp only at hg hf hsn hfl hol hpk hbag hJ;subst hsn;have hlu8:PH.le u u8:=hlu.trans l8;have kall:Bn u8 (.slice a2 all.length c2) all:=k2.mono (((((l3.trans l4).trans l5).trans l6).trans l7).trans l8);have ksim:Bn u8 (.slice a3 sim.length c3) sim:=k3.mono ((((l4.trans l5).trans l6).trans l7).trans l8);cases f with
 |zero=>simp[K9]at hg
 |succ f =>
  cases st with
  |nil =>
   refine G.gF ((0:Nat):Int) 0 ?_;simp only[Axd,K9,Atd]at hg;subst hg;obtain⟨m0,hx0,hbag2⟩:=hbag.take 1 rfl;refine G.give m0 (out.map ivV) (.slice ia out.length ic) (t:=148) (sz:=2) kV hx0 (fun _=>.inl rfl) ?_;intro u9 l9 hL9;obtain⟨m1,hx1,_⟩:=hbag2.take 1 rfl;refine G.give m1 (out.map muV) (.slice ma out.length mc) (t:=3) (sz:=1) kV hx1 (fun _=>.inl rfl) ?_;intro u10 l10 hL10;refine G.drop PH.mt kV (PH.mt_le _) ?_;exact G.r (.tuple #[.agg #[.slice ia out.length ic,.slice ma out.length mc],.int .i64 0]) ⟨rfl,Py.mk ⟨_,rfl,ia,ic,ma,mc,rfl,hL9.mono l10,hL10⟩⟩
  |cons p st =>
   obtain⟨px,py,lo,hi,k⟩:=p;have hp:=hpk ⟨px,py,lo,hi,k⟩ mV;obtain⟨hplo,hphi,hpkk⟩:=hp;simp only at hplo hphi hpkk;simp only[Auk,Pc.plain,K9]at hg;have hsm:(B4 lo&&B4 hi)=true:=by
    cases hc:(B4 lo&&B4 hi) with
    |true=>rfl
    |false=>simp[hc]at hg
   rw[if_pos hsm]at hg;rw[Atj]at hsm;obtain⟨tlo,slo⟩:=Cz hsm.1;obtain⟨thi,shi⟩:=Cz hsm.2;have hrev:((⟨px,py,lo,hi,k⟩::st).map Pc.val).reverse=(st.map Pc.val).reverse++[pc9 px py k]:=by simp[Pc.val]
   rw[hrev]at hbag;obtain⟨gs,cs,e⟩:=hbag.ptr 0 rfl (by simp[O8]);simp only[O8,Atr]at e;obtain⟨rfl,_,rfl⟩:=e;simp only[Auh]at hfl hbag⊢;have hcap:st.length+1<=sc:=by
    obtain⟨m0,hx0,_⟩:=hbag.focus 0 rfl;exact Ae.cap (show Ae m0 m9 (.slice (some ⟨gs,0,none⟩) (st.length+1) sc) _ 9 _ from hx0)
   have hEl:ElP m9 gs (0+st.length*9) (pc9 px py k):=hbag.el 0 rfl rfl (by show ((st.map Pc.val).reverse++[pc9 px py k])[st.length]?=_;rw[List.getElem?_append_right mV];simp);refine G.gT ((st.length+1:Nat):Int) 0 ?_;refine G.s ((st.length+1:Nat):Int) 1 (st.length:Int) ?_;refine G.a gs 0 (st.length+1) sc st.length 9 oV ?_;refine G.lM (some 9) gs (0+st.length*9) _ hEl ?_;refine G.s ((st.length+1:Nat):Int) 1 (st.length:Int) ?_;refine G.sliceTo 9 (some ⟨gs,0,none⟩) (st.length+1) sc st.length kV oV ?_;have hbag2:Bag m9 [O8 (.slice (some ⟨gs,0,none⟩) st.length sc) (st.map Pc.val).reverse,Aac (.slice ia out.length ic) (out.map ivV),Aaj (.slice ma out.length mc) (out.map muV)]:=by
    obtain⟨m0,hx0,hput⟩:=hbag.focus 0 rfl;have hx1:=Ae.take (show Ae m0 m9 (.slice (some ⟨gs,0,none⟩) (st.length+1) sc) 144 9 ((st.map Pc.val).reverse++[pc9 px py k]) from hx0) (k:=st.length) mV;rw[List.take_left' mV]at hx1;exact hput (O8 (.slice (some ⟨gs,0,none⟩) st.length sc) (st.map Pc.val).reverse) m9 hx1
   clear hbag hEl;have hpk':∀ p∈st,Alp u8 p:=fun p hp=>hpk p (by simp[hp]);refine G.c call71 (Aex (y:=fv px) (z:=fv py) (T:=12) ksim hplo hphi hs4 slo shi oV hs2 hs1 hs3) ?_;rintro v10 u10 l10 rfl;by_cases hn0:Au sim lo hi=0
   ·rw[if_pos hn0]at hg;refine G.eT' (Au sim lo hi) 0 hn0 ?_;exact G.b (hJ ⟨f,st,out,some ⟨gs,0,none⟩,st.length,sc,ia,ic,ma,mc⟩ _ _ _ cV (l8.trans l10) ⟨hg,dV,rfl,dV,dV,fun p hp=>(hpk' p hp).mono l10,hbag2⟩ dV)
   ·rw[if_neg hn0]at hg;refine G.eF' (Au sim lo hi) 0 hn0 ?_;by_cases hn1:Au sim lo hi=1/\h<=k
    ·rw[if_pos hn1]at hg;refine G.eT' (Au sim lo hi) 1 hn1.1 ?_;refine G.hT (k:Int) (h:Int) ?_;refine G.B 103 4 64 zF [fv px,fv py] (Ax.append (a:=[fv px]) (b:=[fv py]) (Re _) (Re _)) ?_;intro g11 u11 l11 e11;have hFP:Bn u11 (.slice (some ⟨g11,0,none⟩) 2 2) [lo,hi]:=⟨[fv px,fv py],⟨_,2,rfl,Atb _,fun j e hj=>⟨g11,0,rfl,e11 j e hj⟩⟩,by
      have h1:=AtP.snoc (R:=An) (u:=u11) (es:=[]) (xs:=[]) AtP.nil (hplo.mono (l10.trans l11));exact h1.snoc (hphi.mono (l10.trans l11))⟩
     refine G.c call67 (Ty (ht.mono ((hlu8.trans l10).trans l11)) hFP (by intro q hq;simp at hq;rcases hq with rfl|rfl;exact tlo;exact thi) mV) ?_;rintro v12 u12 l12 ⟨r12,rfl,k12⟩;obtain⟨a12,c12,rfl⟩:=Ad.opn k12;refine G.nF 0 0 ?_;obtain⟨b13,o13,rfl,e13⟩:=Ad.at' k12 (j:=0) (e:=.string (mkS (Ap lo))) rfl;obtain⟨b14,o14,eq14,e14⟩:=Ad.at' k12 (j:=1) (e:=.string (mkS (Ap hi))) rfl;cases eq14;refine G.a b13 o13 2 c12 0 1 oV ?_;refine G.lU none b13 (o13+0*1) _ e13 ?_;refine G.a b13 o13 2 c12 1 1 oV ?_;refine G.lU none b13 (o13+1*1) _ e14 ?_;refine G.B 148 2 32 (.agg #[.string (mkS []),.string (mkS [])]) [ivV (lo,hi,Au all lo hi)] (Amo [(lo,hi,Au all lo hi)]) ?_;intro g15 u15 l15 e15;obtain⟨m0,hx0,hput⟩:=hbag2.focus 1 rfl;refine G.k 148 2 32 (.agg #[.string (mkS []),.string (mkS [])]) m0 (out.map ivV) [ivV (lo,hi,Au all lo hi)] (.slice ia out.length ic) g15 0 1 1 hx0 e15 (Amo [(lo,hi,Au all lo hi)]) ?_;intro v16 m16 hx16;obtain⟨a16,c16,rfl⟩:=hx16.shape;have hbag3:=hput (Aac (.slice a16 (out.map ivV++[ivV (lo,hi,Au all lo hi)]).length c16) (out.map ivV++[ivV (lo,hi,Au all lo hi)])) m16 hx16;refine G.c call71 (Aex (y:=fv px) (z:=fv py) (T:=12) (kall.mono (((l10.trans l11).trans l12).trans l15)) (hplo.mono (((l10.trans l11).trans l12).trans l15)) (hphi.mono (((l10.trans l11).trans l12).trans l15)) sz2 slo shi oV oV hcne hclast) ?_;rintro v17 u17 l17 rfl;refine G.B 3 1 8 (.int .i64 0) [muV (lo,hi,Au all lo hi)] (Ak7 [(lo,hi,Au all lo hi)]) ?_;intro g18 u18 l18 e18;obtain⟨m0',hx0',hput'⟩:=hbag3.focus 2 rfl;refine G.k 3 1 8 (.int .i64 0) m0' (out.map muV) [muV (lo,hi,Au all lo hi)] (.slice ma out.length mc) g18 0 1 1 hx0' e18 (Ak7 [(lo,hi,Au all lo hi)]) ?_;intro v19 m19 hx19;obtain⟨a19,c19,rfl⟩:=hx19.shape;have hbag4:=hput' (Aaj (.slice a19 (out.map muV++[muV (lo,hi,Au all lo hi)]).length c19) (out.map muV++[muV (lo,hi,Au all lo hi)])) m19 hx19;have el1:(out.map ivV++[ivV (lo,hi,Au all lo hi)]).length=(out++[(lo,hi,Au all lo hi)]).length:=mV
     have el2:(out.map muV++[muV (lo,hi,Au all lo hi)]).length=(out++[(lo,hi,Au all lo hi)]).length:=mV
     have em1:out.map ivV++[ivV (lo,hi,Au all lo hi)]=(out++[(lo,hi,Au all lo hi)]).map ivV:=mV
     have em2:out.map muV++[muV (lo,hi,Au all lo hi)]=(out++[(lo,hi,Au all lo hi)]).map muV:=mV
     have hbag5:Bag m19 [O8 (.slice (some ⟨gs,0,none⟩) st.length sc) (st.map Pc.val).reverse,Aac (.slice a16 (out++[(lo,hi,Au all lo hi)]).length c16) ((out++[(lo,hi,Au all lo hi)]).map ivV),Aaj (.slice a19 (out++[(lo,hi,Au all lo hi)]).length c19) ((out++[(lo,hi,Au all lo hi)]).map muV)]:=by
      rw[el2,em2,el1,em1]at hbag4;exact hbag4
     rw[el1,el2];exact G.b (hJ ⟨f,st,out++[(lo,hi,Au all lo hi)],some ⟨gs,0,none⟩,st.length,sc,a16,c16,a19,c19⟩ _ _ _ cV ((((((l8.trans l10).trans l11).trans l12).trans l15).trans l17).trans l18) ⟨hg,dV,rfl,dV,by dsimp only;simp;omega,fun p hp=>(hpk' p hp).mono (((((l10.trans l11).trans l12).trans l15).trans l17).trans l18),hbag5⟩ dV)
    ·rw[if_neg hn1]at hg;by_cases hk60:60<=k
     ·rw[if_pos hk60]at hg;have hr:res=none:=(Auq hg).symm;subst hr;refine G.eF' (Au sim lo hi) 1 (fun e=>hn1 ⟨e,oV⟩) ?_;refine G.eT (k:Int) 60 ?_;refine G.drop PH.mt kV (PH.mt_le _) ?_;exact G.r (.tuple #[.agg #[.slice none 0 0,.slice none 0 0],.int .i64 3]) ⟨rfl,rfl⟩
     rw[if_neg hk60]at hg;by_cases h1:Au sim lo hi=1
     ·refine G.eT' (Au sim lo hi) 1 h1 ?_;refine G.hF' (k:Int) (h:Int) (by intro hc;exact hn1 ⟨h1,oV⟩) ?_;refine G.eF (k:Int) 60 ?_;refine G.c call57 (D7 (hplo.mono l10) (hphi.mono l10) (slo.mono oV) (shi.mono oV)) ?_;intro v11 u11 l11 k11;obtain⟨f11,rfl⟩:=k11.opF;refine G.c call56 (Dk (z:=2) oV oV) ?_;intro v12 u12 l12 k12;rw[two]at k12;obtain⟨f12,rfl⟩:=k12.opF;refine G.c call39 (Ib (k11.mono l12) k12 ((F6 slo shi).mono oV) (s2.mono oV) two0) ?_;intro v13 u13 l13 k13;obtain⟨f13,rfl⟩:=k13.opF;refine G.i k ?_;refine G.i k ?_;refine G.B 144 9 136 zP [pc9 f13 py (k+1),pc9 px f13 (k+1)] (Ax.append (a:=[pc9 f13 py (k+1)]) (b:=[pc9 px f13 (k+1)]) (Ko _ _ _) (Ko _ _ _)) ?_;intro g14 u14 l14 e14;obtain⟨m0,hx0,hput⟩:=hbag2.focus 0 rfl;refine G.k 144 9 136 zP m0 (st.map Pc.val).reverse [pc9 f13 py (k+1),pc9 px f13 (k+1)] (.slice (some ⟨gs,0,none⟩) st.length sc) g14 0 2 2 hx0 e14 (Ax.append (a:=[pc9 f13 py (k+1)]) (b:=[pc9 px f13 (k+1)]) (Ko _ _ _) (Ko _ _ _)) ?_;intro v15 m15 hx15;obtain⟨a15,c15,rfl⟩:=hx15.shape;have el:((st.map Pc.val).reverse++[pc9 f13 py (k+1),pc9 px f13 (k+1)]).length=st.length+1+1:=mV
      have hbag3:=hput (O8 (.slice a15 ((st.map Pc.val).reverse++[pc9 f13 py (k+1),pc9 px f13 (k+1)]).length c15) ((st.map Pc.val).reverse++[pc9 f13 py (k+1),pc9 px f13 (k+1)])) m15 hx15;have er:(st.map Pc.val).reverse++[pc9 f13 py (k+1),pc9 px f13 (k+1)]=((⟨px,f13,lo,(lo+hi)/2,k+1⟩::⟨f13,py,(lo+hi)/2,hi,k+1⟩::st:List Pc).map Pc.val).reverse:=by simp[Pc.val]
      rw[el,er]at hbag3;rw[el];have hll:PH.le u8 u14:=(((l10.trans l11).trans l12).trans l13).trans l14;refine G.b (hJ ⟨f,⟨px,f13,lo,(lo+hi)/2,k+1⟩::⟨f13,py,(lo+hi)/2,hi,k+1⟩::st,out,a15,st.length+1+1,c15,ia,ic,ma,mc⟩ _ _ _ cV (l8.trans hll) ⟨hg,dV,rfl,by dsimp only;simp;omega,dV,?_,hbag3⟩ dV);intro p hp;rcases At6.1 hp with rfl|hp
      ·exact⟨hplo.mono hll,k13.mono l14,dV⟩
      rcases At6.1 hp with rfl|hp
      ·exact⟨k13.mono l14,hphi.mono hll,dV⟩
      exact (hpk' p hp).mono hll
     ·refine G.eF' (Au sim lo hi) 1 h1 ?_;refine G.eF (k:Int) 60 ?_;refine G.c call57 (D7 (hplo.mono l10) (hphi.mono l10) (slo.mono oV) (shi.mono oV)) ?_;intro v11 u11 l11 k11;obtain⟨f11,rfl⟩:=k11.opF;refine G.c call56 (Dk (z:=2) oV oV) ?_;intro v12 u12 l12 k12;rw[two]at k12;obtain⟨f12,rfl⟩:=k12.opF;refine G.c call39 (Ib (k11.mono l12) k12 ((F6 slo shi).mono oV) (s2.mono oV) two0) ?_;intro v13 u13 l13 k13;obtain⟨f13,rfl⟩:=k13.opF;refine G.i k ?_;refine G.i k ?_;refine G.B 144 9 136 zP [pc9 f13 py (k+1),pc9 px f13 (k+1)] (Ax.append (a:=[pc9 f13 py (k+1)]) (b:=[pc9 px f13 (k+1)]) (Ko _ _ _) (Ko _ _ _)) ?_;intro g14 u14 l14 e14;obtain⟨m0,hx0,hput⟩:=hbag2.focus 0 rfl;refine G.k 144 9 136 zP m0 (st.map Pc.val).reverse [pc9 f13 py (k+1),pc9 px f13 (k+1)] (.slice (some ⟨gs,0,none⟩) st.length sc) g14 0 2 2 hx0 e14 (Ax.append (a:=[pc9 f13 py (k+1)]) (b:=[pc9 px f13 (k+1)]) (Ko _ _ _) (Ko _ _ _)) ?_;intro v15 m15 hx15;obtain⟨a15,c15,rfl⟩:=hx15.shape;have el:((st.map Pc.val).reverse++[pc9 f13 py (k+1),pc9 px f13 (k+1)]).length=st.length+1+1:=mV
      have hbag3:=hput (O8 (.slice a15 ((st.map Pc.val).reverse++[pc9 f13 py (k+1),pc9 px f13 (k+1)]).length c15) ((st.map Pc.val).reverse++[pc9 f13 py (k+1),pc9 px f13 (k+1)])) m15 hx15;have er:(st.map Pc.val).reverse++[pc9 f13 py (k+1),pc9 px f13 (k+1)]=((⟨px,f13,lo,(lo+hi)/2,k+1⟩::⟨f13,py,(lo+hi)/2,hi,k+1⟩::st:List Pc).map Pc.val).reverse:=by simp[Pc.val]
      rw[el,er]at hbag3;rw[el];have hll:PH.le u8 u14:=(((l10.trans l11).trans l12).trans l13).trans l14;refine G.b (hJ ⟨f,⟨px,f13,lo,(lo+hi)/2,k+1⟩::⟨f13,py,(lo+hi)/2,hi,k+1⟩::st,out,a15,st.length+1+1,c15,ia,ic,ma,mc⟩ _ _ _ cV (l8.trans hll) ⟨hg,dV,rfl,by dsimp only;simp;omega,dV,?_,hbag3⟩ dV);intro p hp;rcases At6.1 hp with rfl|hp
      ·exact⟨hplo.mono hll,k13.mono l14,dV⟩
      rcases At6.1 hp with rfl|hp
      ·exact⟨k13.mono l14,hphi.mono hll,dV⟩
      exact (hpk' p hp).mono hll
theorem Aih {u:PH}{v:Value}{A:List (List Rat)}{T fS F fu h:Nat}{res:Option (List (Rat×Rat×Int))}(ht:D1 u)(hm:Bx u v (Br A))(hA:M3 A T)(htx:∀ q∈Ao A,Tx q)(hST:cb T A.length+13<=500000)(hh:h<=60)(hS:Aho fS (Ao A))
 (hs1:Ey fS (Ao A)≠[]) (hs2:(Ey fS (Ao A)).length<=5) (hs3:gR (Ey fS (Ao A)) ((Ey fS (Ao A)).length-1)≠0) (hs4:SzL (Ey fS (Ao A)) 400000)
 (hb:Adz F A A.length 0 1=true) (hb2:B4 (Qz F A)=true) (hfu:fu<=100000) (hgo:K9 (Ao A) (Ey fS (Ao A)) h fu [(-(Qz F A+1),Qz F A+1,0)] []=some res) :
 Fn0 prog 20 [v,.int .i64 (h:Int)] u fun v' u'=>Py u' v' res :=
 Aig ht hm hA htx id hST hh hS hs1 hs2 hs3 hs4 hb hb2 hfu hgo
theorem Wx {u:PH}{v:Value}{A:List (List Rat)}{T fS F fu h:Nat}{res:List (Rat×Rat×Int)}(ht:D1 u)(hm:Bx u v (Br A))(hA:M3 A T)(htx:∀ q∈Ao A,Tx q)(hST:cb T A.length+13<=500000)(hh:h<=60)(hS:Aho fS (Ao A))
 (hs1:Ey fS (Ao A)≠[]) (hs2:(Ey fS (Ao A)).length<=5) (hs3:gR (Ey fS (Ao A)) ((Ey fS (Ao A)).length-1)≠0) (hs4:SzL (Ey fS (Ao A)) 400000)
 (hb:Adz F A A.length 0 1=true) (hb2:B4 (Qz F A)=true) (hfu:fu<=100000) (hgo:Ls (Ao A) (Ey fS (Ao A)) h fu [(-(Qz F A+1),Qz F A+1,0)] []=some res) :
 Fn0 prog 20 [v,.int .i64 (h:Int)] u fun v' u'=>∃ r,v'=.tuple #[r,.int .i64 0]/\Lj u' r res :=
 Aih ht hm hA htx hST hh hS hs1 hs2 hs3 hs4 hb hb2 hfu (Pw _ _ _ hgo)
end
section
variable [Ca] [Df] [Pu]
section rules
variable {P:Program} [A7 P] {fn:Func} {Post:By} {st:List KI×S} {u m:PH}
theorem Abc {env:Operand->Value}{o:Op}{t:TypeId}{x:Value}{f:Nat}(h:A8 P env o=.fieldA t x f):∃ X,o=.fieldAddr t X f/\env X=x:=by
 cases o<;>simp only[A8]at h<;>try cases h
 any_goals ((repeat' split at h)<;>cases h;done)
 ·exact⟨_,rfl,rfl⟩
theorem G.fieldA (t:TypeId)(b off f fo:Nat)(h:Al P (adv P st)=.fieldA t (.pointer (some ⟨b,off,none⟩)) f)(hf:Lq P t f=some fo)(k:G P fn Post (nx (adv P st) (.pointer (some ⟨b,off+fo,none⟩))) u m):G P fn Post st u m:=by
 refine G.ask h mV (fun env o hview w _=>?_) k;obtain⟨X,e,e1⟩:=Abc hview;obtain⟨dst,opp,type,pos,after,guard⟩:=o;simp only at e;subst e;unfold Lq at hf;split at hf
 ·rename_i fs hfs;split at hf
  ·rename_i fd hfd;split at hf
   ·rename_i n hn;simp only[Atd]at hf;subst hf;simp[execOp,Instr.fieldAt,run_underlying hfs,hfd,Instr.sureAddr,e1,fieldPlace,Be hn,Dp]
   ·cases hf
  ·cases hf
 ·cases hf
theorem G.remZ (x y z:Int)(h:Al P (adv P st)=.bin .rem (.int .i64 x) (.int .i64 y))(hy:0<y)(hy2:y<=9223372036854775807)(hz:x.tmod y=z)
 (k:G P fn Post (nx (adv P st) (.int .i64 z)) u m):G P fn Post st u m:=by
 refine G.bin _ h Da (fun t w=>?_) k;have h4:¬ y=0:=oV
 have h5:-y<z/\z<y:=by
  rw[<-hz];have a1:=A2d x hy;have a2:=A2e x hy;exact⟨a2,a1⟩
 simp[binOp,Op.intDiv,h4,hz]
end rules
end
section
variable [Ca] [Pu] [Df]
variable {P:Program} [A7 P] {fn:Func} {Post:By} {st:List KI×S} {u m:PH}
theorem G.f (t:TypeId)(b off f fo:Nat)(k:G P fn Post (nx (adv P st) (.pointer (some ⟨b,off+fo,none⟩))) u m)(h:Al P (adv P st)=.fieldA t (.pointer (some ⟨b,off,none⟩)) f:=by kernel_rfl)(hf:Lq P t f=some fo:=by kernel_rfl):G P fn Post st u m:=G.fieldA t b off f fo h hf k
end
theorem ElP.part {u:PH}{b off:Nat}{x:Rat×Rat×Int}(h:ElP u b off (ivV x)):ElP u b (off+1) (.string (mkS (Ap x.2.1))):=by
 intro i y hy
 match i,hy with
 |0,hy =>
  simp[Atw]at hy;subst hy;exact h 1 _ rfl
theorem Ap3 {u:PH}{v r:Value}{A:List (List Rat)}{T S:Nat}{res:List (Rat×Rat×Int)}(ht:D1 u)(hm:Bx u v (Br A))(hA:M3 A T)(htx:∀ q∈Ao A,Tx q)(hSS:SzL (Ao A) (cb T A.length)->SzL (Ao A) S)(hST:S+13<=500000)
 (hX:∀ x∈res,Nj x.1 A.length 12/\Nj x.2.1 A.length 12) (hr:Lj u r res) (hl:res.length<=100000) (hc:Xk (Ao A) none res 0=some (A.length:Int)) :
 Fn0 prog 22 [v,r] u fun v' _=>v'=.bool true:=by
 have hpo:=fun (u':PH) (v:Value) (ht':D1 u') (hv:Bx u' v (Br A))=>Mb ht' hv hA htx;have hup:=fun (u':PH) (v:Value) (x:Rat) (ht':D1 u') (hv:Bx u' v (Br A)) (hx:Nj x A.length 12)=>Ar2 ht' hv hA hx hSS oV;have hle:=hA.le;have hcl:=Cw A;obtain⟨a,c,rfl⟩:=hm.opn;rw[Ba]at hm⊢;obtain⟨ai,ci,am,cm,rfl,hI,hM⟩:=hr;refine Fn0.o func22 ?_;refine G.c call19 (hpo _ _ ht hm) ?_;rintro v1 u1 l1 ⟨r1,rfl,k1⟩;obtain⟨a1,c1,rfl⟩:=Ad.opn k1;refine G.nF 0 0 ?_;refine G.nF (res.length:Int) (res.length:Int) ?_;refine G.l (ι:=Nat×Int×Option Rat) (fun i=>[(0,sV a A.length c),(3,.p 0 0),(7,iV i.2.1),(31,sV ai res.length ci),(32,iV res.length),(33,iV i.1)])
  (fun _=>[(0,⟨69,[sV ai res.length ci,sV am res.length cm]⟩)])
  (fun i u' m'=>i.1<=res.length/\-(1000*i.1:Int)<=i.2.1/\i.2.1<=1000*i.1/\(∀ j x,i.1=j+1->res[j]?=some x->i.2.2=some x.2.1)/\Xk (Ao A) i.2.2 (res.drop i.1) i.2.1=some (A.length:Int)/\m'=PH.mt)
  (fun i=>res.length-i.1) (0,0,none) ⟨Atu _,mV,mV,fun j x h=>by simp at h,hc,rfl⟩ ?_
 rintro J ⟨i,s,pr⟩ hJ u2 m2 l2 ⟨hi,hs1,hs2,hpr,hgo,rfl⟩;simp only at hi hs1 hs2 hpr hgo hJ;by_cases hlt:i<res.length
 ·refine G.lT (i:Int) (res.length:Int) ?_;have hti:res[i]?=some res[i]:=As5 hlt;obtain⟨hx1,hx2⟩:=hX _ (Ath hlt);rw[List.drop_eq_getElem_cons hlt]at hgo;obtain⟨x,hxe⟩:∃ x,res[i]=x:=⟨_,rfl⟩;rw[hxe]at hti hx1 hx2 hgo;rw[Xk]at hgo;split at hgo
  ·rename_i hcond;simp only[Atj,decide_eq_true_eq]at hcond;obtain⟨⟨⟨⟨⟨c1',c2'⟩,c3'⟩,c4'⟩,c5'⟩,c6'⟩:=hcond;have hl2:PH.le u u2:=l1.trans l2;obtain⟨b3,o3,rfl,e3⟩:=Ad.at' (hI.mono hl2) (j:=i) (e:=ivV x) (by simp[hti]);refine G.a b3 o3 res.length ci i 2 hlt ?_;refine G.lU (some 2) b3 (o3+i*2) (ivV x) e3 ?_;refine G.c call47 (Fn hx1.tx) ?_;rintro v4 u4 l4 rfl;refine G.c call47 (Fn hx2.tx) ?_;rintro v5 u5 l5 rfl;refine G.c call72 (Rh hx1.tx hx2.tx) ?_;rintro v6 u6 l6 rfl;have hneg:sgn (x.1-x.2.1).num<0:=by rw[Ru];exact Afh.2 c3'
   refine G.hF (sgn (x.1-x.2.1).num) 0 ?_;have b1:=Lz (Ao A) x.1 oV;have b2:=Lz (Ao A) x.2.1 oV;have b3':=Jt (Ao A) x.1 oV;have b4:=Jt (Ao A) x.2.1 oV;obtain⟨b7,o7,eq7,e7⟩:=Ad.at' (hM.mono hl2) (j:=i) (e:=muV x) (by simp[hti]);subst eq7;rcases At5 i with hi0|hi0
   ·subst hi0;refine G.gF ((0:Nat):Int) 0 ?_;refine G.c call73 (hup _ _ x.1 (ht.mono (((hl2.trans l4).trans l5).trans l6)) (hm.mono (((hl2.trans l4).trans l5).trans l6)) hx1) ?_;rintro v8 u8 l8 rfl;refine G.c call73 (hup _ _ x.2.1 (ht.mono ((((hl2.trans l4).trans l5).trans l6).trans l8)) (hm.mono ((((hl2.trans l4).trans l5).trans l6).trans l8)) hx2) ?_;rintro v9 u9 l9 rfl;have hle9:PH.le u2 u9:=((((l4.trans l5).trans l6).trans l8).trans l9);refine G.sub (C7 (Ao A) x.2.1+(Co (Ao A) x.2.1:Int)) (C7 (Ao A) x.1+(Co (Ao A) x.1:Int)) x.2.2 kV c5' oV oV ?_;refine G.a b7 o7 res.length cm 0 1 hlt ?_;refine G.lU none b7 (o7+0*1) (muV x) (e7.mono hle9) ?_;refine G.nF' x.2.2 x.2.2 mV ?_;refine G.a b7 o7 res.length cm 0 1 hlt ?_;refine G.lU none b7 (o7+0*1) (muV x) (e7.mono hle9) ?_;refine G.lF x.2.2 1 ?_;refine G.a b7 o7 res.length cm 0 1 hlt ?_;refine G.lU none b7 (o7+0*1) (muV x) (e7.mono hle9) ?_;refine G.add s x.2.2 (s+x.2.2) kV rfl oV oV ?_;refine G.p ((0:Nat):Int) 1 ((0+1:Nat):Int) ?_;refine G.b (hJ (0+1,s+x.2.2,some x.2.1) _ _ _ cV (l2.trans hle9) ⟨dV,dV,dV,?_,hgo,rfl⟩ dV);intro j' y' hj' hy';dsimp only at hj'⊢;obtain rfl:j'=0:=oV
    rw[hti]at hy';rw[Auq hy']
   ·obtain⟨j,rfl⟩:∃ j,i=j+1:=⟨i-1,oV⟩;have hjl:j<res.length:=oV
    have htj:res[j]?=some res[j]:=As5 hjl;have hpe:=hpr j _ rfl htj;obtain⟨hy1,hy2⟩:=hX _ (Ath hjl);obtain⟨y,hye⟩:∃ y,res[j]=y:=⟨_,rfl⟩;rw[hye]at htj hpe hy1 hy2;subst hpe;simp only[Akz,decide_eq_true_eq]at c4';obtain⟨b10,o10,eq10,e10⟩:=Ad.at' (hI.mono hl2) (j:=j) (e:=ivV y) (by simp[htj]);cases eq10;refine G.gT ((j+1:Nat):Int) 0 ?_;refine G.s ((j+1:Nat):Int) 1 (j:Int) ?_;refine G.a b3 o3 res.length ci j 2 hjl ?_;refine G.f 148 b3 (o3+j*2) 1 1 ?_;refine G.lU none b3 (o3+j*2+1) (.string (mkS (Ap y.2.1))) (e10.part.mono ((l4.trans l5).trans l6)) ?_;refine G.c call72 (Rh hx1.tx hy2.tx) ?_;rintro v11 u11 l11 rfl;have hnn:¬ (sgn (x.1-y.2.1).num<0):=by rw[Ru];intro h';have:=Afh.1 h';grind
    refine G.lF' (sgn (x.1-y.2.1).num) 0 hnn ?_;refine G.c call73 (hup _ _ x.1 (ht.mono ((((hl2.trans l4).trans l5).trans l6).trans l11)) (hm.mono ((((hl2.trans l4).trans l5).trans l6).trans l11)) hx1) ?_;rintro v8 u8 l8 rfl;refine G.c call73 (hup _ _ x.2.1 (ht.mono (((((hl2.trans l4).trans l5).trans l6).trans l11).trans l8)) (hm.mono (((((hl2.trans l4).trans l5).trans l6).trans l11).trans l8)) hx2) ?_;rintro v9 u9 l9 rfl;have hle9:PH.le u2 u9:=(((((l4.trans l5).trans l6).trans l11).trans l8).trans l9);refine G.sub (C7 (Ao A) x.2.1+(Co (Ao A) x.2.1:Int)) (C7 (Ao A) x.1+(Co (Ao A) x.1:Int)) x.2.2 kV c5' oV oV ?_;refine G.a b7 o7 res.length cm (j+1) 1 hlt ?_;refine G.lU none b7 (o7+(j+1)*1) (muV x) (e7.mono hle9) ?_;refine G.nF' x.2.2 x.2.2 mV ?_;refine G.a b7 o7 res.length cm (j+1) 1 hlt ?_;refine G.lU none b7 (o7+(j+1)*1) (muV x) (e7.mono hle9) ?_;refine G.lF x.2.2 1 ?_;refine G.a b7 o7 res.length cm (j+1) 1 hlt ?_;refine G.lU none b7 (o7+(j+1)*1) (muV x) (e7.mono hle9) ?_;refine G.add s x.2.2 (s+x.2.2) kV rfl oV oV ?_;refine G.p (((j+1):Nat):Int) 1 (((j+1)+1:Nat):Int) ?_;refine G.b (hJ ((j+1)+1,s+x.2.2,some x.2.1) _ _ _ cV (l2.trans hle9) ⟨dV,dV,dV,?_,hgo,rfl⟩ dV);intro j' y' hj' hy';dsimp only at hj'⊢;obtain rfl:j'=(j+1):=oV
    rw[hti]at hy';rw[Auq hy']
  ·cases hgo
 ·obtain rfl:i=res.length:=oV
  refine G.lF (res.length:Int) (res.length:Int) ?_;rw[List.drop_of_length_le (Atb _),Xk,Atd]at hgo;subst hgo;refine G.eT' (A.length:Int) (A.length:Int) rfl ?_;exact G.r (.bool true) ⟨rfl,rfl⟩
theorem Ahp {u:PH}{v r:Value}{A:List (List Rat)}{T:Nat}{res:List (Rat×Rat×Int)}(ht:D1 u)(hm:Bx u v (Br A))(hA:M3 A T)(htx:∀ q∈Ao A,Tx q)(hST:cb T A.length+13<=500000)
 (hX:∀ x∈res,Nj x.1 A.length 12/\Nj x.2.1 A.length 12) (hr:Lj u r res) (hl:res.length<=100000) (hc:Xk (Ao A) none res 0=some (A.length:Int)) :
 Fn0 prog 22 [v,r] u fun v' _=>v'=.bool true :=
 Ap3 ht hm hA htx id hST hX hr hl hc
section
variable {k:Nat}{m0:PH}
theorem Amq (m:PH):m.or PH.mt=m:=by
 funext g;unfold PH.or;split
 ·rename_i o e;rw[e]
 ·rename_i e;rw[e];rfl
theorem Ak5 (m0 m:PH){g:Nat}(o:Obj)(h:m0 g=none):m0.or (m.upd g o)=(m0.or m).upd g o:=by
 funext k
 by_cases e:k=g
 ·subst e;rw[PH.or_r h,Ab,Ab]
 ·rw[Ac _ _ e];unfold PH.or;split
  ·rfl
  ·rw[Ac _ _ e]
theorem Ae.list {m0 m u:PH}{v:Value}{t:TypeId}{sz:Nat}{es:List Value}(h:Ae m0 m v t sz es)(hl:PH.le m u):Ad u v sz es:=by
 obtain⟨ho,h⟩:=h;rcases h with ⟨rfl,rfl,_⟩|⟨g,cap,rest,_,rfl,rfl,hcap,hlen,_⟩
 ·exact Ad.nil _ _ _ _
 ·refine⟨_,_,rfl,hcap,fun j e hj=>⟨g,0,rfl,fun i x hx=>⟨_,_,_,hl _ _ (Ab _ _ _),?_⟩⟩⟩;rw[List.getElem?_toArray,Aud];have:=Ik ho hj hx;rw[List.getElem?_append_left (by obtain⟨h,_⟩:=Atc.1 this;exact h)];exact this
theorem Bag.list {l:List Arr}{m u:PH}(h:Bag m l)(hl:PH.le m u)(i:Nat){x:Arr}(hi:l[i]?=some x):Ad u x.v x.sz x.es:=by
 obtain⟨m0,hx,_⟩:=h.focus i hi;exact Ae.list hx hl
section rules
variable [Ca] [Df] [Pu] {P:Program} [A7 P] {fn:Func} {Post:By} {st:List KI×S} {u m:PH}
theorem G.callA (f:Nat)(args:List Value){mf mc:PH}{R:Value->PH->PH->Prop}(h:Al P (adv P st)=.call f args)(hdr:Rq (adv P st)=true)(hc:∀ args w,(callFunc f args).run P w=.ok (.enter f args) w)(hm:m=mf.or mc)(hd:J9 mf mc)(c:Ak P f args u mc R)
 (k:∀ v u' mc',PH.le u u'->R v u' mc'->J9 mf mc'->G P fn Post (nx (adv P st) v) u' (mf.or mc')):G P fn Post st u m:=by
 subst hm;refine G.bigN (K:=fun v u' m'=>∃ mc',m'=mf.or mc'/\R v u' mc'/\J9 mf mc') h mV hdr El (fun env o hview w hgd=>?_) (fun v u' m' h1 h2=>?_)
 ·have hgc:B1 u mc w:=hgd.less (fun g o hg=>by
   cases hx:mf g with
   |some o'=>have:=(hd g).resolve_left (by rw[hx];simp);rw[this]at hg;cases hg
   |none=>rw[PH.or_r hx];exact hg)
  refine Kc hview hc w _ (Calls.mono (c w hgc) fun e w' he=>?_);obtain⟨v,u',mc',e1,e2,e3,e4⟩:=he;obtain⟨g1,g2⟩:=hgd.frameM hd e2 e3;refine⟨v,e1,u',mf.or mc',g1,g2,mc',rfl,e4,fun g=>?_⟩;cases hx:mf g with
  |none=>exact .inl rfl
  |some o =>
   right;have hlt:=B0 (hgd.pm g o (PH.or_l hx));exact e3.ms g hlt ((hd g).resolve_left (by rw[hx];simp))
 ·obtain⟨mc',rfl,hR,hA⟩:=h2;exact k v u' mc' h1 hR hA
theorem G.giveP {ma sm:PH}(h:Gg (ctl P 100 st).1=true)(hm:m=ma.or sm)(ha:J9 ma sm)(h0:∀ g,Post.m0 g=none\/sm g≠none)(k:∀ u',PH.le u u'->PH.le ma u'->G P fn Post (ctl P 100 st) u' sm):G P fn Post st u m:=by
 subst hm;refine⟨Jk 100 st ?_⟩;rw[Sym.ofNo h];intro c ρ a w hm0 hr;have hap:∀ g o,ma g=some o->u g=none:=fun g o hg=>(hr.gd.ap g).resolve_right (by rw[PH.or_l hg];simp);have hsm:∀ g o,sm g=some o->ma g=none:=fun g o hg=>(ha g).resolve_right (by rw[hg];simp);have hnew:∀ g o,ma g=some o->c.w0.heap.size<=g:=by
  intro g o hg;rcases Nat.lt_or_ge g c.w0.heap.size with hlt|hge
  ·have hpm:c.m0 g=none:=by
    rw[hm0];rcases h0 g with e|e
    ·exact e
    ·cases hs:sm g with
     |none=>exact absurd hs e
     |some o'=>have:=hsm g o' hs;rw[this]at hg;cases hg
   have:=hr.gr.ms g hlt hpm;rw[PH.or_l hg]at this;cases this
  ·exact hge
 have hle:PH.le u (ma.or u):=fun g o hg=>by
  cases hx:ma g with
  |none=>rw[PH.or_r hx];exact hg
  |some o'=>have:=hap g o' hx;rw[this]at hg;cases hg
 have hk:=(k (ma.or u) hle (fun g o hg=>PH.or_l hg)).out;rw[Sym.ofNo h]at hk;refine hk c ρ a w hm0 ⟨hr.sz,hr.tm,hr.df.of fun r e _ hu hm=>(by
  have hma:ma r=none:=(by
   cases hx:ma r with
   |none=>rfl
   |some o=>rw[PH.or_l hx]at hm;cases hm)
  rw[PH.or_r hma]at hm;exact⟨e,by rw[PH.or_r hma];exact hu,hm⟩),fun kk b hb=>?_,hr.inj,hr.lv,⟨fun g' o hg=>?_,fun g' o hg=>?_,fun g'=>?_,fun g' cs t' fr j z hg hj=>?_⟩,⟨hr.gr.sz,hr.gr.old,fun g' hg=>?_,fun g' hg hm=>?_,hr.gr.io,hr.gr.dr⟩⟩
 ·obtain⟨e1,e2,e3,e4⟩:=hr.box kk b hb;have hma:ma (ρ kk)=none:=by
   cases hx:ma (ρ kk) with
   |none=>rfl
   |some o=>rw[PH.or_l hx]at e4;cases e4
  rw[PH.or_r hma]at e4;exact⟨e1,e2,by rw[PH.or_r hma];exact e3,e4⟩
 ·cases hx:ma g' with
  |some o'=>rw[PH.or_l hx]at hg;cases hg;exact hr.gd.pm g' _ (PH.or_l hx)
  |none=>rw[PH.or_r hx]at hg;exact hr.gd.pu g' o hg
 ·exact hr.gd.pm g' o (by rw[PH.or_r (hsm g' o hg)];exact hg)
 ·cases hx:ma g' with
  |some o'=>right;exact (ha g').resolve_left (by rw[hx];simp)
  |none =>
   rw[PH.or_r hx];have:=hr.gd.ap g';rw[PH.or_r hx]at this;exact this
 ·cases hx:ma g' with
  |some o' =>
   rw[PH.or_l hx,<-hg];exact (hr.gd.pm g' _ (PH.or_l hx)).symm
  |none=>rw[PH.or_r hx];exact hr.gd.cl g' cs t' fr j z hg hj
 ·have hx:ma g'=none:=by
   cases hx:ma g' with
   |none=>rfl
   |some o=>have:=hnew g' o hx;omega
  rw[PH.or_r hx];exact hr.gr.us g' hg
 ·have:=hr.gr.ms g' hg hm;cases hx:ma g' with
  |some o=>have:=hnew g' o hx;omega
  |none=>rw[PH.or_r hx]at this;exact this
end rules
structure Src where
 g:Nat
 a:Option Addr
 n:Nat
 c:Nat
def Src.ptr (s:Src):Value:=.pointer (some ⟨s.g,0,none⟩)
def Src.el (s:Src)(k:Nat):Value:=.agg #[.slice s.a s.n s.c,.int .i64 (k:Int)]
def Src.M (s:Src)(k:Nat):PH:=PH.mt.upd s.g (.cells #[.slice s.a s.n s.c,.int .i64 (k:Int)] 75 (0,0))
def Src.arr (s:Src)(k:Nat):Arr:=⟨.slice (some ⟨s.g,0,none⟩) 1 1,75,2,[s.el k]⟩
theorem Src.el_ok (s:Src)(k:Nat):Ax 2 [s.el k]:=by
 intro x hx;simp at hx;subst hx;exact⟨rfl,fun y hy=>by simp[Src.el,Atw]at hy;rcases hy with rfl|rfl<;>rfl⟩
theorem Src.at {s:Src}(h:m0 s.g=none):(s.arr k).At m0 (m0.or (s.M k)):=by
 refine⟨s.el_ok k,.inr ⟨s.g,1,[],h,?_,rfl,Atb _,rfl,mV⟩⟩;unfold Src.M;rw[Ak5 _ _ _ h,Amq];rfl
theorem Src.split {s:Src}{m0 m:PH}(h:(s.arr k).At m0 m):m=m0.or (s.M k)/\m0 s.g=none:=by
 obtain⟨_,h⟩:=h;rcases h with ⟨h,_,_⟩|⟨g,cap,rest,h1,rfl,h2,h3,h4,h5⟩
 ·simp[Src.arr]at h
 ·simp only[Src.arr,Atr,Atd,Addr.mk.injEq,and_true]at h2;obtain⟨rfl,_,rfl⟩:=h2;have hr:rest = []:=by
   simp[Src.arr,Aw,Src.el,Atw]at h4;exact h4
  subst hr;refine⟨?_,h1⟩;unfold Src.M;rw[Ak5 _ _ _ h1,Amq];rfl
theorem Src.apart {s:Src}(h:m0 s.g=none):J9 m0 (s.M k):=fun g=>by
 by_cases e:g=s.g
 ·subst e;exact .inl h
 ·right;unfold Src.M;rw[Ac _ _ e];rfl
structure Li (u:PH)(s:Src)(ts:List Int):Prop where
 list:Ad u (.slice s.a s.n s.c) 1 (Ei ts)
 n:s.n=ts.length
 le:ts.length<=600
 lo:∀ t∈ts,-9223372036854775808<=t
 hi:∀ t∈ts,t<=9223372036854775807
theorem Li.mono {u u':PH}{s:Src}{ts:List Int}(h:Li u s ts)(hl:PH.le u u'):Li u' s ts:=⟨h.list.mono hl,h.n,h.le,h.lo,h.hi⟩
theorem Src.cell0 (s:Src)(k:Nat):ElP (s.M k) s.g (0+0) (.slice s.a s.n s.c):=fun i y hy=>by
 match i,hy with
 |0,hy=>simp[Atw]at hy;subst hy;exact⟨_,_,_,Ab _ _ _,rfl⟩
theorem Src.cell1 (s:Src)(k:Nat):ElP (s.M k) s.g (0+1) (.int .i64 (k:Int)):=fun i y hy=>by
 match i,hy with
 |0,hy=>simp[Atw]at hy;subst hy;exact⟨_,_,_,Ab _ _ _,rfl⟩
end
section
variable [Ca] [Pu] [Df]
variable {P:Program} [A7 P] {fn:Func} {Post:By} {st:List KI×S} {u m:PH}
theorem G.A {f:Nat}{args:List Value}{R:Value->PH->PH->Prop}(hc:∀ args w,(callFunc f args).run P w=.ok (.enter f args) w)(c:Ak P f args u m R)(k:∀ v u' mc',PH.le u u'->R v u' mc'->J9 PH.mt mc'->G P fn Post (nx (adv P st) v) u' (PH.mt.or mc'))(h:Al P (adv P st)=.call f args:=by kernel_rfl)(hdr:Rq (adv P st)=true:=by kernel_rfl):G P fn Post st u m:=G.callA f args h hdr hc (C6 _).symm (Ic _) c k
theorem G.D {f:Nat}{args:List Value}{mf mc:PH}{R:Value->PH->PH->Prop}(hc:∀ args w,(callFunc f args).run P w=.ok (.enter f args) w)(hd:J9 mf mc)(c:Ak P f args u mc R)(k:∀ v u' mc',PH.le u u'->R v u' mc'->J9 mf mc'->G P fn Post (nx (adv P st) v) u' (mf.or mc'))(h:Al P (adv P st)=.call f args:=by kernel_rfl)(hdr:Rq (adv P st)=true:=by kernel_rfl):G P fn Post st u (mf.or mc):=G.callA f args h hdr hc rfl hd c k
end
section
open Go.MapKept
variable {et t:TypeId}{g:Nat}{o:Obj}{w:World}
structure Tr (P:Program)(kt:TypeId){κ:Type}[DecidableEq κ](enc:κ->Value):Prop where
 eq:∀ a b w,(Op.equal kt (enc a) (enc b)).run P w=.ok (decide (a=b)) w
 now:∃ d,P.underlying kt=some d/\((∀ a b,A1y d (enc a) (enc b)=none)\/(∀ a b,A1y d (enc a) (enc b)=some (decide (a=b))))
 chk:∀ e a w,(Aw6 e 10000 kt (enc a)).run P w=.ok () w
 bits:∀ a,Awk 10000 (enc a) (enc a)=true
 inj:∀ a b,enc a=enc b->a=b
def Et {κ:Type}(enc:κ->Value)(o:Obj)(l:List (κ×Value)):Prop :=
 ∃ es clock,o=.map es clock/\es.toList.map (fun e=>(e.key,e.val))=l.map (fun p=>(enc p.1,p.2))/\Stamped es clock
def Ft {κ:Type}[DecidableEq κ](a:κ):List (κ×Value)->Option Value
 |[]=>none
 |(b,v)::l=>if a=b then some v else Ft a l
def In {κ:Type}[DecidableEq κ](a:κ)(x:Value):List (κ×Value)->List (κ×Value)
 |[]=>[(a,x)]
 |(b,v)::l=>if a=b then (b,x)::l else (b,v)::In a x l
def Aow {κ:Type}[DecidableEq κ](a:κ):List (κ×Value)->List (κ×Value)
 |[]=>[]
 |(b,v)::l=>if a=b then l else (b,v)::Aow a l
def Hb {κ:Type}[DecidableEq κ](a:κ):List (κ×Value)->Nat->Option (Nat×Value)
 |[],_=>none
 |(b,v)::l,i=>if a=b then some (i,v) else Hb a l (i+1)
def Afd (z:Value)(r:Option Value)(ok:Bool):Value:=match r with|some v=>(if ok then .tuple #[v,.bool true] else v)|none=>(if ok then .tuple #[z,.bool false] else z)
theorem Km {α β:Type}{f:α->β}{l:List α}(h:(l.map f).Nodup):l.Nodup:=(A2o.1 h).imp fun h e=>h (by rw[e])
section
variable {κ:Type} [DecidableEq κ] {enc:κ->Value}
theorem V7 (a:κ):∀ (l:List (κ×Value)) (i:Nat),(Hb a l i).map (·.2)=Ft a l
 |[],_=>rfl
 |(b,v)::l,i=>by
  unfold Hb Ft;split
  ·rfl
  ·exact V7 a l (i+1)
theorem Ub {a:κ}:∀ {l:List (κ×Value)} {i:Nat},Hb a l i=none->a∉l.map (·.1)
 |[],_,_=>mV
 |(b,v)::l,i,h=>by
  unfold Hb at h;split at h
  ·cases h
  ·rename_i hne;simp only[Auk,At6,not_or];exact⟨hne,Ub h⟩
theorem Uh {a:κ}:∀ {l:List (κ×Value)} {i j:Nat} {v:Value},Hb a l i=some (j,v)->i<=j/\l[j-i]?=some (a,v)/\(∀ x,In a x l=l.set (j-i) (a,x))/\Aow a l=l.eraseIdx (j-i)
 |[],_,_,_,h=>by cases h
 |(b,w)::l,i,j,v,h=>by
  unfold Hb at h;split at h
  ·rename_i e;simp only[Atd,Aun]at h;obtain⟨rfl,rfl⟩:=h;subst e;exact⟨Atb _,mV,fun x=>by simp[In],by simp[Aow]⟩
  ·rename_i hne;obtain⟨h1,h2,h3,h4⟩:=Uh h;have e:j-i=(j-(i+1))+1:=oV
   refine⟨oV,by rw[e,List.getElem?_cons_succ];exact h2,fun x=>?_,?_⟩
   ·rw[e,List.set_cons_succ,<-h3 x];simp[In,hne]
   ·rw[e,List.eraseIdx_cons_succ,<-h4];simp[Aow,hne]
theorem Aaa {a:κ}:∀ {l:List (κ×Value)} (x:Value),a∉l.map (·.1)->In a x l=l++[(a,x)]
 |[],_,_=>rfl
 |(b,v)::l,x,h=>by
  simp only[Auk,At6,not_or]at h;unfold In;rw[if_neg h.1,Aaa x h.2];rfl
theorem Gp {a:κ}:∀ {l:List (κ×Value)},Ft a l=none↔a∉l.map (·.1)
 |[]=>by simp[Ft]
 |(b,v)::l=>by
  unfold Ft;split
  ·rename_i e;simp[e]
  ·rename_i hne;rw[Gp];simp[hne]
variable {P:Program} {kt:TypeId}
theorem L9 (K:Tr P kt enc)(a:κ)(w:World):∀ (es:List MapEntry) (l:List (κ×Value)) (i:Nat),es.map (fun e=>(e.key,e.val))=l.map (fun p=>(enc p.1,p.2))->(A06 kt (enc a) es i).run P w=.ok (Hb a l i) w
 |[],[],i,_=>by simp[A06,Hb]
 |[],_::_,_,h=>by simp at h
 |_::_,[],_,h=>by simp at h
 |e::es,(b,v)::l,i,h=>by
  simp only[Auk,Ave,Aun]at h;obtain⟨⟨h1,h2⟩,h3⟩:=h;unfold A06;simp only[At4,h1,K.eq,Atf];unfold Hb;by_cases e':a=b
  ·simp[e',h2]
  ·simp only[decide_eq_false e',Aw7,if_false,if_neg e'];exact L9 K a w es l (i+1) h3
theorem T1 {d:TypeDesc}(hn:∀ a b,A1y d (enc a) (enc b)=some (decide (a=b)))(a:κ):∀ (es:List MapEntry) (l:List (κ×Value)) (i:Nat),es.map (fun e=>(e.key,e.val))=l.map (fun p=>(enc p.1,p.2))->Ay2 d (enc a) es i=some (Hb a l i)
 |[],[],i,_=>by simp[Ay2,Hb]
 |[],_::_,_,h=>by simp at h
 |_::_,[],_,h=>by simp at h
 |e::es,(b,v)::l,i,h=>by
  simp only[Auk,Ave,Aun]at h;obtain⟨⟨h1,h2⟩,h3⟩:=h;unfold Ay2 Hb;rw[h1,hn];by_cases e':a=b
  ·simp[e',h2]
  ·simp only[decide_eq_false e',if_neg e'];exact T1 hn a es l (i+1) h3
theorem Rc (K:Tr P kt enc)(a:κ)(w:World){es:List MapEntry}{l:List (κ×Value)}(h:es.map (fun e=>(e.key,e.val))=l.map (fun p=>(enc p.1,p.2))):(A3n kt (enc a) es).run P w=.ok (Hb a l 0) w:=by
 obtain⟨d,hd,hn⟩:=K.now;unfold A3n;simp only[At4,run_underlying hd,Atf];rcases hn with hn|hn
 case inr=>rw[T1 hn a es l 0 h];rfl
 cases es with
 |nil =>
  cases l with
  |nil=>simp[Ay2,Hb]
  |cons=>simp at h
 |cons e es =>
  have hf:Ay2 d (enc a) (e::es) 0=none:=by
   cases l with
   |nil=>simp at h
   |cons p l =>
    simp only[Auk,Ave,Aun]at h;unfold Ay2;rw[h.1.1,hn]
  rw[hf];exact L9 K a w _ _ _ h
theorem Et.empty:Et enc (.map #[] 0) []:=⟨#[],0,rfl,mV,stamped_empty 0⟩
theorem Et.nodup {l:List (κ×Value)}(h:Et enc o l):(l.map (·.1)).Nodup:=by
 obtain⟨es,clock,rfl,he,hs⟩:=h;have h1:es.toList.map (·.key)=l.map (fun p=>enc p.1):=by
  have:=congrArg (List.map (·.1)) he;simpa[Function.comp_def] using this
 have h2:=hs.2.2;rw[h1]at h2;have:l.map (fun p=>enc p.1)=(l.map (·.1)).map enc:=by simp[Function.comp_def]
 rw[this]at h2;exact Km h2
theorem Aeq (K:Tr P kt enc)(ht:P.underlying t=some (.map kt et)){z:Value}(hz:∀ w,(zeroValue et).run P w=.ok z w){l:List (κ×Value)}(hg:w.heap[g]?=some o)(ho:Et enc o l)(a:κ)(ok:Bool) :
 (A3w t (.map (some g)) (enc a) ok).run P w=.ok (Afd z (Ft a l) ok) w:=by
 obtain⟨es,clock,rfl,he,hs⟩:=ho;have hf:=Rc K a w he;rw[<-V7 a l 0];simp only[A3w,At4,run_underlying ht,Atf,MapKept.run_getObj_map hg,K.chk,Avt,hf];cases Hb a l 0 with
 |none=>simp only[Afd,Option.map_none,At4,hz,Atf,Avt]
 |some p=>simp only[Afd,Awh,At4,Avt,Atf]
theorem Adj (K:Tr P kt enc)(ht:P.underlying t=some (.map kt et)){l:List (κ×Value)}(hg:w.heap[g]?=some o)(ho:Et enc o l)(a:κ)(x:Value) :
 ∃ o',Et enc o' (In a x l)/\(A1d t (.map (some g)) (enc a) x).run P w=.ok () { w with heap:=w.heap.setIfInBounds g o' }:=by
 obtain⟨es,clock,rfl,he,hs⟩:=ho;have hf:=Rc K a w he;have hlen:es.toList.length=l.length:=by simpa using congrArg Av5 he
 cases hfk:Hb a l 0 with
 |none =>
  rw[hfk]at hf;have hn:=Ub hfk;refine⟨.map (es.push { key:=enc a,val:=x,born:=clock }) (clock+1),⟨_,_,rfl,?_,stamped_push hs (fun e hm hk=>?_)⟩,?_⟩
  ·rw[Aaa x hn];simp only[Array.toList_push,Atk,he,Auk,Axd]
  ·obtain⟨j,hj,rfl⟩:=List.mem_iff_getElem.1 hm;have:=congrArg (fun t=>t[j]?) he;simp only[Aty,As5 hj,Awh]at this;rw[As5 oV]at this;simp only[Awh,Atd,Aun]at this;rw[this.1]at hk;exact hn (Ate.2 ⟨_,Ath oV,K.inj _ _ hk⟩)
  ·simp only[A1d,At4,run_underlying ht,Atf,MapKept.run_getObj_map hg,K.chk,hf];exact MapKept.run_setObj_map _ hg
 |some p =>
  obtain⟨j,v⟩:=p;rw[hfk]at hf;obtain⟨_,h2,h3,_⟩:=Uh hfk;rw[Awx]at h2 h3;have hjl:j<l.length:=(Atc.1 h2).1;have hje:j<es.toList.length:=oV
  obtain⟨e0,he0⟩:∃ e0,es.toList[j]?=some e0:=⟨_,As5 hje⟩;have hek:e0.key=enc a:=by
   have:=congrArg (fun t=>t[j]?) he;simp only[Aty,he0,Awh,h2,Atd,Aun]at this;exact this.1
  have hej:es[j]?=some e0:=by rw[<-Ayq];exact he0
  refine⟨.map (es.modify j fun e=>{ e with key:=enc a,val:=x }) clock,⟨_,_,rfl,?_,stamped_modify hs j _ (fun _ _=>rfl) (fun e _ h=>?_)⟩,?_⟩
  ·rw[h3 x,List.map_set];apply List.ext_getElem?;intro i;simp only[Aty,Ayq,Array.getElem?_modify,List.getElem?_set];have hi:=congrArg (fun t=>t[i]?) he;simp only[Aty,Ayq]at hi;by_cases e:j=i
   ·subst e;rw[if_pos rfl,if_pos rfl,hej,if_pos (by simpa using hjl)];rfl
   ·rw[if_neg e,if_neg e];exact hi
  ·rw[hej]at h;cases h;exact hek.symm
  ·have hkey:((es[j]?).map (·.key)).getD (enc a)=enc a:=by rw[hej];simp[hek]
   simp only[A1d,At4,run_underlying ht,Atf,MapKept.run_getObj_map hg,K.chk,hf,hkey];have hst:(A2f (enc a) (enc a)).run P w=.ok (enc a) w:=by unfold A2f;rw[if_pos (K.bits a)];rfl
   rw[hst];simp only[Atf];exact MapKept.run_setObj_map _ hg
end
end
section
variable {D:List MapEntry}{clock g:Nat}{env:Operand->Value}{es:Array MapEntry}{o o':Obj}
variable [Ca]
open Go.MapKept
inductive Nf where
 |other
 |mk
 |look (t:Option TypeDesc) (x k:Value) (ok:Bool)
 |put (t:Option TypeDesc) (x k v:Value)
 |range (t:Option TypeDesc) (x:Value)
 |next (it:Value)
 |entry (it:Value)
def La (P:Program)(env:Operand->Value):Op->Nf
 |.makeMap _ none=>.mk
 |.lookup t x i ok=>.look (P.underlying t) (env x) (env i) ok
 |.mapUpdate t x k v=>.put (P.underlying t) (env x) (env k) (env v)
 |.insert t x k v=>.put (P.underlying t) (env x) (env k) (env v)
 |.range t x=>.range (P.underlying t) (env x)
 |.next it false=>.next (env it)
 |.entry it=>.entry (env it)
 |_=>.other
def Lg (P:Program)(st:List KI×S):Nf :=
 match st.1 with
 |.reg _ ops _ (i::_)::_=>match ops[i]? with
  |some o=>match Gh st.2 o&&(Lm st.2 o.op&&L7 o.op) with
   |true=>match gv st.2 ops o with
    |some true=>La P (Lb st.2) o.op
    |_=>.other
   |false=>.other
  |none=>.other
 |_=>.other
def Si:Obj->Bool
 |.cells ..=>false
 |_=>true
section good
variable {u m:PH} {w:World}
def Rl (w:World)(g:Nat)(o:Obj):World:={ w with heap:=w.heap.setIfInBounds g o }
theorem Xr (h:w.heap[g]?=some o):(Rl w g o').heap[g]?=some o':=by
 show (w.heap.setIfInBounds g o')[g]?=_;rw[Array.getElem?_setIfInBounds_self];simp[B0 h]
theorem R1 {g k:Nat}(h:k≠g):(Rl w g o').heap[k]?=w.heap[k]?:=by
 show (w.heap.setIfInBounds g o')[k]?=_;rw[Array.getElem?_setIfInBounds_ne (fun e=>h e.symm)]
theorem Ain (g:Nat)(o':Obj):(Rl w g o').heap.size=w.heap.size:=by show (w.heap.setIfInBounds g o').size=_;simp
theorem B1.setO (h : B1 u m w)   (hg : m g = some o) (hn : Si o' = true) : B1 u (m.upd g o') (Rl w g o') ∧ B8 u m w u (m.upd g o') (Rl w g o') := by
  have hb := h.pm g _ hg
  have hug : u g = none := by rcases h.ap g with e | e
                              · exact e
                              · grind
  refine ⟨⟨fun k o hk => ?_, fun k o hk => ?_, fun k => ?_, fun k cs1 t1 fr1 j z hk hj => ?_⟩, ⟨by rw [Ain]; exact Atb _, fun k hk hm => R1 (fun e => by rw [e, hg] at hm; cases hm), fun _ _ => rfl, fun k hk hm => by rw [Ac _ _ (fun e => by rw [e, hg] at hm; cases hm)]; exact hm, ⟨rfl, rfl⟩, fun _ => ⟨rfl, Atb _⟩⟩⟩
  · rw [R1 (fun e => by rw [e, hug] at hk; cases hk)]; exact h.pu k o hk
  · by_cases e : k = g
    · subst e; rw [Ab] at hk; rw [Xr hb]; exact hk
    · rw [Ac _ _ e] at hk; rw [R1 e]; exact h.pm k o hk
  · by_cases e : k = g
    · grind
    · rw [Ac _ _ e]; exact h.ap k
  · by_cases e : k = g
    · subst e
      rw [Xr hb] at hk
      simp only [Atd] at hk
      subst hk; cases hn
    · rw [R1 e] at hk; exact h.cl k cs1 t1 fr1 j z hk hj
theorem B1.newO (h:B1 u m w)(hn:Si o=true):B1 u (m.upd w.heap.size o) (w.alloc o)/\B8 u m w u (m.upd w.heap.size o) (w.alloc o)/\m w.heap.size=none/\u w.heap.size=none:=by
 have hm:m w.heap.size=none:=h.pm.none (Atb _);have hu:u w.heap.size=none:=h.pu.none (Atb _);refine⟨⟨fun g o' hg=>?_,fun g o' hg=>?_,fun g=>?_,fun g cs t fr j z hg hj=>?_⟩,⟨by rw[Bu];omega,fun g hg _=>A9 _ _ hg,fun _ _=>rfl,fun g hg hm=>by rw[Ac _ _ oV];exact hm,⟨rfl,rfl⟩,fun _=>⟨rfl,Atb _⟩⟩,hm,hu⟩
 ·rw[A9 _ _ (h.pu.lt hg)];exact h.pu g o' hg
 ·by_cases e:g=w.heap.size
  ·subst e;rw[Ab]at hg;rw[Cg];exact hg
  ·rw[Ac _ _ e]at hg;rw[A9 _ _ (h.pm.lt hg)];exact h.pm g o' hg
 ·by_cases e:g=w.heap.size
  ·grind
  ·rw[Ac _ _ e];exact h.ap g
 ·by_cases e:g=w.heap.size
  ·subst e;rw[Cg]at hg;simp only[Atd]at hg;subst hg;cases hn
  ·have hlt:=B0 hg;rw[Bu]at hlt;rw[A9 _ _ oV]at hg;exact h.cl g cs t fr j z hg hj
theorem B1.drewG (h:B1 u m w):B8 u m w u m w.drew:=⟨Atb _,fun _ _ _=>rfl,fun _ _=>rfl,fun _ _ h=>h,⟨rfl,rfl⟩,fun _=>⟨rfl,Nat.le_succ _⟩⟩
end good
section rules
variable {P:Program} [A7 P] {fn:Func} {Post:By} {st:List KI×S} {u m:PH}
theorem Ua {V:Nf}(h:Lg P st=V)(hV:V≠.other):∃ id ops dr i l k s o,st=(.reg id ops dr (i::l)::k,s)/\ops[i]?=some o/\gv s ops o=some true/\Gh s o=true/\Lm s o.op=true/\L7 o.op=true/\La P (Lb s) o.op=V /\
 ∀ v,nx st v=(.reg id ops dr l::k,s.put o.dst (.v v)):=by
 obtain⟨ks,s⟩:=st;unfold Lg at h;simp only at h;split at h
 ·rename_i id ops dr i l k;split at h
  ·rename_i o ho;split at h
   ·rename_i hb;simp only[Atj]at hb;split at h
    ·rename_i hg;exact⟨id,ops,dr,i,l,k,s,o,rfl,ho,hg,hb.1,hb.2.1,hb.2.2,h,fun v=>by simp[nx,ho]⟩
    ·grind
   ·grind
  ·grind
 ·grind
def Oe:Nf->Bool
 |.look ..=>true
 |_=>false
theorem Ado {o:Op}{V:Nf}(h:La P env o=V)(hV:V≠.other)(hl:Oe V=false):En o=false:=by
 unfold La at h;split at h<;>first|rfl|exact absurd h.symm hV|(rw[<-h]at hl;cases hl)
theorem G.bigX {V:Nf}{K:Value->PH->PH->Prop}(h:Lg P (adv P st)=V)(hV:V≠.other/\Oe V=false)(hk:(∀ v u' m',K v u' m'->PH.le m m')\/Rq (adv P st)=true)
 (hr:∀ env (o:Oper),La P env o.op=V->∀ w,B1 u m w->E3 P env o w fun v w'=>∃ u' m',B1 u' m' w'/\B8 u m w u' m' w'/\K v u' m')
 (k:∀ v u' m',PH.le u u'->K v u' m'->G P fn Post (nx (adv P st) v) u' m'):G P fn Post st u m:=by
 refine G.stp ?_;obtain⟨id,ops,dr,i,l,kk,s,o,e,ho,hg,hd,hv,hs,hview,hnx⟩:=Ua h hV.1;rw[e]at hk⊢;refine⟨?_⟩;refine Ob.big (K:=K) ho hg hd hv hs (Ado hview hV.1 hV.2) (fun v u' m' hK=>?_) (fun w hgd=>hr _ o hview w hgd) (fun v u' m' h1 h2=>?_)
 ·rcases hk with hk|hk
  ·grind
  ·exact .inr (Wy ho hk)
 ·have:=(k v u' m' h1 h2).out;rw[hnx]at this;exact this
theorem Aii {o:Oper}{w w':World}{K:Value->World->Prop}(h:(execOp env o).run P w=.ok .skip w')(hk:K undef w'):E3 P env o w K:=by
 unfold E3;rw[h];exact hk
theorem G.mapMk (h:Lg P (adv P st)=.mk)(k:∀ g,m g=none->u g=none->G P fn Post (nx (adv P st) (.map (some g))) u (m.upd g (.map #[] 0))):G P fn Post st u m:=by
 refine G.bigX (K:=fun v u' m'=>u'=u/\PH.le m m'/\∃ g,m g=none/\u g=none/\v=.map (some g)/\m'=m.upd g (.map #[] 0)) h (by simp[Oe]) (.inl fun v u' m' hk=>hk.2.1) (fun env o hview w hgd=>?_) (fun v' u' m' hle hk=>?_)
 ·obtain⟨dst,opp,type,pos,after,guard⟩:=o;simp only at hview;unfold La at hview;split at hview<;>try (cases hview;done)
  obtain⟨g1,g2,g3,g4⟩:=hgd.newO (o:=.map #[] 0) rfl;refine Bs (w':=w.alloc (.map #[] 0)) (v:=.map (some w.heap.size)) ?_ ⟨u,_,g1,g2,rfl,K6 _ g3,w.heap.size,g3,g4,rfl,rfl⟩;simp[execOp,Instr.makeMap]
 ·grind
def Wk (P:Program)(t:TypeId):Option Value:=match P.info? t with|some i=>i.zero|none=>none
theorem Wh {t:TypeId}{z:Value}(h:Wk P t=some z)(w:World):(zeroValue t).run P w=.ok z w:=by
 unfold Wk at h;split at h
 ·rename_i i hi;simp[zeroValue,typeInfo,hi,h]
 ·cases h
variable {κ:Type} [DecidableEq κ] {enc:κ->Value} {kt et:TypeId}
theorem G.mapGet (K:Tr P kt enc)(z:Value)(g:Nat)(o:Obj)(l:List (κ×Value))(a:κ)(ok:Bool)(h:Lg P (adv P st)=.look (some (.map kt et)) (.map (some g)) (enc a) ok)(hz:Wk P et=some z)(hg:u g=some o\/m g=some o)(ho:Et enc o l)
 (k:G P fn Post (nx (adv P st) (Afd z (Ft a l) ok)) u m):G P fn Post st u m:=by
 refine G.stp ?_;obtain⟨id,ops,dr,i,l',kk,s,o',e,ho',hgv,hd,hv,hs,hview,hnx⟩:=Ua h mV;have k:=k.out;rw[hnx]at k;rw[e];have hal:Eq o'.op=false:=by
  unfold La at hview;split at hview<;>first|(cases hview;done)|(rename_i e;rw[e];rfl)
 refine⟨Ob.ask ho' hgv hd hv hs hal (fun w hp=>?_) k⟩;obtain⟨dst,opp,type,pos,after,guard⟩:=o';simp only at hview hp;unfold La at hview;split at hview<;>try (cases hview;done)
 rename_i t x i ok';simp only[Nf.look.injEq]at hview;obtain⟨h1,h2,h3,rfl⟩:=hview;obtain⟨pu,pm⟩:=hp (.inl rfl);have hw:w.heap[g]?=some o:=hg.elim (pu g o) (pm (.inl rfl) g o);have hr:=Aeq K h1 (fun w=>Wh hz w) hw ho a ok';simp only[execOp,h2,h3];simp[hr]
theorem G.mapHas (K:Tr P kt enc)(z:Value)(g:Nat)(o:Obj)(l:List (κ×Value))(a:κ)(x:Value)(h:Lg P (adv P st)=.look (some (.map kt et)) (.map (some g)) (enc a) true)(hz:Wk P et=some z)(hg:u g=some o\/m g=some o)(ho:Et enc o l)(hx:Ft a l=some x)
 (k:G P fn Post (nx (adv P st) (.tuple #[x,.bool true])) u m):G P fn Post st u m :=
 G.mapGet K z g o l a true h hz hg ho (by rw[hx];exact k)
theorem G.mapNot (K:Tr P kt enc)(z:Value)(g:Nat)(o:Obj)(l:List (κ×Value))(a:κ)(h:Lg P (adv P st)=.look (some (.map kt et)) (.map (some g)) (enc a) true)(hz:Wk P et=some z)(hg:u g=some o\/m g=some o)(ho:Et enc o l)(hx:Ft a l=none)
 (k:G P fn Post (nx (adv P st) (.tuple #[z,.bool false])) u m):G P fn Post st u m :=
 G.mapGet K z g o l a true h hz hg ho (by rw[hx];exact k)
theorem G.mapPut (K:Tr P kt enc)(g:Nat)(o:Obj)(l:List (κ×Value))(a:κ)(x:Value)(h:Lg P (adv P st)=.put (some (.map kt et)) (.map (some g)) (enc a) x)(hdr:Rq (adv P st)=true)(hg:m g=some o)(ho:Et enc o l)
 (k:∀ o',Et enc o' (In a x l)->G P fn Post (nx (adv P st) undef) u (m.upd g o')):G P fn Post st u m:=by
 refine G.bigX (K:=fun v u' m'=>u'=u/\v=undef/\∃ o',Et enc o' (In a x l)/\m'=m.upd g o') h (by simp[Oe]) (.inr hdr) (fun env o' hview w hgd=>?_) (fun v' u' m' hle hk=>?_)
 ·obtain⟨dst,opp,type,pos,after,guard⟩:=o';have key:∀ t X A Y,P.underlying t=some (.map kt et)->env X=.map (some g)->env A=enc a->env Y=x->(opp=.mapUpdate t X A Y\/opp=.insert t X A Y)->E3 P env ⟨dst,opp,type,pos,after,guard⟩ w fun v w'=>∃ u' m',B1 u' m' w'/\B8 u m w u' m' w'/\u'=u/\v=undef/\∃ o',Et enc o' (In a x l)/\m'=m.upd g o':=by
   intro t X A Y h1 h2 h3 h4 he;have hw:w.heap[g]?=some o:=hgd.pm g o hg;obtain⟨o',ho',hr⟩:=Adj K h1 hw ho a x;have hn:Si o'=true:=by obtain⟨es,c,rfl,_⟩:=ho';rfl
   obtain⟨g1,g2⟩:=hgd.setO hg hn;refine Aii (w':=Rl w g o') ?_ ⟨u,_,g1,g2,rfl,rfl,o',ho',rfl⟩;rcases he with rfl|rfl
   ·simp only[execOp,h2,h3,h4];simp[hr,Rl]
   ·simp only[execOp,h2,h3,h4];simp[hr,Rl]
  unfold La at hview;split at hview<;>try (cases hview;done)
  ·grind
  ·grind
 ·grind
def Ar (D:List MapEntry):Array Nat:=(D.map (·.born)).toArray
structure Rm (es:Array MapEntry)(D:List MapEntry):Prop where
 sub:∀ e∈D,e∈es.toList
 nod:(D.map (·.born)).Nodup
theorem Rm.nil (es:Array MapEntry):Rm es []:=⟨mV,mV⟩
theorem G.mapRange (g:Nat)(es:Array MapEntry)(clock:Nat)(kt et:TypeId)(h:Lg P (adv P st)=.range (some (.map kt et)) (.map (some g)))(hg:u g=some (.map es clock)\/m g=some (.map es clock))
 (k:∀ i,m i=none->u i=none->G P fn Post (nx (adv P st) (.pointer (some ⟨i,0,none⟩))) u (m.upd i (.mapIter (some g) clock (Ar []) clock))):G P fn Post st u m:=by
 refine G.bigX (K:=fun v u' m'=>u'=u/\PH.le m m'/\∃ i,m i=none/\u i=none/\v=.pointer (some ⟨i,0,none⟩)/\m'=m.upd i (.mapIter (some g) clock (Ar []) clock)) h (by simp[Oe]) (.inl fun v u' m' hk=>hk.2.1) (fun env o hview w hgd=>?_) (fun v' u' m' hle hk=>?_)
 ·obtain⟨dst,opp,type,pos,after,guard⟩:=o;simp only at hview;unfold La at hview;split at hview<;>try (cases hview;done)
  simp only[Nf.range.injEq]at hview;obtain⟨h1,h2⟩:=hview;have hw:w.heap[g]?=some (.map es clock):=hg.elim (hgd.pu g _) (hgd.pm g _);obtain⟨g1,g2,g3,g4⟩:=hgd.newO (o:=.mapIter (some g) clock (Ar []) clock) rfl;have hr:=run_range_map (P:=P) w _ kt et g es clock h1 hw;refine Bs (w':=w.alloc (.mapIter (some g) clock (Ar []) clock)) (v:=.pointer (some ⟨w.heap.size,0,none⟩)) ?_ ⟨u,_,g1,g2,rfl,K6 _ g3,w.heap.size,g3,g4,rfl,rfl⟩;simp only[execOp,h2];simp[hr,Ar]
 ·grind
theorem Aas (n:Nat)(hn:0<n)(w:World):∃ j w1,j<n/\(w1=w\/w1=w.drew)/\(choose (.mapNext n)).run P w=.ok j w1:=by
 by_cases hf:n<=1
 ·exact⟨0,w,hn,.inl rfl,by simp[Question.forced,hf]⟩
 ·exact⟨_,w.drew,Au3 _ hn,.inr rfl,by
   simp only[choose,A3d,Question.forced,decide_eq_true_eq,hf,if_false,Question.cut];rfl⟩
theorem Ahk {w:World}{it g:Nat}(ty:TypeId)(hi:w.heap[it]?=some (.mapIter (some g) clock (Ar D) clock))(hg:w.heap[g]?=some (.map es clock))(hs:Stamped es clock) :
 ((leftOf es (Ar D)).size=0/\(A26 (.pointer (some ⟨it,0,none⟩)) false ty).run P w=.ok (.tuple #[.bool false]) w) \/
 ∃ e∈(leftOf es (Ar D)).toList,∃ w1,(w1=w\/w1=w.drew)/\(A26 (.pointer (some ⟨it,0,none⟩)) false ty).run P w=.ok (.tuple #[.bool true,e.key,e.val]) (Rl w1 it (.mapIter (some g) clock (Ar (D++[e])) clock)):=by
 have hpush:∀ e:MapEntry,(Ar D).push e.born=Ar (D++[e]):=fun e=>by simp[Ar]
 simp only[A26,getObj,At4,A3d,hi,hg,Azg,next_test_false (Ar D) es clock clock hs.1 (Atb _),Aw7,if_false];have hmem:∀ x∈(leftOf es (Ar D)).toList,x.born<clock:=fun x hx=>hs.1 x (mem_left hx).1;have hL:es.filter (fun e=>!(Ar D).contains e.born)=leftOf es (Ar D):=rfl;simp only[hL];generalize leftOf es (Ar D)=L at hmem⊢;have e1:L.filter (fun x=>decide (x.born<clock))=L:=Array.filter_eq_self.2 (fun x hx=>by simpa using hmem x (by simpa using hx));have e2:L.filter (fun x=>decide (x.born≥clock)) = #[]:=by simp_all
 simp only[e1,e2,Array.append_empty];by_cases h0:L.size=0
 ·have:L = #[]:=Ayk h0;subst this;simp[Question.forced]
 ·right;have hne:L.isEmpty=false:=by grind
  simp only[hne,Aw7,if_false,Array.empty_append,Array.size_map];obtain⟨j,w1,hj,hal,hrun⟩:=Aas (P:=P) L.size oV w;refine⟨L[j],mV,w1,hal,?_⟩;have hi1:w1.heap[it]?=some (.mapIter (some g) clock (Ar D) clock):=by rcases hal with rfl|rfl<;>exact hi
  have hset:∀ o':Obj,(setObj it o').run P w1=.ok () (Rl w1 it o'):=fun o'=>by
   simp only[setObj,A3d,hi1,Rl]
  simp only[hrun,Array.getElem?_map,Array.getElem?_eq_getElem hj,Awh,At4,hset,hpush];rfl
theorem Nd (D:List MapEntry)(b:Nat):(Ar D).contains b=true↔b∈D.map (·.born):=by
 unfold Ar;simp
theorem Ag0 (hs:Stamped es clock)(hD:Rm es D)(h:(leftOf es (Ar D)).size=0):D.Perm es.toList:=by
 have hnd:es.toList.Nodup:=Km hs.2.1;have hdd:D.Nodup:=Km hD.nod;refine (List.perm_ext_iff_of_nodup hdd hnd).2 fun e=>⟨hD.sub e,fun he=>?_⟩;have hem:leftOf es (Ar D) = #[]:=Ayk h;have hc:(Ar D).contains e.born=true:=by
  cases hc:(Ar D).contains e.born with
  |true=>rfl
  |false =>
   have:e∈leftOf es (Ar D):=Array.mem_filter.2 ⟨by simpa using he,by rw[hc];rfl⟩;rw[hem]at this;simp at this
 obtain⟨d,hd,hb⟩:=Ate.1 ((Nd D _).1 hc);have h1:=find_born e es.toList hs.2.1 he;have h2:=find_born d es.toList hs.2.1 (hD.sub d hd);rw[hb]at h2;rw[h1]at h2;have h3:=Auq h2;rw[h3];exact hd
theorem Rm.snoc (h:Rm es D){e:MapEntry}(he:e∈(leftOf es (Ar D)).toList):Rm es (D++[e]):=by
 obtain⟨h1,h2⟩:=mem_left he;refine⟨fun x hx=>?_,?_⟩
 ·simp only[Ati,Aub]at hx;rcases hx with hx|rfl
  ·exact h.sub x hx
  ·exact h1
 ·simp only[Atk,Auk,Axd];refine Awq.2 ⟨h.nod,mV,fun a ha b hb=>?_⟩;simp only[Aub]at hb;subst hb;rintro rfl;rw[(Nd D _).2 ha]at h2;cases h2
theorem G.mapNext (it g:Nat)(es:Array MapEntry)(clock:Nat)(D:List MapEntry)(h:Lg P (adv P st)=.next (.pointer (some ⟨it,0,none⟩)))(hdr:Rq (adv P st)=true)(hi:m it=some (.mapIter (some g) clock (Ar D) clock))(hg:u g=some (.map es clock)\/m g=some (.map es clock))(hs:Stamped es clock)(hD:Rm es D)
 (k0:D.Perm es.toList->G P fn Post (nx (adv P st) (.tuple #[.bool false])) u m)
 (k1:∀ e,e∈es.toList->Rm es (D++[e])->G P fn Post (nx (adv P st) (.tuple #[.bool true,e.key,e.val])) u (m.upd it (.mapIter (some g) clock (Ar (D++[e])) clock))):G P fn Post st u m:=by
 refine G.bigX (K:=fun v u' m'=>u'=u/\((m'=m/\v=.tuple #[.bool false]/\D.Perm es.toList)\/∃ e,e∈es.toList/\Rm es (D++[e])/\v=.tuple #[.bool true,e.key,e.val]/\m'=m.upd it (.mapIter (some g) clock (Ar (D++[e])) clock))) h (by simp[Oe]) (.inr hdr) (fun env o hview w hgd=>?_) (fun v' u' m' hle hk=>?_)
 ·obtain⟨dst,opp,type,pos,after,guard⟩:=o;simp only at hview;unfold La at hview;split at hview<;>try (cases hview;done)
  simp only[Nf.next.injEq]at hview;have hw:w.heap[g]?=some (.map es clock):=hg.elim (hgd.pu g _) (hgd.pm g _);have hwi:=hgd.pm it _ hi;rcases Ahk (P:=P) type hwi hw hs with ⟨h0,hr⟩|⟨e,he,w1,hw1,hr⟩
  ·refine Bs (w':=w) (v:=.tuple #[.bool false]) ?_ ⟨u,m,hgd,B8.refl _ _ _,rfl,.inl ⟨rfl,rfl,Ag0 hs hD h0⟩⟩;simp only[execOp,hview];simp[hr]
  ·have hgd1:B1 u m w1:=by rcases hw1 with rfl|rfl;exact hgd;exact hgd.drew'
   have hgr1:B8 u m w u m w1:=by rcases hw1 with rfl|rfl;exact B8.refl _ _ _;exact hgd.drewG
   obtain⟨g1,g2⟩:=hgd1.setO (o':=.mapIter (some g) clock (Ar (D++[e])) clock) hi rfl;refine Bs (w':=Rl w1 it (.mapIter (some g) clock (Ar (D++[e])) clock)) (v:=.tuple #[.bool true,e.key,e.val]) ?_ ⟨u,_,g1,hgr1.trans g2,rfl,.inr ⟨e,(mem_left he).1,hD.snoc he,rfl,rfl⟩⟩;simp only[execOp,hview];simp[hr]
 ·grind
theorem G.mapEntry (it g:Nat)(es:Array MapEntry)(clock:Nat)(D:List MapEntry)(e:MapEntry)(h:Lg P (adv P st)=.entry (.pointer (some ⟨it,0,none⟩)))(hi:m it=some (.mapIter (some g) clock (Ar (D++[e])) clock))(hg:u g=some (.map es clock)\/m g=some (.map es clock))(hs:Stamped es clock)(he:e∈es.toList)
 (k:G P fn Post (nx (adv P st) (.tuple #[e.key,e.val])) u m):G P fn Post st u m:=by
 refine G.bigX (K:=fun v u' m'=>u'=u/\m'=m/\v=.tuple #[e.key,e.val]) h (by simp[Oe]) (.inl fun v u' m' hk=>by rw[hk.2.1];exact PH.le_refl _) (fun env o hview w hgd=>?_) (fun v' u' m' hle hk=>?_)
 ·obtain⟨dst,opp,type,pos,after,guard⟩:=o;simp only at hview;unfold La at hview;split at hview<;>try (cases hview;done)
  simp only[Nf.entry.injEq]at hview;have hw:w.heap[g]?=some (.map es clock):=hg.elim (hgd.pu g _) (hgd.pm g _);have hwi:=hgd.pm it _ hi;have hb:(Ar (D++[e])).back?=some e.born:=by simp[Ar]
  have hf:es.find? (fun x=>x.born==e.born)=some e:=by rw[<-Array.find?_toList];exact find_born e es.toList hs.2.1 he
  have hr:(A33 (.pointer (some ⟨it,0,none⟩))).run P w=.ok (.tuple #[e.key,e.val]) w:=by
   simp only[A33,getObj,At4,A3d,hwi,hw,Azg,hb,bne_self_eq_false,hf];rfl
  refine Bs (w':=w) ?_ ⟨u,m,hgd,B8.refl _ _ _,rfl,rfl,rfl⟩;simp only[execOp,hview];simp[hr]
 ·grind
end rules
end
section
variable {g:Nat}
variable [Ca]
def Rp (g:Nat)(o:Obj):PH:=PH.mt.upd g o
def PH.del (m:PH)(g:Nat):PH:=fun h=>if h=g then none else m h
theorem Cl (g:Nat)(o:Obj):Rp g o g=some o:=Ab _ _ _
theorem Yv {g h:Nat}(o:Obj)(hn:h≠g):Rp g o h=none:=by unfold Rp;rw[Ac _ _ hn];rfl
theorem Aic {m:PH}{o:Obj}(h:m g=some o):m=(m.del g).or (Rp g o)/\J9 (m.del g) (Rp g o):=by
 constructor
 ·funext k
  by_cases e:k=g
  ·subst e;rw[PH.or_r (by simp[PH.del]),Cl,h]
  ·cases hk:m k with
   |none=>rw[PH.or_r (by simp[PH.del,e,hk]),Yv o e]
   |some p=>rw[PH.or_l (o:=p) (by simp[PH.del,e,hk])]
 ·intro k;by_cases e:k=g
  ·left;simp[PH.del,e]
  ·right;exact Yv o e
theorem Ak4 {m:PH}{o:Obj}:(m.del g).or (Rp g o)=m.upd g o:=by
 funext k
 by_cases e:k=g
 ·subst e;rw[PH.or_r (by simp[PH.del]),Cl,Ab]
 ·rw[Ac _ _ e];cases hk:m k with
  |none=>rw[PH.or_r (by simp[PH.del,e,hk]),Yv o e]
  |some p=>rw[PH.or_l (o:=p) (by simp[PH.del,e,hk])]
section
variable {P:Program} [A7 P] {fn:Func} {Post:By} {st:List KI×S} {u m:PH}
theorem G.callG (f:Nat)(args:List Value){g:Nat}{o:Obj}{R:Value->PH->Obj->Prop}(h:Al P (adv P st)=.call f args)(hdr:Rq (adv P st)=true)(hc:∀ args w,(callFunc f args).run P w=.ok (.enter f args) w)(hg:m g=some o)
 (c:Ak P f args u (Rp g o) (fun v u' m'=>∃ o',m'=Rp g o'/\R v u' o')) (k:∀ v u' o',PH.le u u'->R v u' o'->G P fn Post (nx (adv P st) v) u' (m.upd g o')):G P fn Post st u m:=by
 obtain⟨h1,h2⟩:=Aic hg;refine G.callA f args h hdr hc h1 h2 c ?_;rintro v u' m' hl ⟨o',rfl,hR⟩ _;rw[Ak4];exact k v u' o' hl hR
theorem Ak.giveAll {f:FuncId}{args:List Value}{R:Value->PH->PH->Prop}(c:Ak P f args u PH.mt R):Fn0 P f args u (fun v u'=>∃ u1 m1,PH.le u1 u'/\PH.le m1 u'/\R v u1 m1):=by
 intro w hg;refine Calls.mono (c w hg) fun e w' he=>?_;obtain⟨v,u',m',e1,e2,e3,e4⟩:=he;have hle:PH.le u' (m'.or u'):=fun g o hh=>by
  cases hx:m' g with
  |none=>rw[PH.or_r hx];exact hh
  |some p=>have:=(e2.ap g).resolve_right (by rw[hx];simp);rw[this]at hh;cases hh
 refine⟨v,m'.or u',PH.mt,e1,⟨fun g o hh=>?_,Ek.mt _,fun g=>.inr rfl,fun g cs t fr j z hh hj=>?_⟩,⟨e3.sz,e3.old,fun g hgl=>?_,fun _ _ _=>rfl,e3.io,e3.dr⟩,rfl,u',m',hle,fun g o hh=>PH.or_l hh,e4⟩
 ·cases hx:m' g with
  |none=>rw[PH.or_r hx]at hh;exact e2.pu g o hh
  |some p=>rw[PH.or_l hx]at hh;cases hh;exact e2.pm g _ hx
 ·exact hle g _ (e2.cl g cs t fr j z hh hj)
 ·rw[PH.or_r (e3.ms g hgl rfl)];exact e3.us g hgl
end
abbrev SlI:Type:=Option Addr×Nat×Nat
def Fs {κ:Type}(enc:κ->Value)(R:PH->Value->Rat->Prop)(nz:Bool)(u:PH)(o:Obj)(f:κ->Rat)(N s:Nat):Prop :=
 ∃ l:List (κ×Value),Et enc o l/\(∀ p∈l,R u p.2 (f p.1)/\(nz=true->f p.1≠0)/\Sz (f p.1) s)/\(∀ k,k∉l.map (·.1)->f k=0)/\l.length<=N
section
variable {κ:Type} [DecidableEq κ] {enc:κ->Value} {R:PH->Value->Rat->Prop} {nz:Bool} {u:PH} {o:Obj} {f:κ->Rat} {N s:Nat}
theorem Fs.up {N' s':Nat}(h:Fs enc R nz u o f N s)(hN:N<=N')(hs:s<=s'):Fs enc R nz u o f N' s':=by
 obtain⟨l,h1,h2,h3,h4⟩:=h;exact⟨l,h1,fun p hp=>⟨(h2 p hp).1,(h2 p hp).2.1,(h2 p hp).2.2.mono hs⟩,h3,As9 h4 hN⟩
theorem Fs.congr {f':κ->Rat}(h:Fs enc R nz u o f N s)(e:∀ k,f k=f' k):Fs enc R nz u o f' N s:=by
 rw[<-funext e];exact h
theorem Fs.empty (s:Nat):Fs enc R nz u (.map #[] 0) (fun _=>0) 0 s:=⟨[],Et.empty,mV,fun _ _=>rfl,Atb _⟩
theorem Hz {a:κ}:∀ {l:List (κ×Value)} {v:Value},Ft a l=some v->(a,v)∈l
 |(b,w)::l,v,h=>by
  unfold Ft at h;split at h
  ·rename_i e;cases h;rw[e];simp
  ·exact Auv _ (Hz h)
theorem Yw {a:κ}:∀ {l:List (κ×Value)} {v:Value},(l.map (·.1)).Nodup->(a,v)∈l->Ft a l=some v
 |(b,w)::l,v,hn,h=>by
  simp only[Auk,Awr]at hn;unfold Ft;rcases At6.1 h with e|e
  ·cases e;rw[if_pos rfl]
  ·have:a≠b:=fun e'=>hn.1 (by rw[<-e'];exact Ate.2 ⟨_,e,rfl⟩);rw[if_neg this];exact Yw hn.2 e
theorem Us {a:κ}{x:Value}:∀ {l:List (κ×Value)} {p:κ×Value},(l.map (·.1)).Nodup->p∈In a x l->p=(a,x)\/(p∈l/\p.1≠a)
 |[],p,_,h=>by simp[In]at h;exact .inl h
 |(b,w)::l,p,hn,h=>by
  simp only[Auk,Awr]at hn;unfold In at h;split at h
  ·rename_i e;subst e;rcases At6.1 h with h|h
   ·exact .inl h
   ·refine .inr ⟨Auv _ h,fun e'=>hn.1 ?_⟩;rw[<-e'];exact Ate.2 ⟨p,h,rfl⟩
  ·rename_i e;rcases At6.1 h with h|h
   ·subst h;exact .inr ⟨mV,fun e'=>e e'.symm⟩
   ·rcases Us hn.2 h with h|⟨h,h'⟩
    ·exact .inl h
    ·exact .inr ⟨Auv _ h,h'⟩
theorem P3 {a:κ}{x:Value}{k:κ}:∀ {l:List (κ×Value)},k∈(In a x l).map (·.1)↔k=a\/k∈l.map (·.1)
 |[]=>by simp[In]
 |(b,w)::l=>by
  unfold In;split
  ·rename_i e;subst e;simp
  ·simp only[Auk,At6,P3 (l:=l)];constructor
   ·rintro (h|h|h)
    ·exact .inr (.inl h)
    ·exact .inl h
    ·exact .inr (.inr h)
   ·rintro (h|h|h)
    ·exact .inr (.inl h)
    ·exact .inl h
    ·exact .inr (.inr h)
theorem L5 {a:κ}{x:Value}:∀ {l:List (κ×Value)},(In a x l).length<=l.length+1
 |[]=>by simp[In]
 |(b,w)::l=>by
  unfold In;split
  ·simp
  ·have:=L5 (a:=a) (x:=x) (l:=l);simp;omega
def Hs (f:κ->Rat)(a:κ)(q:Rat):κ->Rat:=fun k=>if k=a then q else f k
theorem Fs.put {o':Obj}{a:κ}{x:Value}{q:Rat}{l:List (κ×Value)}(ho:Et enc o l)(h2:∀ p∈l,R u p.2 (f p.1)/\(nz=true->f p.1≠0)/\Sz (f p.1) s)(h3:∀ k,k∉l.map (·.1)->f k=0)(h4:l.length<=N)
 (h':Et enc o' (In a x l)) (hx:R u x q) (hq:nz=true->q≠0) {s':Nat} (hs:Sz q s') (hss:s<=s'):Fs enc R nz u o' (Hs f a q) (N+1) s':=by
 refine⟨_,h',fun p hp=>?_,fun k hk=>?_,As9 L5 oV⟩
 ·unfold Hs;rcases Us ho.nodup hp with rfl|⟨hp,hne⟩
  ·simp only[if_true];exact⟨hx,hq,hs⟩
  ·rw[if_neg hne];exact⟨(h2 p hp).1,(h2 p hp).2.1,(h2 p hp).2.2.mono hss⟩
 ·rw[P3,not_or]at hk;unfold Hs;rw[if_neg hk.1];exact h3 k hk.2
end
end
section
abbrev Par:=Int×List UInt8
theorem Qv:∀ a:List UInt8,Op.bytesLess a a=false
 |[]=>rfl
 |x::a=>by unfold Op.bytesLess;rw[Qv a];simp
theorem Oy:∀ {a b c:List UInt8},Op.bytesLess a b=true->Op.bytesLess b c=true->Op.bytesLess a c=true
 |_,[],_,h,_=>by simp[Op.bytesLess]at h
 |_,_::_,[],_,k=>by simp[Op.bytesLess]at k
 |[],_::_,_::_,_,_=>rfl
 |x::a,y::b,z::c,h,k=>by
  unfold Op.bytesLess at h k⊢;simp only[Bool.or_eq_true,decide_eq_true_eq,Atj,beq_iff_eq]at h k⊢;rcases h with h|⟨rfl,h⟩
  ·rcases k with k|⟨rfl,k⟩
   ·exact .inl (UInt8.lt_trans h k)
   ·exact .inl h
  ·rcases k with k|⟨rfl,k⟩
   ·exact .inl k
   ·exact .inr ⟨rfl,Oy h k⟩
theorem Zc:∀ {a b:List UInt8},Op.bytesLess a b=false->Op.bytesLess b a=false->a=b
 |[],[],_,_=>rfl
 |[],_::_,h,_=>by simp[Op.bytesLess]at h
 |_::_,[],_,k=>by simp[Op.bytesLess]at k
 |x::a,y::b,h,k=>by
  unfold Op.bytesLess at h k;simp only[Bool.or_eq_false_iff,decide_eq_false_iff_not,Bool.and_eq_false_iff,beq_eq_false_iff_ne]at h k;have hxy:x=y:=by
   rcases Nat.lt_trichotomy x.toNat y.toNat with e|e|e
   ·exact absurd (A1q.2 e) h.1
   ·exact UInt8.toNat_inj.1 e
   ·exact absurd (A1q.2 e) k.1
  subst hxy;have h2:=h.2.resolve_left (fun e=>e rfl);have k2:=k.2.resolve_left (fun e=>e rfl);rw[Zc h2 k2]
def Rn (a b:List UInt8):Int:=if Op.bytesLess a b then -1 else if a=b then 0 else 1
def Np (x y:Int):Int:=if x<y then -1 else if y<x then 1 else 0
def Bd (a b:Par):Int:=if Np a.1 b.1≠0 then Np a.1 b.1 else Rn a.2 b.2
def L1 (a b:Par×Par):Int:=if Bd a.1 b.1≠0 then Bd a.1 b.1 else Bd a.2 b.2
structure Ord {κ:Type}(c:κ->κ->Int):Prop where
 refl:∀ a,c a a=0
 eq:∀ a b,c a b=0->a=b
 sym:∀ a b,c a b<0↔0<c b a
 trans:∀ a b d,c a b<0->c b d<0->c a d<0
theorem Asx:Ord Rn:=by
 refine⟨fun a=>by simp[Rn,Qv],fun a b h=>?_,fun a b=>?_,fun a b d h k=>?_⟩
 ·unfold Rn at h;split at h
  ·cases h
  ·split at h
   ·assumption
   ·cases h
 ·unfold Rn;by_cases h:Op.bytesLess a b=true
  ·rw[if_pos h];have h2:¬ (Op.bytesLess b a=true):=fun k=>by have:=Oy h k;rw[Qv]at this;cases this
   have h3:¬ (b=a):=fun e=>by rw[e,Qv]at h;cases h
   rw[if_neg h2,if_neg h3];omega
  ·rw[if_neg h];constructor
   ·intro k;split at k<;>omega
   ·intro k;by_cases h2:Op.bytesLess b a=true
    ·rw[if_pos h2]at k;omega
    ·rw[if_neg h2]at k;have:=Zc (A2p.2 h2) (A2p.2 h);rw[if_pos this]at k;omega
 ·have h1:Op.bytesLess a b=true:=by
   unfold Rn at h;split at h
   ·assumption
   ·split at h<;>omega
  have k1:Op.bytesLess b d=true:=by
   unfold Rn at k;split at k
   ·assumption
   ·split at k<;>omega
  unfold Rn;rw[if_pos (Oy h1 k1)];omega
theorem Asp:Ord Np:=by
 refine⟨fun a=>by simp[Np],fun a b h=>?_,fun a b=>?_,fun a b d h k=>?_⟩;all_goals unfold Np at *
 ·split at h<;>(try split at h)<;>omega
 ·split<;>split<;>(try split)<;>omega
 ·split at h<;>split at k<;>(try split at h)<;>(try split at k)<;>split<;>(try split)<;>omega
theorem Ord.lex {α β:Type}{c:α->α->Int}{d:β->β->Int}(h:Ord c)(k:Ord d):Ord (fun (a b:α×β)=>if c a.1 b.1≠0 then c a.1 b.1 else d a.2 b.2):=by
 refine⟨fun a=>by simp[h.refl,k.refl],fun a b e=>?_,fun a b=>?_,fun a b x e f=>?_⟩
 ·by_cases h0:c a.1 b.1=0
  ·simp only[h0,ne_eq,not_true,if_false]at e;exact A07 (h.eq _ _ h0) (k.eq _ _ e)
  ·simp only[h0,ne_eq,not_false_eq_true,if_true]at e
 ·have h1:=h.sym a.1 b.1;have h2:=h.sym b.1 a.1;by_cases h0:c a.1 b.1=0
  ·have e:=h.eq _ _ h0;have h3:c b.1 a.1=0:=by rw[<-e];exact h.refl _
   simp only[h0,h3,ne_eq,not_true,if_false];exact k.sym _ _
  ·have h3:c b.1 a.1≠0:=fun h4=>h0 (by rw[h.eq _ _ h4];exact h.refl _);simp only[h0,h3,ne_eq,not_false_eq_true,if_true];exact h1
 ·have g:∀ y z:α×β,(if c y.1 z.1≠0 then c y.1 z.1 else d y.2 z.2)<0↔(c y.1 z.1<0\/(y.1=z.1/\d y.2 z.2<0)):=fun y z=>by
   by_cases h0:c y.1 z.1=0
   ·have e:=h.eq _ _ h0;simp only[h0,ne_eq,not_true,if_false];constructor
    ·intro hh;exact .inr ⟨e,hh⟩
    ·rintro (hh|⟨_,hh⟩)
     ·omega
     ·exact hh
   ·simp only[h0,ne_eq,not_false_eq_true,if_true];constructor
    ·intro hh;exact .inl hh
    ·rintro (hh|⟨e',_⟩)
     ·exact hh
     ·exact absurd (by rw[e'];exact h.refl _) h0
  have e':=(g a b).1 e;have f':=(g b x).1 f;refine (g a x).2 ?_;rcases e' with e'|⟨e1,e2⟩
  ·rcases f' with f'|⟨f1,f2⟩
   ·exact .inl (h.trans _ _ _ e' f')
   ·rw[<-f1];exact .inl e'
  ·rcases f' with f'|⟨f1,f2⟩
   ·rw[e1];exact .inl f'
   ·exact .inr ⟨e1.trans f1,k.trans _ _ _ e2 f2⟩
theorem Fr:Ord Bd:=Ord.lex Asp Asx
theorem Are:Ord L1:=Ord.lex Fr Fr
section
variable {κ:Type} {c:κ->κ->Int}
def Hk (c:κ->κ->Int)(l:List κ):Prop:=l.Pairwise fun a b=>c a b<0
theorem Ord.irr (h:Ord c)(a:κ):¬ c a a<0:=by rw[h.refl];omega
theorem Acb (h:Ord c):∀ {l l':List κ},Hk c l->Hk c l'->(∀ a,a∈l↔a∈l')->l=l'
 |[],[],_,_,_=>rfl
 |[],b::l',_,_,e=>by have:=(e b).2 mV;simp at this
 |a::l,[],_,_,e=>by have:=(e a).1 mV;simp at this
 |a::l,b::l',h1,h2,e=>by
  obtain⟨p1,p2⟩:=A0q.1 h1;obtain⟨q1,q2⟩:=A0q.1 h2;have hab:a=b:=by
   rcases At6.1 ((e a).1 mV) with r|r
   ·exact r
   ·rcases At6.1 ((e b).2 mV) with s|s
    ·exact s.symm
    ·exact absurd (h.trans _ _ _ (p1 b s) (q1 a r)) (h.irr a)
  subst hab
  congr 1
  refine Acb h p2 q2 fun x=>?_;constructor
  ·intro hx;rcases At6.1 ((e x).1 (by simp[hx])) with r|r
   ·subst r;exact absurd (p1 x hx) (h.irr x)
   ·exact r
  ·intro hx;rcases At6.1 ((e x).2 (by simp[hx])) with r|r
   ·subst r;exact absurd (q1 x hx) (h.irr x)
   ·exact r
theorem Hk.nodup (h:Ord c){l:List κ}(hs:Hk c l):l.Nodup:=hs.imp fun hh e=>by rw[e]at hh;exact h.irr _ hh
structure Can (c:κ->κ->Int)(f:κ->Rat)(l:List (κ×Rat)):Prop where
 srt:Hk c (l.map (·.1))
 val:∀ p∈l,p.2=f p.1/\p.2≠0
 out:∀ k,k∉l.map (·.1)->f k=0
end
structure CF where
 c:Rat
 s:Par->Rat
 t:Par×Par->Rat
def A5 (p q:Par):Par×Par:=if 0<Bd p q then (q,p) else (p,q)
theorem T8 (p q:Par):A5 p q=A5 q p:=by
 unfold A5;have h1:=Fr.sym p q;have h2:=Fr.sym q p;by_cases h:0<Bd p q
 ·rw[if_pos h,if_neg oV]
 ·rw[if_neg h];by_cases h':0<Bd q p
  ·rw[if_pos h']
  ·rw[if_neg h'];have:=Fr.eq p q oV;rw[this]
def CF.zero:CF:=⟨0,fun _=>0,fun _=>0⟩
def CF.add (a b:CF):CF:=⟨a.c+b.c,fun p=>a.s p+b.s p,fun q=>a.t q+b.t q⟩
def CF.scale (k:Rat)(a:CF):CF:=⟨a.c*k,fun p=>a.s p*k,fun q=>a.t q*k⟩
def Hh (a b:CF)(q:Par×Par):Rat:=if 0<Bd q.1 q.2 then 0 else if q.1=q.2 then 2*(a.s q.1*b.s q.1) else a.s q.1*b.s q.2+a.s q.2*b.s q.1
def CF.mul (a b:CF):CF:=⟨a.c*b.c,fun p=>b.s p*a.c+a.s p*b.c,fun q=>b.t q*a.c+a.t q*b.c+Hh a b q⟩
theorem CF.ext' {a b:CF}(h1:a.c=b.c)(h2:∀ p,a.s p=b.s p)(h3:∀ q,a.t q=b.t q):a=b:=by
 cases a;cases b;simp only at h1 h2 h3;rw[h1,funext h2,funext h3]
theorem Ac9 (a b:CF)(q:Par×Par):Hh a b q=Hh b a q:=by
 unfold Hh;split
 ·rfl
 ·split<;>grind
theorem CF.mul_comm (a b:CF):a.mul b=b.mul a:=CF.ext' (by simp only[CF.mul];grind) (fun p=>by simp only[CF.mul];grind) (fun q=>by simp only[CF.mul];rw[Ac9];grind)
theorem CF.mul_zero (a:CF):a.mul CF.zero=CF.zero:=by
 refine CF.ext' (by simp only[CF.mul,CF.zero];grind) (fun p=>by simp only[CF.mul,CF.zero];grind) (fun q=>?_);simp only[CF.mul,CF.zero,Hh];split
 ·grind
 ·split<;>grind
end
section
variable {k:IntKind}{o:Nat}{t ti ts:TypeId}{xs:Array Value}
def A3 (p:Par):Value:=.agg #[.int .i64 p.1,.string (mkS p.2)]
def prV (q:Par×Par):Value:=.agg #[.int .i64 q.1.1,.string (mkS q.1.2),.int .i64 q.2.1,.string (mkS q.2.2)]
def Lc (f:Field):Bool×TypeId×Nat:=(f.name != "_",f.type,f.offset)
section
variable {P:Program}
theorem Hy {v:Value}(h:Kw P t=some false)(hv:xs[o]?=some v)(w:World):(part t xs o).run P w=.ok v w:=by
 simp[part,Dy h,hv]
theorem Db {n:Nat}(h:Kw P t=some true)(hn:szB P t=some n)(w:World):(part t xs o).run P w=.ok (.agg (xs.extract o (o+n))) w:=by
 simp[part,Dy h,Be hn]
theorem N1 (h:P.underlying t=some (.int k)):Kw P t=some false:=by unfold Kw;rw[h]
theorem Ns (h:P.underlying t=some .string):Kw P t=some false:=by unfold Kw;rw[h]
theorem Anu (a b:List UInt8):((mkS a).toList==(mkS b).toList)=decide (a=b):=Jp a b
theorem Rt {A B:Type}{h:A->B}{fs:List A}{x y:B}(hf:fs.map h = [x,y]):∃ f g,fs = [f,g]:=by
 have h0:=congrArg Av5 hf;simp only[Ata,Auh,List.length_nil]at h0
 match fs,h0 with
 |[f,g],_=>exact⟨f,g,rfl⟩
theorem Ij (hf:(P.fieldsOf t).toList.map Lc = [(true,ti,0),(true,ts,1)])(ht:P.underlying t=some (.struct (P.fieldsOf t)))(hp:P.stoodInHeld t=false)(hi:P.underlying ti=some (.int k))(hs:P.underlying ts=some .string)(d:Nat)(a b:Par)(w:World) :
 (Op.equalIn (d+2) t (A3 a) (A3 b)).run P w=.ok (decide (a=b)) w:=by
 unfold A3;rw[run_equalIn_struct w (d+1) t _ _ ht hp];generalize (P.fieldsOf t).toList=fs at hf;obtain⟨f,g,hfs⟩:=Rt hf;subst hfs
 ·simp only[Auk,Axd,Ave,Lc,Aun,bne_iff_ne,ne_eq,and_true]at hf;obtain⟨⟨n1,rfl,o1⟩,n2,rfl,o2⟩:=hf;obtain⟨a1,a2⟩:=a;obtain⟨b1,b2⟩:=b;simp only[Op.eqFields,ne_eq,n1,n2,not_false_eq_true,if_true,At4];rw[Hy (N1 hi) (v:=.int .i64 a1) (by rw[o1];rfl),Atf,Hy (N1 hi) (v:=.int .i64 b1) (by rw[o1];rfl),Atf,run_equalIn_int w d _ _ _ _ _ hi,Atf];by_cases e:a1=b1
  ·subst e;simp only[beq_self_eq_true,Ayc,Aw7,if_false,At4];rw[Hy (Ns hs) (v:=.string (mkS a2)) (by rw[o2];rfl),Atf,Hy (Ns hs) (v:=.string (mkS b2)) (by rw[o2];rfl),Atf,run_equalIn_string w d _ _ _ hs,Atf,Anu];by_cases e2:a2=b2
   ·subst e2;simp
   ·simp[e2]
  ·have:(a1==b1)=false:=by simpa using e
   simp[this,e]
theorem Ah9 {t tp ti ts:TypeId}{k:IntKind}(hf:(P.fieldsOf t).toList.map Lc = [(true,tp,0),(true,tp,2)])(ht:P.underlying t=some (.struct (P.fieldsOf t)))(hp:P.stoodInHeld t=false)
 (hf':(P.fieldsOf tp).toList.map Lc = [(true,ti,0),(true,ts,1)]) (ht':P.underlying tp=some (.struct (P.fieldsOf tp))) (hp':P.stoodInHeld tp=false) (hsz:szB P tp=some 2) (hi:P.underlying ti=some (.int k)) (hs:P.underlying ts=some .string) (d:Nat) (a b:Par×Par) (w:World) :
 (Op.equalIn (d+3) t (prV a) (prV b)).run P w=.ok (decide (a=b)) w:=by
 have hag:Kw P tp=some true:=by unfold Kw;rw[ht']
 unfold prV;rw[run_equalIn_struct w (d+2) t _ _ ht hp];generalize (P.fieldsOf t).toList=fs at hf;obtain⟨f,g,hfs⟩:=Rt hf;subst hfs
 ·simp only[Auk,Axd,Ave,Lc,Aun,bne_iff_ne,ne_eq,and_true]at hf;obtain⟨⟨n1,e1,o1⟩,n2,e2,o2⟩:=hf;obtain⟨⟨a1,a2⟩,a3,a4⟩:=a;obtain⟨⟨b1,b2⟩,b3,b4⟩:=b;simp only[Op.eqFields,ne_eq,n1,n2,not_false_eq_true,if_true,At4,e1,e2,o1,o2];rw[Db hag hsz,Atf,Db hag hsz,Atf];have q1:=Ij hf' ht' hp' hi hs d (a1,a2) (b1,b2) w;have q2:=Ij hf' ht' hp' hi hs d (a3,a4) (b3,b4) w;unfold A3 at q1 q2;have x1:(#[Auj .i64 a1,.string (mkS a2),.int .i64 a3,.string (mkS a4)].extract 0 (0+2)) = #[.int .i64 a1,.string (mkS a2)]:=rfl;have x2:(#[Auj .i64 b1,.string (mkS b2),.int .i64 b3,.string (mkS b4)].extract 0 (0+2)) = #[.int .i64 b1,.string (mkS b2)]:=rfl;have x3:(#[Auj .i64 a1,.string (mkS a2),.int .i64 a3,.string (mkS a4)].extract 2 (2+2)) = #[.int .i64 a3,.string (mkS a4)]:=rfl;have x4:(#[Auj .i64 b1,.string (mkS b2),.int .i64 b3,.string (mkS b4)].extract 2 (2+2)) = #[.int .i64 b3,.string (mkS b4)]:=rfl;simp only[x1,x2,q1,Atf];by_cases e:((a1,a2):Par)=(b1,b2)
  ·simp only[e,decide_true,Ayc,Aw7,if_false,At4];rw[Db hag hsz,Atf,Db hag hsz,Atf];simp only[x3,x4,q2,Atf];by_cases e':((a3,a4):Par)=(b3,b4)
   ·simp[e']
   ·simp[e']
  ·simp[e]
theorem Pa (h:(∃ k,P.underlying t=some (.int k))\/P.underlying t=some .string)(e:Bool)(d:Nat)(v:Value)(w:World):(Aw6 e (d+1) t v).run P w=.ok () w:=by
 unfold Aw6;rcases h with ⟨k,h⟩|h<;>simp[run_underlying h]
theorem Hd (hf:(P.fieldsOf t).toList.map Lc = [(true,ti,0),(true,ts,1)])(ht:P.underlying t=some (.struct (P.fieldsOf t)))(hi:P.underlying ti=some (.int k))(hs:P.underlying ts=some .string)(e:Bool)(d:Nat)(a:Par)(w:World) :
 (Aw6 e (d+2) t (A3 a)).run P w=.ok () w:=by
 unfold A3;rw[Aw6];simp only[At4,run_underlying ht,Atf];rw[<-A2g];generalize (P.fieldsOf t).toList=fs at hf;obtain⟨f,g,hfs⟩:=Rt hf;subst hfs
 ·simp only[Auk,Axd,Ave,Lc,Aun,bne_iff_ne,ne_eq,and_true]at hf;obtain⟨⟨n1,e1,o1⟩,n2,e2,o2⟩:=hf;simp only[A1e,A1r,ne_eq,n1,n2,not_false_eq_true,if_true,At4,e1,e2,o1,o2];rw[Hy (N1 hi) (v:=.int .i64 a.1) rfl,Atf,Pa (.inl ⟨k,hi⟩)];simp only[Atf,Avt,At4];rw[Hy (Ns hs) (v:=.string (mkS a.2)) rfl,Atf,Pa (.inr hs)];simp
theorem Adb {t tp ti ts:TypeId}{k:IntKind}(hf:(P.fieldsOf t).toList.map Lc = [(true,tp,0),(true,tp,2)])(ht:P.underlying t=some (.struct (P.fieldsOf t)))
 (hf':(P.fieldsOf tp).toList.map Lc = [(true,ti,0),(true,ts,1)]) (ht':P.underlying tp=some (.struct (P.fieldsOf tp))) (hsz:szB P tp=some 2) (hi:P.underlying ti=some (.int k)) (hs:P.underlying ts=some .string) (e:Bool) (d:Nat) (a:Par×Par) (w:World) :
 (Aw6 e (d+3) t (prV a)).run P w=.ok () w:=by
 have hag:Kw P tp=some true:=by unfold Kw;rw[ht']
 unfold prV;rw[Aw6];simp only[At4,run_underlying ht,Atf];rw[<-A2g];generalize (P.fieldsOf t).toList=fs at hf;obtain⟨f,g,hfs⟩:=Rt hf;subst hfs
 ·simp only[Auk,Axd,Ave,Lc,Aun,bne_iff_ne,ne_eq,and_true]at hf;obtain⟨⟨n1,e1,o1⟩,n2,e2,o2⟩:=hf;have q1:=Hd hf' ht' hi hs e d a.1 w;have q2:=Hd hf' ht' hi hs e d a.2 w;unfold A3 at q1 q2;simp only[A1e,A1r,ne_eq,n1,n2,not_false_eq_true,if_true,At4,e1,e2,o1,o2];rw[Db hag hsz,Atf];have x1:(#[Auj .i64 a.1.1,.string (mkS a.1.2),.int .i64 a.2.1,.string (mkS a.2.2)].extract 0 (0+2)) = #[.int .i64 a.1.1,.string (mkS a.1.2)]:=rfl;have x2:(#[Auj .i64 a.1.1,.string (mkS a.1.2),.int .i64 a.2.1,.string (mkS a.2.2)].extract 2 (2+2)) = #[.int .i64 a.2.1,.string (mkS a.2.2)]:=rfl;rw[x1,q1];simp only[Atf,Avt,At4];rw[Db hag hsz,Atf,x2,q2];simp
theorem Aje (a b:Par)(h:A3 a=A3 b):a=b:=by
 unfold A3 at h;simp only[Axc,Axh,Ave,A27,A2h,true_and,and_true]at h;exact A07 h.1 (Zk.1 h.2)
theorem Agj (a b:Par×Par)(h:prV a=prV b):a=b:=by
 unfold prV at h;simp only[Axc,Axh,Ave,A27,A2h,true_and,and_true]at h;exact A07 (A07 h.1 (Zk.1 h.2.1)) (A07 h.2.2.1 (Zk.1 h.2.2.2))
theorem Abb (d:Nat)(k:IntKind)(z:Int):Awk d (.int k z) (.int k z)=true:=by unfold Awk;simp
theorem Zz (d:Nat)(z:ByteArray):Awk d (.string z) (.string z)=true:=by
 obtain⟨⟨l⟩⟩:=z;have:((⟨⟨l⟩⟩:ByteArray) == ⟨⟨l⟩⟩)=true:=by rw[beq_toListBytes];simp
 unfold Awk;exact this
theorem Aj5 (a:Par):Awk 10000 (A3 a) (A3 a)=true:=by
 show Awk (9999+1) _ _=true;unfold A3 Awk;simp[Abb,Zz]
theorem Afo (a:Par×Par):Awk 10000 (prV a) (prV a)=true:=by
 show Awk (9999+1) _ _=true;unfold prV Awk;simp[Abb,Zz]
end
theorem Dr:Tr prog 110 A3 :=
 ⟨fun a b w=>Ij (P:=prog) (t:=110) (ti:=3) (ts:=9) (k:=.i64) kV kV kV kV kV 9998 a b w,
  ⟨_,(by kernel_rfl:prog.underlying 110=some (.struct (prog.fieldsOf 110))),.inl fun _ _=>rfl⟩,
  fun e a w=>Hd (P:=prog) (t:=110) (ti:=3) (ts:=9) (k:=.i64) kV kV kV kV e 9998 a w,Aj5,Aje⟩
theorem Akj:Tr prog 178 prV :=
 ⟨fun a b w=>Ah9 (P:=prog) (t:=178) (tp:=110) (ti:=3) (ts:=9) (k:=.i64) kV kV kV kV kV kV kV kV kV 9997 a b w,
  ⟨_,(by kernel_rfl:prog.underlying 178=some (.struct (prog.fieldsOf 178))),.inl fun _ _=>rfl⟩,
  fun e a w=>Adb (P:=prog) (t:=178) (tp:=110) (ti:=3) (ts:=9) (k:=.i64) kV kV kV kV kV kV kV e 9997 a w,Afo,Agj⟩
end
section
section
variable {P:Program}
theorem Ad0 {t e ti ts:TypeId}{k:IntKind}(ht:P.underlying t=some (.array 2 e))(hi:(P.info? e).isSome=true)(hc:P.cellsOf e=2)(hsz:szB P e=some 2)
 (hf':(P.fieldsOf e).toList.map Lc = [(true,ti,0),(true,ts,1)]) (ht':P.underlying e=some (.struct (P.fieldsOf e))) (hp':P.stoodInHeld e=false) (hti:P.underlying ti=some (.int k)) (hs:P.underlying ts=some .string) (d:Nat) (a b:Par×Par) (w:World) :
 (Op.equalIn (d+3) t (prV a) (prV b)).run P w=.ok (decide (a=b)) w:=by
 have hag:Kw P e=some true:=by unfold Kw;rw[ht']
 obtain⟨i,hi⟩:=Option.isSome_iff_exists.1 hi;unfold prV;rw[run_equalIn_array w (d+2) _ _ ht hi,hc];obtain⟨⟨a1,a2⟩,a3,a4⟩:=a;obtain⟨⟨b1,b2⟩,b3,b4⟩:=b;rw[show List.range 2 = [0,1] from rfl];simp only[Op.eqItems,At4,Ax5,Avm];rw[Db hag hsz,Atf,Db hag hsz,Atf];have q1:=Ij hf' ht' hp' hti hs d (a1,a2) (b1,b2) w;have q2:=Ij hf' ht' hp' hti hs d (a3,a4) (b3,b4) w;unfold A3 at q1 q2;have x1:(#[Auj .i64 a1,.string (mkS a2),.int .i64 a3,.string (mkS a4)].extract 0 (0+2)) = #[.int .i64 a1,.string (mkS a2)]:=rfl;have x2:(#[Auj .i64 b1,.string (mkS b2),.int .i64 b3,.string (mkS b4)].extract 0 (0+2)) = #[.int .i64 b1,.string (mkS b2)]:=rfl;have x3:(#[Auj .i64 a1,.string (mkS a2),.int .i64 a3,.string (mkS a4)].extract 2 (2+2)) = #[.int .i64 a3,.string (mkS a4)]:=rfl;have x4:(#[Auj .i64 b1,.string (mkS b2),.int .i64 b3,.string (mkS b4)].extract 2 (2+2)) = #[.int .i64 b3,.string (mkS b4)]:=rfl;simp only[x1,x2,q1,Atf];by_cases e:((a1,a2):Par)=(b1,b2)
 ·simp only[e,decide_true,Ayc,Aw7,if_false,At4];rw[Db hag hsz,Atf,Db hag hsz,Atf];simp only[x3,x4,q2,Atf];by_cases e':((a3,a4):Par)=(b3,b4)
  ·simp[e']
  ·simp[e']
 ·simp[e]
theorem Acc {t e ti ts:TypeId}{k:IntKind}(ht:P.underlying t=some (.array 2 e))(hsz:szB P e=some 2)
 (hf':(P.fieldsOf e).toList.map Lc = [(true,ti,0),(true,ts,1)]) (ht':P.underlying e=some (.struct (P.fieldsOf e))) (hti:P.underlying ti=some (.int k)) (hs:P.underlying ts=some .string) (emp:Bool) (d:Nat) (a:Par×Par) (w:World) :
 (Aw6 emp (d+3) t (prV a)).run P w=.ok () w:=by
 have hag:Kw P e=some true:=by unfold Kw;rw[ht']
 unfold prV;rw[Aw6];simp only[At4,run_underlying ht,Atf];have q1:=Hd hf' ht' hti hs emp d a.1 w;have q2:=Hd hf' ht' hti hs emp d a.2 w;unfold A3 at q1 q2;have x1:(#[Auj .i64 a.1.1,.string (mkS a.1.2),.int .i64 a.2.1,.string (mkS a.2.2)].extract 0 (0+2)) = #[.int .i64 a.1.1,.string (mkS a.1.2)]:=rfl;have x2:(#[Auj .i64 a.1.1,.string (mkS a.1.2),.int .i64 a.2.1,.string (mkS a.2.2)].extract 2 (2+2)) = #[.int .i64 a.2.1,.string (mkS a.2.2)]:=rfl;simp only[Std.Legacy.Range.forIn_eq_forIn_range',Std.Legacy.Range.size,Awx,Nat.add_one_sub_one,Nat.div_one,show List.range' 0 2 1 = [0,1] from rfl,A1e,A1r,At4,Be hsz,Atf,Ax5,Avm];rw[Db hag hsz,Atf,x1,q1];simp only[Atf,Avt,At4,Be hsz,Avm];rw[Db hag hsz,Atf,x2,q2];simp
end
theorem Hi:Tr prog 162 prV :=
 ⟨fun a b w=>Ad0 (P:=prog) (t:=162) (e:=110) (ti:=3) (ts:=9) (k:=.i64) kV kV kV kV kV kV kV kV kV 9997 a b w,
  ⟨_,(by kernel_rfl:prog.underlying 162=some (.array 2 110)),.inl fun _ _=>rfl⟩,
  fun e a w=>Acc (P:=prog) (t:=162) (e:=110) (ti:=3) (ts:=9) (k:=.i64) kV kV kV kV kV kV e 9997 a w,Afo,Agj⟩
end
section
variable [Ca]
open Go.MapKept
theorem Qq {α β:Type}(f:α->β):∀ {l:List α} {x y:α},(l.map f).Nodup->x∈l->y∈l->f x=f y->x=y
 |[],_,_,_,h,_,_=>by simp at h
 |a::l,x,y,hn,hx,hy,e=>by
  simp only[Auk,Awr]at hn;rcases At6.1 hx with e0|hx
  ·subst e0;rcases At6.1 hy with e'|hy
   ·exact e'.symm
   ·exact absurd (Ate.2 ⟨y,hy,e.symm⟩) hn.1
  ·rcases At6.1 hy with e'|hy
   ·rw[e']at e;exact absurd (Ate.2 ⟨x,hx,e⟩) hn.1
   ·exact Qq f hn.2 hx hy e
theorem S3 {α β:Type}(f:α->β):∀ {L l:List α},(L.map f).Nodup->(∀ p∈L,p∈l)->L.length<=l.length
 |[],_,_,_=>Atu _
 |a::L,l,hn,hs=>by
  simp only[Auk,Awr]at hn;obtain⟨s,t,rfl⟩:=List.append_of_mem (hs a mV);have:=S3 f (L:=L) (l:=s++t) hn.2 (fun p hp=>by
   have h1:=hs p (by simp[hp]);have hne:p≠a:=fun e=>hn.1 (by rw[<-e];exact Ate.2 ⟨p,hp,rfl⟩);simp only[Ati,At6]at h1⊢;rcases h1 with h|h|h
   ·exact .inl h
   ·exact absurd h hne
   ·exact .inr h)
  simp only[List.length_append,Auh]at this⊢;omega
section
variable {κ:Type} [DecidableEq κ] {enc:κ->Value}
structure Fc (enc:κ->Value)(es:Array MapEntry)(l:List (κ×Value))(D:List MapEntry)(L:List (κ×Value)):Prop where
 it:Rm es D
 kv:D.map (fun e=>(e.key,e.val))=L.map (fun p=>(enc p.1,p.2))
 sub:∀ p∈L,p∈l
 nod:(L.map (·.1)).Nodup
theorem Fc.nil (es:Array MapEntry)(l:List (κ×Value)):Fc enc es l [] []:=⟨Rm.nil es,rfl,mV,mV⟩
theorem Fc.snoc (hinj:∀ a b,enc a=enc b->a=b){es:Array MapEntry}{l:List (κ×Value)}{D:List MapEntry}{L:List (κ×Value)}(hl:es.toList.map (fun e=>(e.key,e.val))=l.map (fun p=>(enc p.1,p.2)))(hn:(l.map (·.1)).Nodup)
 (h:Fc enc es l D L) {e:MapEntry} (he:e∈es.toList) (hi:Rm es (D++[e])):∃ p,p∈l/\e.key=enc p.1/\e.val=p.2/\p.1∉L.map (·.1)/\Fc enc es l (D++[e]) (L++[p]):=by
 have h1:(e.key,e.val)∈l.map (fun p=>(enc p.1,p.2)):=by rw[<-hl];exact Ate.2 ⟨e,he,rfl⟩
 obtain⟨p,hp,hpe⟩:=Ate.1 h1;simp only[Aun]at hpe;have hkn:(es.toList.map (·.key)).Nodup:=by
  have e1:es.toList.map (·.key)=(l.map (·.1)).map enc:=by
   have:=congrArg (List.map (·.1)) hl;simpa[Function.comp_def] using this
  rw[e1];exact A2o.2 (hn.imp fun hne e'=>hne (hinj _ _ e'))
 have hnew:p.1∉L.map (·.1):=by
  intro hm;obtain⟨q,hq,hqp⟩:=Ate.1 hm;have hqe:q=p:=Qq (·.1) hn (h.sub q hq) hp hqp;subst hqe;have h2:(enc q.1,q.2)∈D.map (fun e=>(e.key,e.val)):=by rw[h.kv];exact Ate.2 ⟨q,hq,rfl⟩
  obtain⟨e',he',hee⟩:=Ate.1 h2;simp only[Aun]at hee;have:e'=e:=Qq (·.key) hkn (h.it.sub e' he') he (hee.1.trans hpe.1);subst this;have:=hi.nod;rw[Atk,Awq]at this;exact this.2.2 e'.born (Ate.2 ⟨e',he',rfl⟩) e'.born mV rfl
 refine⟨p,hp,hpe.1.symm,hpe.2.symm,hnew,hi,?_,fun q hq=>?_,?_⟩
 ·rw[Atk,Atk,h.kv];simp[hpe.1,hpe.2]
 ·rcases Ati.1 hq with hq|hq
  ·exact h.sub q hq
  ·simp at hq;subst hq;exact hp
 ·rw[Atk,Awq];exact⟨h.nod,mV,fun a ha b hb e'=>hnew (by simp at hb;rw[<-hb,<-e'];exact ha)⟩
theorem Fc.all (hinj:∀ a b,enc a=enc b->a=b){es:Array MapEntry}{l:List (κ×Value)}{D:List MapEntry}{L:List (κ×Value)}(hl:es.toList.map (fun e=>(e.key,e.val))=l.map (fun p=>(enc p.1,p.2)))
 (h:Fc enc es l D L) (hp:D.Perm es.toList):∀ p∈l,p∈L:=by
 intro p hpl;have h1:(enc p.1,p.2)∈es.toList.map (fun e=>(e.key,e.val)):=by rw[hl];exact Ate.2 ⟨p,hpl,rfl⟩
 obtain⟨e,he,hee⟩:=Ate.1 h1;have h2:(e.key,e.val)∈L.map (fun p=>(enc p.1,p.2)):=by rw[<-h.kv];exact Ate.2 ⟨e,hp.mem_iff.2 he,rfl⟩
 obtain⟨q,hq,hqe⟩:=Ate.1 h2;simp only[Aun]at hqe hee;have:q=p:=A07 (hinj _ _ (hqe.1.trans hee.1)) (hqe.2.trans hee.2);subst this;exact hq
theorem Fc.len {es:Array MapEntry}{l:List (κ×Value)}{D:List MapEntry}{L:List (κ×Value)}(h:Fc enc es l D L):L.length<=l.length:=S3 (·.1) h.nod h.sub
end
section rules
variable {P:Program} [A7 P] {fn:Func} {Post:By} {st:List KI×S} {u m:PH}
variable {κ:Type} [DecidableEq κ] {enc:κ->Value}
theorem G.mapNextL (hinj:∀ a b,enc a=enc b->a=b)(it g:Nat)(es:Array MapEntry)(clock:Nat)(l:List (κ×Value))(D:List MapEntry)(L:List (κ×Value))(h:Lg P (adv P st)=.next (.pointer (some ⟨it,0,none⟩)))(hdr:Rq (adv P st)=true)
 (hi:m it=some (.mapIter (some g) clock (Ar D) clock)) (hg:u g=some (.map es clock)\/m g=some (.map es clock)) (hs:Stamped es clock) (hl:es.toList.map (fun e=>(e.key,e.val))=l.map (fun p=>(enc p.1,p.2))) (hn:(l.map (·.1)).Nodup) (hS:Fc enc es l D L)
 (k0:(∀ p∈l,p∈L)->G P fn Post (nx (adv P st) (.tuple #[.bool false])) u m)
 (k1:∀ p e,p∈l->p.1∉L.map (·.1)->e∈es.toList->e.key=enc p.1->e.val=p.2->Fc enc es l (D++[e]) (L++[p])->G P fn Post (nx (adv P st) (.tuple #[.bool true,enc p.1,p.2])) u (m.upd it (.mapIter (some g) clock (Ar (D++[e])) clock))):G P fn Post st u m:=by
 refine G.mapNext it g es clock D h hdr hi hg hs hS.it (fun hp=>k0 (hS.all hinj hl hp)) (fun e he hi'=>?_);obtain⟨p,h1,h2,h3,h4,h5⟩:=hS.snoc hinj hl hn he hi';rw[h2,h3];exact k1 p e h1 h4 he h2 h3 h5
end rules
end
section
variable {k n:Nat}{q:Rat}{s:Src}{ts:List Int}{u:PH}
theorem As1 {x:Int}(h1:-9223372036854775808<=x)(h2:x<=9223372036854775807)(hn:0<n)(hn2:n<=1000000) :
 Fn0 prog 76 [.int .i64 x,.int .i64 (n:Int)] u fun v _=>∃ r:Nat,v=.int .i64 (r:Int)/\r<n:=by
 refine Fn0.o func76 ?_;refine G.lF (n:Int) 1 ?_;have a1:=A2d x (show (0:Int)<n by omega);have a2:=A2e x (show (0:Int)<n by omega);refine G.remZ x (n:Int) (x.tmod n) kV oV oV rfl ?_;refine G.add (x.tmod n) (n:Int) (x.tmod n+n) kV rfl oV oV ?_;obtain⟨y,hy⟩:∃ y:Nat,x.tmod n+n=(y:Int):=⟨(x.tmod n+n).toNat,oV⟩;refine G.remZ (x.tmod n+n) (n:Int) ((y%n:Nat):Int) kV oV oV (by rw[hy,Int.tmod_eq_emod_of_nonneg oV];rfl) ?_;exact G.r _ ⟨rfl,y%n,rfl,Au3 _ hn⟩
def Ar9 (s:Src)(n:Nat)(v:Value)(m':PH):Prop:=∃ r k:Nat,v=.int .i64 (r:Int)/\r<n/\k<=s.n/\m'=s.M k
theorem Ka (h:Li u s ts)(hk:k<=s.n)(hn:0<n)(hn2:n<=1000000) :
 Ak prog 26 [s.ptr,.int .i64 (n:Int)] u (s.M k) fun v _ m'=>Ar9 s n v m':=by
 have hsn:=h.n;have hle:=h.le;refine Ak.o func26 ?_;refine G.f 75 s.g 0 1 1 ?_;refine G.lM none s.g (0+1) (.int .i64 (k:Int)) (s.cell1 k) ?_;refine G.f 75 s.g 0 0 0 ?_;refine G.lM none s.g (0+0) (.slice s.a s.n s.c) (s.cell0 k) ?_;by_cases hlt:k<s.n
 ·refine G.hF (k:Int) (s.n:Int) ?_;refine G.f 75 s.g 0 1 1 ?_;refine G.lM none s.g (0+1) (.int .i64 (k:Int)) (s.cell1 k) ?_;refine G.i k ?_;refine G.f 75 s.g 0 1 1 ?_;refine G.storeM 1 s.g (0+1) 75 [.slice s.a s.n s.c,.int .i64 (k:Int)] (.int .i64 ((k+1:Nat):Int)) kV (Ab _ _ _) (fun x hx=>by simp at hx;rcases hx with rfl|rfl<;>rfl) mV rfl rfl ?_
  have e:(s.M k).upd s.g (.cells (([Au8 s.a s.n s.c,.int .i64 (k:Int)].take (0+1))++(Auj .i64 ((k+1:Nat):Int)).cells.toList++([Au8 s.a s.n s.c,.int .i64 (k:Int)].drop (0+1+1))).toArray 75 (0,0))=s.M (k+1):=by
   unfold Src.M;rw[Dz];rfl
  rw[e];refine G.f 75 s.g 0 0 0 ?_;refine G.lM none s.g (0+0) (.slice s.a s.n s.c) (s.cell0 (k+1)) ?_;refine G.f 75 s.g 0 1 1 ?_;refine G.lM none s.g (0+1) (.int .i64 ((k+1:Nat):Int)) (s.cell1 (k+1)) ?_;refine G.s ((k+1:Nat):Int) 1 (k:Int) ?_;have hkt:k<ts.length:=oV
  obtain⟨b,off,ea,eb⟩:=Ad.at' h.list (j:=k) (e:=.int .i64 ts[k]) (by simp[Ei,As5 hkt]);obtain⟨g,a,n',c⟩:=s;simp only at ea hlt hk hsn;subst ea;refine G.a b off n' c k 1 hlt ?_;refine G.lU none b (off+k*1) (.int .i64 ts[k]) eb ?_;refine G.c call76 (As1 (h.lo _ (Ath hkt)) (h.hi _ (Ath hkt)) hn hn2) ?_;rintro v1 u1 l1 ⟨r,rfl,hr⟩;exact G.r _ ⟨r,k+1,rfl,hr,dV,rfl⟩
 ·refine G.hT (k:Int) (s.n:Int) ?_;exact G.r (.int .i64 0) ⟨0,k,rfl,hn,hk,rfl⟩
theorem Aia {lo hi:Int}(h:Li u s ts)(hk:k<=s.n)(hlo:-1000000<=lo)(hlo2:lo<=1000000)(hn:hi-lo+1=(n:Int))(hn0:0<n)(hn2:n<=1000000) :
 Ak prog 74 [s.ptr,.int .i64 lo,.int .i64 hi] u (s.M k) fun v _ m'=>∃ (r:Nat) (k':Nat),v=.int .i64 (lo+(r:Int))/\r<n/\k'<=s.n/\m'=s.M k':=by
 refine Ak.o func74 ?_;refine G.sub hi lo (hi-lo) kV rfl oV oV ?_;refine G.add (hi-lo) 1 (n:Int) kV hn oV oV ?_;refine G.A call26 (Ka h hk hn0 hn2) ?_;rintro v1 u1 m1 l1 ⟨r,k',rfl,hr,hk',rfl⟩ _;rw[C6];refine G.add lo (r:Int) (lo+(r:Int)) kV rfl oV oV ?_;exact G.r _ ⟨r,k',rfl,hr,hk',rfl⟩
theorem Zn {v:Value}{L:List Int}(h:Li u s ts)(hk:k<=s.n)(hL:Ad u v 1 (Ei L))(hn0:0<L.length)(hn2:L.length<=1000000) :
 Ak prog 28 [s.ptr,v] u (s.M k) fun v _ m'=>∃ z∈L,∃ k':Nat,v=.int .i64 z/\k'<=s.n/\m'=s.M k':=by
 obtain⟨a,c,rfl⟩:=hL.opn;rw[B3]at hL⊢;refine Ak.o func28 ?_;refine G.A call26 (Ka h hk hn0 hn2) ?_;rintro v1 u1 m1 l1 ⟨r,k',rfl,hr,hk',rfl⟩ _;rw[C6];obtain⟨b,off,rfl,e⟩:=Ad.at' (hL.mono l1) (j:=r) (e:=.int .i64 L[r]) (by simp[Ei,As5 hr]);refine G.a b off L.length c r 1 hr ?_;refine G.lU none b (off+r*1) (.int .i64 L[r]) e ?_;exact G.r _ ⟨L[r],Ath hr,k',rfl,hk',rfl⟩
structure SmR (q:Rat):Prop where
 num:q.num.natAbs<=9
 den:q.den ∣ 12
theorem SmR.le (h:SmR q):q.den<=12:=Axt oV h.den
structure SmW (q:Rat):Prop where
 num:q.num.natAbs<=1545
 den:q.den ∣ 12
theorem SmR.w (h:SmR q):SmW q:=⟨As9 h.num oV,h.den⟩
theorem SmW.le (h:SmW q):q.den<=12:=Axt oV h.den
end
end Go.Proofs.YtnafchoihfnkeaaGreatDoor
