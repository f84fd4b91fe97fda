/- Parts of one proof, joined by a program. -/
import Derived.Test.YtanfagpabkdmiaaGreatDoorN08
import Derived.ChangeKeysEq
set_option linter.unusedVariables false
set_option linter.unusedSimpArgs false
set_option linter.unusedSectionVars false
set_option maxHeartbeats 16000000
namespace Go.Proofs.YtanfagpabkdmiaaGreatDoor
open Go.Proofs.Tryz
open Go.RowKit Go.MapKept
open _root_.Array renaming foldl_toList -> A8m, getElem?_setIfInBounds_ne -> A2l
open Bool renaming and_eq_true -> A05, false_eq_true -> A3c
open Classical renaming em -> Bay
open Instr renaming checkKey -> A43
open List renaming Perm.cons -> A42, Perm.swap -> A4s, any_eq_false -> A7i, append_nil -> A1i, findIdx?_eq_some_iff_getElem -> A5z, foldl_append -> A7h, foldl_cons -> A5p, getD_eq_getElem?_getD -> A0o, getElem?_eq_getElem -> A0n, getElem?_eq_some_iff -> A0s, getElem?_mapIdx -> A98, getElem_map -> A4r, getElem_mem -> A04, getElem_of_mem -> A19, getElem_take -> A4t, length_map -> A0p, length_take -> A00, map_append -> A07, map_cons -> A1y, mem_append -> A01, mem_cons -> A02, mem_cons_of_mem -> A1w, mem_cons_self -> A3r, mem_map -> A0u, mem_of_getElem? -> A1b, pairwise_iff_getElem -> A3q, perm_append_comm -> A72, range -> A1q, replicate -> A0x, take_add_one -> A1c, take_length -> A1k
open Nat renaming add_assoc -> A28, dvd_lcm_left -> A7v, dvd_trans -> A8v, le_refl -> A0w, le_trans -> A0q, lt_or_ge -> A11, one_mul -> A3d, pow_le_pow_right -> A1l, sub_self -> A45, zero_le -> A1m, zero_mul -> A4p
open Option renaming some.injEq -> A0t
open Rat renaming add_comm -> A4y
open Result renaming andThen_ok -> A0y
open Sem renaming run_bind -> A1n
open Value renaming cells -> A1e, int -> A15, slice -> A06, slice.injEq -> A09
open World renaming putObj_heap_other -> A7b
section
variable {X:List (List Int)}{a:Option Addr}{c n:Nat}
section
variable [Cc] {P:Program} [Ba P] {fn:Func} {Post:B0} {st:List KI×S} {u m:PH}
theorem G.appendZ (e:TypeId)(sz bt:Nat)(z:Value)(xs:List Value)(a:Option Addr)(n c:Nat)(h:Al P (adv P st)=.app (some (e,sz,bt,z)) true [.slice none 0 0,.slice a n c])(hz:z.cells.toList.all Be=true)(hzs:z.cells.size=sz)(hsz:0<sz)
 (hx:Ab u (.slice a n c) sz xs) (ho:A3 sz xs) (hn:xs.length=n) (hb:n*bt<=140737488355328) (hb2:n<=9223372036854775807)
 (k:∀ a' c' m',Ae m m' (.slice a' n c') e sz xs->G P fn Post (nx (adv P st) (.slice a' n c')) u m'):G P fn Post st u m:=by
 by_cases h0:n=0
 ·subst h0;obtain rfl:=List.eq_nil_of_length_eq_zero hn;exact G.appendNil e sz bt z a c h (k none 0 m (Ae.nil _ _ _))
 ·obtain⟨b,o,rfl,_⟩:=hx.at' (j:=0) (A0n oV);refine G.append e sz bt z m [] xs (.slice none 0 0) b o n c h hz hzs hsz (Ae.nil _ _ _) hx.els ho hn oV (by simpa using hb) (by simpa using hb2) ?_;intro v' m' hA;rw[List.nil_append]at hA;obtain⟨a',c',rfl⟩:=hA.shape;rw[hn]at hA⊢;exact k a' c' m' hA
end
theorem AtP.ok2 {u:PH}{es:List Value}{zs:List Int}(h:AtP Cb u es zs):A3 2 es:=fun e he=>by
 obtain⟨j,hj,rfl⟩:=List.mem_iff_getElem.1 he;have hj':j<zs.length:=by rw[<-h.1];exact hj
 obtain⟨e',e1,e2⟩:=h.2 j zs[j] (A0n hj');rw[A0n hj]at e1;cases e1;exact e2.ok _ mV
theorem Aub {m u:PH}{s p:Arr}{rows:List (Value×List Value)}(hbag:Bag m (s::p::oN (.slice a n c) rows::rows.map Aqj))(hQ:NAt u rows X)(hm:PH.le m u):Arj u (.slice a n c) X:=by
 have h1:=hbag.list hm 2 (x:=oN (.slice a n c) rows) rfl;refine⟨rows.map (fun r:Value×List Value=>r.1),h1,by rw[A0p,hQ.1],fun j r hj=>?_⟩;have hjl:j<rows.length:=by rw[hQ.1];exact (A0s.1 hj).1
 have hri:rows[j]?=some rows[j]:=A0n hjl;refine⟨rows[j].1,by rw[List.getElem?_map,hri];rfl,?_⟩;refine⟨rows[j].2,hbag.list hm (j+3) (x:=Aqj rows[j]) (Arl hri),?_⟩;have:=hQ.2 j _ hri;have e:gMZ X j=r:=by unfold gMZ;rw[A0o,hj];rfl
 rwa[e]at this
theorem Ayy {m:PH}{g:Nat}{l:List Arr}{rv pv:Value}{f:N3}{odd:Bool}(h:Bag m (Aq4 g (Aqn rv pv f odd)::l))(h1:rv.cells = #[rv])(h2:pv.cells = #[pv]):ElP m g 0 (.agg #[rv,pv,.bool f.b,.slice f.a f.n f.c,.bool odd]):=by
 have k0:=Aql h;have k1:=Atv h;have k2:=Awm h;have k4:=Avw h;intro i x hi
 match i,hi with
 |0,hi=>exact k0 0 x (by rw[h1];exact hi)
 |1,hi=>exact k1 0 x (by rw[h2];exact hi)
 |2,hi=>exact k2 0 x hi
 |3,hi=>exact k2 1 x hi
 |4,hi=>exact k4 0 x hi
theorem Ay8 (K : Nat) {k l : Nat} (h : k ≤ l) : zs K k ≤ zs K l := by
  induction l with
  | zero => have : k = 0 := by omega
            subst this; exact A0w _
  | succ l ih =>
    rcases A11 k (l + 1) with h' | h'
    · have := ih oV
      show zs K k ≤ 2 * zs K l + 2
      omega
    · have : k = l + 1 := by omega
      subst this; exact A0w _
theorem Ayp {u:PH}{n w c cols E:Nat}(hM:Arj u (.slice a n c) X)(hX:Aqv n w X)(hn:n<=100)(hw:w<=100)(h0:0<n)(hcw:cols<=w)(hsz:SzZ X E)(hE1:1<=E)(hE:zs E cols<=1000000000) :
 Fn0 prog 151 [.slice a n c,.int .i64 (cols:Int)] u fun r u'=>∃ a' c' pa pc f,r=.agg #[.slice a' n c',.slice pa (Aq0 n cols 0 ⟨X,[],1,false⟩).P.length pc,.bool f.b,.slice f.a f.n f.c,.bool (Aq0 n cols 0 ⟨X,[],1,false⟩).odd] /\
  Arj u' (.slice a' n c') (Aq0 n cols 0 ⟨X,[],1,false⟩).X/\Cb u' (nv f) (Aq0 n cols 0 ⟨X,[],1,false⟩).v:=by
 have hXl:=hX.1;refine Fn0.o func151 ?_;refine G.c call177 (Tz (z:=1) oV oV) ?_;intro v1 u1 l1 k1;obtain⟨f1,rfl⟩:=k1.opN;refine G.l (ι:=Nat×List (Value×List Value)×(Option Addr×Nat)) (fun i=>[(1,iV cols),(4,.p 0 0),(5,.p 1002 0),(11,sV a n c),(12,iV n),(13,iV i.1)])
  (fun i=>[(0,⟨222,[sV none 0 0,sV none 0 0,bV false,sV none 0 0,bV false]⟩),(1002,⟨222,[sV i.2.2.1 i.1 i.2.2.2,sV none 0 0,bV f1.b,sV f1.a f1.n f1.c,bV false]⟩)])
  (fun i u' m'=>i.1<=n/\NAt u' i.2.1 (X.take i.1)/\Bag m' (oN (.slice i.2.2.1 i.1 i.2.2.2) i.2.1::i.2.1.map Aqj)) (fun i=>n-i.1) (0,[],(none,0))
  ⟨A1m _,⟨rfl,fun i r h=>by simp at h⟩,PH.mt,Ae.nil _ _ _,trivial⟩ ?_
 rintro J ⟨i,rows,⟨ra,rc⟩⟩ hJ u2 m2 l2 ⟨hi,hQ,hbag⟩;simp only at hi hQ hbag hJ;have hrl:rows.length=i:=by rw[hQ.1,A00];omega
 by_cases hlt:i<n
 ·refine G.lT (i:Int) (n:Int) ?_;have hxi:X[i]?=some X[i]:=A0n oV;have hwi:X[i].length=w:=by have:=hX.2 i hlt;rwa[Ar7 oV]at this
  obtain⟨b,o,e,rfl,h3,f3⟩:=LP.at (hM.mono (l1.trans l2)) hxi;obtain⟨es,hes,hat⟩:=f3;obtain⟨a4,c4,rfl⟩:=hes.opn;have hel:es.length=w:=by rw[hat.1,hwi]
  rw[hel]at hes h3;refine G.a b o n c i 1 hlt ?_;refine G.lU none b (o+i*1) (.slice a4 w c4) h3 ?_;refine G.appendZ 114 2 32 (.agg #[.bool false,.slice none 0 0]) es a4 w c4 kV rfl rfl oV hes hat.ok2 hel oV oV ?_;intro a5 c5 m5 hA5;refine G.B 220 1 24 (.slice none 0 0) [.slice a5 w c5] (Gt _ _ _) ?_;intro g6 u6 l6 e6;have hb5:Bag m5 (Aqj (.slice a5 w c5,es)::oN (.slice ra i rc) rows::rows.map Aqj):=⟨m2,hA5,hbag⟩;obtain⟨m0,hx0,hput⟩:=hb5.focus 1 rfl;rw[Aup]at hx0;refine G.k 220 1 24 (.slice none 0 0) m0 (rows.map (·.1)) [.slice a5 w c5] (.slice ra i rc) g6 0 1 1 hx0 e6 (Gt _ _ _) ?_;intro v7 m7 hA7;obtain⟨a7,c7,rfl⟩:=hA7.shape;have e7:rows.map (·.1)++[A06 a5 w c5]=(rows++[(A06 a5 w c5,es)]).map (·.1):=mV
  rw[e7]at hA7⊢;have el:((rows++[(A06 a5 w c5,es)]).map (·.1)).length=i+1:=by simp[hrl]
  rw[el]at hA7⊢;have hb7:=hput (oN (.slice a7 (i+1) c7) (rows++[(A06 a5 w c5,es)])) m7 hA7;have hb8:Bag m7 (oN (.slice a7 (i+1) c7) (rows++[(A06 a5 w c5,es)])::(rows++[(A06 a5 w c5,es)]).map Aqj):=by
   refine Bag.perm ?_ hb7;rw[A07];exact (A4s _ _ _).trans (A42 _ (A72 (l₁:=[Aqj (A06 a5 w c5,es)])))
  refine G.i i ?_;refine G.b (hJ (i+1,rows++[(A06 a5 w c5,es)],(a7,c7)) _ _ _ cV (l2.trans l6) ⟨dV,?_,hb8⟩ dV);dsimp only;rw[A1c,hxi];exact (hQ.mono l6).snoc (q:=X[i]) (hat.mono fun _ _ k=>k.mono l6)
 obtain rfl:i=n:=oV
 rw[List.take_of_length_le oV]at hQ;refine G.lF (i:Int) (i:Int) ?_;obtain⟨go,co,eo⟩:=hbag.ptr 0 rfl (by intro e;simp only[oN,List.map_eq_nil_iff]at e;rw[e]at hrl;simp at hrl;omega);simp only[oN,A0p,hrl,A09,true_and]at eo;obtain⟨rfl,rfl⟩:=eo;clear hJ;refine G.pub 1002 222 (Aqn (.slice (some ⟨go,0,none⟩) i rc) (.slice none 0 0) f1 false) kV kV ?_;intro g hgu hgm;have hb0:Bag (m2.upd g (.cells (Aqn (.slice (some ⟨go,0,none⟩) i rc) (.slice none 0 0) f1 false).toArray 222 (0,0))) (Aq4 g (Aqn (.slice (some ⟨go,0,none⟩) i rc) (.slice none 0 0) f1 false)::Xz (.slice none 0 0) []::oN (.slice (some ⟨go,0,none⟩) i rc) rows::rows.map Aqj) :=
  ⟨m2,Auk hgm,m2,Ae.nil _ _ _,hbag⟩
 refine G.l (ι:=Nat×List (Value×List Value)×(Option Addr×Nat)×N3×BZ) (fun i=>[(1,iV cols),(4,.p 0 0),(5,.v (.pointer (some ⟨g,0,none⟩))),(8,iV i.1)])
  (fun i=>[(0,⟨222,[sV none 0 0,sV none 0 0,bV false,sV none 0 0,bV false]⟩)])
  (fun k u' m'=>k.1<=cols/\Aq0 i (cols-k.1) k.1 k.2.2.2.2=Aq0 i cols 0 ⟨X,[],1,false⟩/\Aqv i w k.2.2.2.2.X/\SzZ k.2.2.2.2.X (zs E k.1)/\nl k.2.2.2.2.v.natAbs<=zs E k.1/\k.2.2.2.2.v≠0/\k.2.2.2.2.P.length<=i/\NAt u' k.2.1 k.2.2.2.2.X/\Cb u' (nv k.2.2.2.1) k.2.2.2.2.v /\
   Bag m' (Aq4 g (Aqn (.slice (some ⟨go,0,none⟩) i rc) (.slice k.2.2.1.1 k.2.2.2.2.P.length k.2.2.1.2) k.2.2.2.1 k.2.2.2.2.odd)::Xz (.slice k.2.2.1.1 k.2.2.2.2.P.length k.2.2.1.2) k.2.2.2.2.P::oN (.slice (some ⟨go,0,none⟩) i rc) k.2.1::k.2.1.map Aqj)) (fun k=>cols-k.1)
  (0,rows,(none,0),f1,⟨X,[],1,false⟩) ⟨A1m _,rfl,hX,hsz,A0q (nl1 (n:=1) oV) hE1,Int.one_ne_zero,A1m _,hQ,k1.mono l2,hb0⟩ ?_
 clear hb0 hbag hQ hrl;rintro J ⟨k,rows,⟨pa,pc⟩,f,s⟩ hJ u3 m3 l3 ⟨hk,hgo,hR,hS,hvs,hv0,hPl,hQ,hv,hbag⟩;simp only at hk hgo hR hS hvs hv0 hPl hQ hv hbag hJ;by_cases hlt:k<cols
 ·refine G.lT (k:Int) (cols:Int) ?_;have hz:zs E (k+1)<=1000000000:=A0q (Ay8 E (show k+1<=cols by omega)) hE;have hz1:zs E (k+1)=2*zs E k+2:=rfl;obtain⟨q1,q2,q3,q4,q5⟩:=Av5 (c:=k) hS hvs hR hPl;refine G.A call218 (Aza (c:=k) (E:=zs E k) hR hn hw oV hPl h0 hS hv hvs hv0 oV hQ hbag) ?_;rintro v4 u4 m4 l4 ⟨rfl,pa',pc',f',rows',hQ',hv',hbag'⟩ _;rw[C2];refine G.i k ?_;refine G.b (hJ (k+1,rows',(pa',pc'),f',Aq1 i k s) _ _ _ cV (l3.trans l4) ⟨dV,?_,q3,q1.mono dV,A0q q2 dV,q5 hv0,q4,hQ',hv',hbag'⟩ dV);dsimp only;obtain⟨K,hK⟩:∃ K,cols-k=K+1:=⟨cols-k-1,oV⟩;rw[<-hgo,hK,Aq0,show cols-(k+1)=K by omega]
 obtain rfl:k=cols:=oV
 refine G.lF (k:Int) (k:Int) ?_;rw[A45,Aq0]at hgo;rw[<-hgo];refine G.lM (some 5) g 0 (.agg #[.slice (some ⟨go,0,none⟩) i rc,.slice pa s.P.length pc,.bool f.b,.slice f.a f.n f.c,.bool s.odd]) (Ayy hbag rfl rfl) ?_;refine G.giveP (ma:=m3) (sm:=PH.mt) kV (by funext g;unfold PH.or;cases m3 g<;>rfl) (fun g=>.inr rfl) (fun g=>.inl rfl) ?_
 intro u6 l6 hm6;exact G.r (.agg #[.slice (some ⟨go,0,none⟩) i rc,.slice pa s.P.length pc,.bool f.b,.slice f.a f.n f.c,.bool s.odd]) ⟨rfl,_,rc,pa,pc,f,rfl,Aub hbag (hQ.mono l6) hm6,hv.mono l6⟩
end
section
theorem Aya {u:PH}{v:Value}{A:List (List Rat)}{L:Nat}(h:N7 u v (Jx A))(hT:∀ r∈A,∀ q∈r,Tx q)(hl:A.length<=1000000)(hl2:∀ r∈A,r.length<=1000000)(hL:∀ r∈A,∀ q∈r,q.den ∣ L)(hL0:0<L)(hLs:nl L<=1000000000) :
 Ai prog 150 [v] u PH.mt fun v' u' m'=>∃ D f a5 c5 rows,0<D/\D ∣ L/\(∀ r∈A,∀ q∈r,q.den ∣ D)/\v'=.agg #[.bool f.b,.slice f.a f.n f.c,.slice a5 A.length c5]/\Cb u' (nv f) (D:Int)/\NAt u' rows (A.map (Q4 D))/\Bag m' (oN (.slice a5 A.length c5) rows::rows.map Aqj):=by
 obtain⟨a,c,rfl⟩:=h.opn;rw[If]at h⊢;have hDs:∀ D:Nat,D ∣ L->nl (D:Int).natAbs<=1000000000:=fun D hD=>A0q (C6 (Nat.le_of_dvd hL0 hD)) hLs;refine Ai.o func150 ?_;refine G.c call177 (Tz (z:=1) oV oV) ?_;intro v1 u1 l1 k1;obtain⟨b1,a1,n1,c1,rfl⟩:=k1.opn;refine G.l (ι:=Nat×List Value×(Option Addr×Nat×Nat)×DI)
  (fun i=>[(2,.p 0 0),(3,.p 1002 0),(4,sV i.2.2.1.1 i.2.2.1.2.1 i.2.2.1.2.2),(19,sV a A.length c),(20,iV A.length),(21,iV i.1)])
  (fun i=>[(0,⟨218,[bV false,sV none 0 0,sV none 0 0]⟩),(1002,⟨218,[bV i.2.2.2.b,sV i.2.2.2.a i.2.2.2.n i.2.2.2.c,sV none 0 0]⟩)])
  (fun i u' m'=>i.1<=A.length/\AtP M6 u' i.2.1 (A.take i.1)/\Ae PH.mt m' (.slice i.2.2.1.1 i.2.2.1.2.1 i.2.2.1.2.2) 124 1 i.2.1/\As7 u' i.2.2.2 L/\∀ r∈A.take i.1,∀ q∈r,q.den ∣ i.2.2.2.D)
  (fun i=>A.length-i.1) (0,[],(none,0,0),⟨b1,a1,n1,c1,1⟩)
  ⟨A1m _,AtP.nil,Ae.nil _ _ _,⟨k1,Nat.one_pos,Nat.one_dvd _⟩,fun r hr=>by simp at hr⟩ ?_
 rintro J ⟨k,Aae,⟨a2,n2,c2⟩,⟨db,da,dn,dc,D⟩⟩ hJ u2 m2 l2 ⟨hk,hF,hA,hD,hdv⟩;simp only at hk hF hA hD hdv hJ;have hel:=hF.1;rw[A00]at hel;by_cases hlt:k<A.length
 ·refine G.lT (k:Int) (A.length:Int) ?_;have htk:A[k]?=some A[k]:=A0n hlt;have hmem:=A04 hlt;obtain⟨ba,oa,a3,c3,rfl,e3,s3⟩:=(h.mono (l1.trans l2)).row (Gj htk);rw[A0p]at e3 s3;refine G.a ba oa A.length c k 1 oV ?_;refine G.lU none ba (oa+k*1) _ e3 ?_;refine G.c call117 (Aep s3 (hT _ hmem) (hl2 _ hmem)) ?_;intro v4 u4 l4 k4;obtain⟨a4,c4,rfl⟩:=k4.lp.opn;refine G.l (ι:=Nat×DI)
   (fun i=>[(2,.p 0 0),(3,.p 1002 0),(4,sV a2 n2 c2),(19,sV (some ⟨ba,oa,none⟩) A.length c),(20,iV A.length),(21,iV k),(7,sV a4 A[k].length c4),(27,sV a4 A[k].length c4),(28,iV (A[k].length)),(29,iV i.1)])
   (fun i=>[(0,⟨218,[bV false,sV none 0 0,sV none 0 0]⟩),(1002,⟨218,[bV i.2.b,sV i.2.a i.2.n i.2.c,sV none 0 0]⟩)])
   (fun i u' m'=>i.1<=A[k].length/\m'=m2/\As7 u' i.2 L/\(∀ r∈A.take k,∀ q∈r,q.den ∣ i.2.D)/\∀ q∈A[k].take i.1,q.den ∣ i.2.D)
   (fun i=>A[k].length-i.1) (0,⟨db,da,dn,dc,D⟩)
   ⟨A1m _,rfl,hD.mono l4,hdv,fun q hq=>by simp at hq⟩ ?_
  rintro J2 ⟨j,⟨eb,ea,en,ec,E⟩⟩ hJ2 u5 m5 l5 ⟨hj,rfl,hE,hev,hrv⟩;simp only at hj hE hev hrv hJ2;by_cases hlt2:j<A[k].length
  ·refine G.lT (j:Int) (A[k].length:Int) ?_;have hqj:A[k][j]?=some A[k][j]:=A0n hlt2;have hqm:=A04 hlt2;have htx:=hT _ hmem _ hqm;obtain⟨b6,o6,e6,rfl,h6,f6⟩:=(k4.mono l5).lp.at hqj;obtain⟨x1,x2,x3,x4,x5,x6,x7,x8,rfl⟩:=f6.opn;refine G.a b6 o6 A[k].length c4 j 4 hlt2 ?_;refine G.lU (some 4) b6 (o6+j*4) _ h6 ?_;refine G.c call216 (Asl f6) ?_;intro v7 u7 l7 k7;obtain⟨b7,a7,n7,c7,rfl⟩:=k7.opn;refine G.c call215 (Av4 ((hE.mono l7).1) k7 (A0q (hDs _ hE.2.2) oV) (A0q (Ms htx.den) oV) (by have:=hE.2.1;dsimp only at this⊢;omega)) ?_;intro v8 u8 l8 k8;rw[Ax4]at k8;obtain⟨b8,a8,n8,c8,rfl⟩:=k8.opn;refine G.add (j:Int) 1 ((j+1:Nat):Int) kV oV oV (by have:=hl2 _ hmem;omega) ?_;refine G.b (hJ2 (j+1,⟨b8,a8,n8,c8,Nat.lcm E A[k][j].den⟩) _ _ _ cV ((l5.trans l7).trans l8) ⟨dV,rfl,⟨k8,?_,?_⟩,?_,?_⟩ dV)
   ·have:=hE.2.1;simp only at this⊢;exact Nat.lcm_pos this (A[k][j]).den_pos
   ·exact Nat.lcm_dvd hE.2.2 (hL _ hmem _ hqm)
   ·exact fun r hr q hq=>A8v (hev r hr q hq) (A7v _ _)
   ·intro q hq;dsimp only at hq⊢;rw[A1c,hqj]at hq;rcases A01.1 hq with hq|hq
    ·exact A8v (hrv q hq) (A7v _ _)
    ·simp at hq;subst hq;exact Nat.dvd_lcm_right _ _
  ·have:j=A[k].length:=oV
   subst this;rw[A1k]at hrv;refine G.lF (A[k].length:Int) (A[k].length:Int) ?_;refine G.B 124 1 24 (.slice none 0 0) [.slice a4 A[k].length c4] (Gt _ _ _) ?_;intro g6 u6 l6 e6;refine G.append 124 1 24 (.slice none 0 0) PH.mt Aae [.slice a4 A[k].length c4] (.slice a2 n2 c2) g6 0 1 1 kV rfl rfl oV hA e6 (Gt _ _ _) rfl oV oV oV ?_;intro v7 m7 hA7;obtain⟨a7,c7,rfl⟩:=hA7.shape;refine G.i k ?_;refine G.b (hJ (k+1,Aae++[A06 a4 A[k].length c4],(a7,(Aae++[A06 a4 A[k].length c4]).length,c7),⟨eb,ea,en,ec,E⟩) _ _ _ cV (((l2.trans l4).trans l5).trans l6) ⟨dV,?_,hA7,hE.mono l6,?_⟩ dV)
   ·dsimp only;rw[A1c,htk];exact (hF.mono (fun _ _ h=>h.mono ((l4.trans l5).trans l6))).snoc (k4.mono (l5.trans l6))
   ·intro r hr;dsimp only at hr⊢;rw[A1c,htk]at hr;rcases A01.1 hr with hr|hr
    ·exact hev r hr
    ·simp at hr;subst hr;exact hrv
 ·have:k=A.length:=oV
  subst this;rw[A1k]at hF hdv;refine G.lF (A.length:Int) (A.length:Int) ?_;refine G.give PH.mt Aae _ kV hA (fun _=>.inl rfl) ?_;intro u3 l3 hL3;have hlv:Aae.length=A.length:=by rw[hF.1]
  obtain⟨_,_,e0⟩:=hL3.opn;simp only[A09]at e0;obtain⟨rfl,rfl,rfl⟩:=e0;rw[hlv]at hL3⊢;have hFM:Aui u3 (.slice a2 A.length c2) A:=⟨Aae,hL3,hF.mono (fun _ _ h=>h.mono l3)⟩;refine G.l (ι:=Nat×List (Value×List Value)×(Option Addr×Nat))
   (fun i=>[(2,.p 0 0),(3,.p 1002 0),(45,sV a2 A.length c2),(46,iV A.length),(47,iV i.1)])
   (fun i=>[(0,⟨218,[bV false,sV none 0 0,sV none 0 0]⟩),(1002,⟨218,[bV db,sV da dn dc,sV i.2.2.1 i.1 i.2.2.2]⟩)])
   (fun i u' m'=>i.1<=A.length/\NAt u' i.2.1 ((A.take i.1).map (Q4 D))/\Bag m' (oN (.slice i.2.2.1 i.1 i.2.2.2) i.2.1::i.2.1.map Aqj))
   (fun i=>A.length-i.1) (0,[],(none,0))
   ⟨A1m _,⟨rfl,fun i r h=>by simp at h⟩,PH.mt,Ae.nil _ _ _,trivial⟩ ?_
  rintro J2 ⟨k,cv,⟨a5,c5⟩⟩ hJ2 u5 m5 l5 ⟨hk5,hN,hA5⟩;simp only at hk5 hN hA5 hJ2;have hel5:=hN.1;rw[A0p,A00]at hel5;by_cases hlt:k<A.length
  ·refine G.lT (k:Int) (A.length:Int) ?_;have htk:A[k]?=some A[k]:=A0n hlt;have hmem:=A04 hlt;have hrl:=hl2 _ hmem;obtain⟨b6,o6,e6,rfl,h6,f6⟩:=LP.at (hFM.mono l5) htk;obtain⟨a7,c7,rfl⟩:=f6.lp.opn;refine G.a b6 o6 A.length c2 k 1 oV ?_;refine G.lU none b6 (o6+k*1) _ h6 ?_;refine G.make 114 2 32 (.agg #[.bool false,.slice none 0 0]) A[k].length kV rfl rfl oV oV oV ?_;rintro v8 m8 hA8 ⟨a8,rfl⟩;obtain⟨g8,rfl,hg8⟩:=hA8.some';refine G.l (ι:=Nat×List Value)
    (fun i=>[(2,.p 0 0),(3,.p 1002 0),(45,sV (some ⟨b6,o6,none⟩) A.length c2),(46,iV A.length),(47,iV k),(12,sV (some ⟨g8,0,none⟩) A[k].length A[k].length),(54,sV a7 A[k].length c7),(55,iV (A[k].length)),(56,iV i.1)])
    (fun i=>[(0,⟨218,[bV false,sV none 0 0,sV none 0 0]⟩),(1002,⟨218,[bV db,sV da dn dc,sV a5 k c5]⟩)])
    (fun i u' m'=>i.1<=A[k].length/\AtP Cb u' i.2 (Q4 D (A[k].take i.1))/\Ae m5 m' (.slice (some ⟨g8,0,none⟩) A[k].length A[k].length) 114 2 (i.2++A0x (A[k].length-i.1) (.agg #[.bool false,.slice none 0 0])))
    (fun i=>A[k].length-i.1) (0,[])
    ⟨A1m _,AtP.nil,by simpa using hA8⟩ ?_
   rintro J3 ⟨j,done⟩ hJ3 u9 m9 l9 ⟨hj9,hN9,hA9⟩;simp only at hj9 hN9 hA9 hJ3;have hel9:=hN9.1;rw[Q4,A0p,A00]at hel9;by_cases hlt2:j<A[k].length
   ·refine G.lT (j:Int) (A[k].length:Int) ?_;have hqj:A[k][j]?=some A[k][j]:=A0n hlt2;have hqm:=A04 hlt2;have htx:=hT _ hmem _ hqm;have hq0:=(A[k][j]).den_pos;obtain⟨b10,o10,e10,rfl,h10,f10⟩:=(f6.mono l9).lp.at hqj;obtain⟨x1,x2,x3,x4,x5,x6,x7,x8,rfl⟩:=f10.opn;refine G.a b10 o10 A[k].length c7 j 4 hlt2 ?_;refine G.lU (some 4) b10 (o10+j*4) _ h10 ?_;refine G.c call216 (Asl f10) ?_;intro v11 u11 l11 k11;obtain⟨b11,a11,n11,c11,rfl⟩:=k11.opn;refine G.c call196 (Ael ((hD.mono (((l3.trans l5).trans l9).trans l11)).1) k11 (A0q (hDs _ hD.2.2) oV) (A0q (Ms htx.den) oV) oV) ?_;rintro v12 u12 l12 ⟨v13,v14,rfl,k13,k14⟩;obtain⟨b13,a13,n13,c13,rfl⟩:=k13.opn;obtain⟨b14,a14,n14,c14,rfl⟩:=k14.opn;refine G.c call217 (Auq (f10.mono (l11.trans l12))) ?_;intro v15 u15 l15 k15;obtain⟨b15,a15,n15,c15,rfl⟩:=k15.opn;have hdq:((D:Int)/(A[k][j].den:Int))=((D/A[k][j].den:Nat):Int):=by push_cast;rfl
    rw[hdq]at k13;refine G.c call121 (Gg k15 (k13.mono l15) (A0q (Ms htx.1) oV) (by rw[Int.natAbs_natCast];exact A0q (Asr _ _) (A0q (hDs _ hD.2.2) oV))) ?_;intro v16 u16 l16 k16;obtain⟨b16,a16,n16,c16,rfl⟩:=k16.opn;refine G.a g8 0 A[k].length A[k].length j 2 hlt2 ?_;refine G.storeA 2 m5 _ g8 A[k].length A[k].length j (.agg #[.bool b16,.slice a16 n16 c16]) kV hA9 gV rfl rfl ?_;intro m17 hA17;rw[Auw oV hlt2]at hA17;refine G.i j ?_;refine G.b (hJ3 (j+1,done++[.agg #[.bool b16,.slice a16 n16 c16]]) _ _ _ cV ((((l9.trans l11).trans l12).trans l15).trans l16) ⟨dV,?_,hA17⟩ dV);dsimp only;rw[A1c,hqj,Q4,A07];exact (hN9.mono (fun _ _ h=>h.mono (((l11.trans l12).trans l15).trans l16))).snoc k16
   ·have:j=A[k].length:=oV
    subst this;rw[A1k]at hN9;rw[A45,List.replicate_zero,A1i]at hA9;refine G.lF (A[k].length:Int) (A[k].length:Int) ?_;have hdl:done.length=A[k].length:=oV
    refine G.B 220 1 24 (.slice none 0 0) [.slice (some ⟨g8,0,none⟩) A[k].length A[k].length] (Gt _ _ _) ?_;intro g11 u11 l11 e11;have hb9:Bag m9 (Aqj (.slice (some ⟨g8,0,none⟩) A[k].length A[k].length,done)::oN (.slice a5 k c5) cv::cv.map Aqj):=⟨m5,hA9,hA5⟩;obtain⟨m0,hx0,hput⟩:=hb9.focus 1 rfl;rw[Aup]at hx0;have hcl:(cv.map (·.1)).length=k:=by rw[A0p,hel5];omega
    refine G.append 220 1 24 (.slice none 0 0) m0 (cv.map (·.1)) [.slice (some ⟨g8,0,none⟩) A[k].length A[k].length] (.slice a5 k c5) g11 0 1 1 kV rfl rfl oV hx0 e11 (Gt _ _ _) rfl oV oV oV ?_;intro v12 m12 hA12;obtain⟨a12,c12,rfl⟩:=hA12.shape;have e7:cv.map (·.1)++[A06 (some ⟨g8,0,none⟩) A[k].length A[k].length]=(cv++[(A06 (some ⟨g8,0,none⟩) A[k].length A[k].length,done)]).map (·.1):=mV
    rw[e7]at hA12⊢;have el:((cv++[(A06 (some ⟨g8,0,none⟩) A[k].length A[k].length,done)]).map (·.1)).length=k+1:=by rw[<-e7,List.length_append,hcl];rfl
    rw[el]at hA12⊢;have hb7:=hput (oN (.slice a12 (k+1) c12) (cv++[(A06 (some ⟨g8,0,none⟩) A[k].length A[k].length,done)])) m12 hA12;have hb8:Bag m12 (oN (.slice a12 (k+1) c12) (cv++[(A06 (some ⟨g8,0,none⟩) A[k].length A[k].length,done)])::(cv++[(A06 (some ⟨g8,0,none⟩) A[k].length A[k].length,done)]).map Aqj):=by
     refine Bag.perm ?_ hb7;rw[A07];exact (A4s _ _ _).trans (A42 _ (A72 (l₁:=[Aqj (A06 (some ⟨g8,0,none⟩) A[k].length A[k].length,done)])))
    refine G.i k ?_;refine G.b (hJ2 (k+1,cv++[(A06 (some ⟨g8,0,none⟩) A[k].length A[k].length,done)],(a12,c12)) _ _ _ cV ((l5.trans l9).trans l11) ⟨dV,?_,hb8⟩ dV);dsimp only;rw[A1c,htk,A07];exact (hN.mono (l9.trans l11)).snoc (q:=Q4 D A[k]) (hN9.mono (fun _ _ h=>h.mono l11))
  ·have:k=A.length:=oV
   subst this;rw[A1k]at hN;refine G.lF (A.length:Int) (A.length:Int) ?_;exact G.r (.agg #[.bool db,.slice da dn dc,.slice a5 A.length c5]) ⟨D,⟨db,da,dn,dc⟩,a5,c5,cv,hD.2.1,hD.2.2,hdv,rfl,(hD.mono (l3.trans l5)).1,hN,hA5⟩
end
section
section
variable {P:Program}
theorem Aa0 {t e ti ts:TypeId}{k:IntKind}(ht:P.underlying t=some (.array 2 e))(hi:(P.info? e).isSome=true)(hc:P.cellsOf e=2)(hsz:szB P e=some 2)
 (hf':(P.fieldsOf e).toList.map Kk = [(true,ti,0),(true,ts,1)]) (ht':P.underlying e=some (.struct (P.fieldsOf e))) (hp':P.stoodInHeld e=false) (hti:P.underlying ti=some (.int k)) (hs:P.underlying ts=some .string) (d:Nat) (a b:Par×Par) (w:World) :
 (Op.equalIn (d+3) t (prV a) (prV b)).run P w=.ok (decide (a=b)) w:=by
 have hag:Jr P e=some true:=by unfold Jr;rw[ht']
 obtain⟨i,hi⟩:=Option.isSome_iff_exists.1 hi;unfold prV;rw[run_equalIn_array w (d+2) _ _ ht hi,hc];obtain⟨⟨a1,a2⟩,a3,a4⟩:=a;obtain⟨⟨b1,b2⟩,b3,b4⟩:=b;rw[show A1q 2 = [0,1] from rfl];simp only[Op.eqItems,A1n,A4p,A3d];rw[Cw hag hsz,A0y,Cw hag hsz,A0y];have q1:=Aqx hf' ht' hp' hti hs d (a1,a2) (b1,b2) w;have q2:=Aqx hf' ht' hp' hti hs d (a3,a4) (b3,b4) w;unfold An at q1 q2;have x1:(#[A15 .i64 a1,.string (mkS a2),.int .i64 a3,.string (mkS a4)].extract 0 (0+2)) = #[.int .i64 a1,.string (mkS a2)]:=rfl;have x2:(#[A15 .i64 b1,.string (mkS b2),.int .i64 b3,.string (mkS b4)].extract 0 (0+2)) = #[.int .i64 b1,.string (mkS b2)]:=rfl;have x3:(#[A15 .i64 a1,.string (mkS a2),.int .i64 a3,.string (mkS a4)].extract 2 (2+2)) = #[.int .i64 a3,.string (mkS a4)]:=rfl;have x4:(#[A15 .i64 b1,.string (mkS b2),.int .i64 b3,.string (mkS b4)].extract 2 (2+2)) = #[.int .i64 b3,.string (mkS b4)]:=rfl;simp only[x1,x2,q1,A0y];by_cases e:((a1,a2):Par)=(b1,b2)
 ·simp only[e,decide_true,Bool.not_true,A3c,if_false,A1n];rw[Cw hag hsz,A0y,Cw hag hsz,A0y];simp only[x3,x4,q2,A0y];by_cases e':((a3,a4):Par)=(b3,b4)
  ·simp[e']
  ·simp[e']
 ·simp[e]
theorem Zg {t e ti ts:TypeId}{k:IntKind}(ht:P.underlying t=some (.array 2 e))(hsz:szB P e=some 2)
 (hf':(P.fieldsOf e).toList.map Kk = [(true,ti,0),(true,ts,1)]) (ht':P.underlying e=some (.struct (P.fieldsOf e))) (hti:P.underlying ti=some (.int k)) (hs:P.underlying ts=some .string) (emp:Bool) (d:Nat) (a:Par×Par) (w:World) :
 (A43 emp (d+3) t (prV a)).run P w=.ok () w:=by
 have hag:Jr P e=some true:=by unfold Jr;rw[ht']
 unfold prV;rw[A43];simp only[A1n,run_underlying ht,A0y];have q1:=Gp hf' ht' hti hs emp d a.1 w;have q2:=Gp hf' ht' hti hs emp d a.2 w;unfold An at q1 q2;have x1:(#[A15 .i64 a.1.1,.string (mkS a.1.2),.int .i64 a.2.1,.string (mkS a.2.2)].extract 0 (0+2)) = #[.int .i64 a.1.1,.string (mkS a.1.2)]:=rfl;have x2:(#[A15 .i64 a.1.1,.string (mkS a.1.2),.int .i64 a.2.1,.string (mkS a.2.2)].extract 2 (2+2)) = #[.int .i64 a.2.1,.string (mkS a.2.2)]:=rfl;simp only[Std.Legacy.Range.forIn_eq_forIn_range',Std.Legacy.Range.size,Nat.sub_zero,Nat.add_one_sub_one,Nat.div_one,show List.range' 0 2 1 = [0,1] from rfl,List.forIn_cons,List.forIn_nil,A1n,Bf hsz,A0y,A4p,A3d];rw[Cw hag hsz,A0y,x1,q1];simp only[A0y,Sem.run_pure,A1n,Bf hsz,A3d];rw[Cw hag hsz,A0y,x2,q2];simp
end
theorem G1:Rr prog 206 prV :=
 ⟨fun a b w=>Aa0 (P:=prog) (t:=206) (e:=79) (ti:=3) (ts:=9) (k:=.i64) kV kV kV kV kV kV kV kV kV 9997 a b w,
  ⟨_,(by kernel_rfl:prog.underlying 206=some (.array 2 79)),.inl fun _ _=>rfl⟩,
  fun e a w=>Zg (P:=prog) (t:=206) (e:=79) (ti:=3) (ts:=9) (k:=.i64) kV kV kV kV kV kV e 9997 a w,Adq,Adl⟩
end
section
theorem pw {n:Nat}(h:n<10^30):n<10^100:=Nat.lt_of_lt_of_le h jV
end
section
end
section
variable {p q:Par}
theorem Ako (h:p.1<q.1):A8 p q<0:=by
 have e:Na p.1 q.1 = -1:=by unfold Na;rw[if_pos h]
 unfold A8;rw[e,if_pos fV];decide
theorem Alr (h:¬ p.1<q.1)(h':p.1≠q.1):¬ A8 p q<0:=by
 have e:Na p.1 q.1=1:=by unfold Na;rw[if_neg h,if_pos oV]
 unfold A8;rw[e,if_pos fV];decide
theorem Akt (h:p.1=q.1):decide (A8 p q<0)=Op.bytesLess p.2 q.2:=by
 have e:Na p.1 q.1=0:=by unfold Na;rw[if_neg oV,if_neg oV]
 unfold A8;rw[e,if_neg fV];unfold Qp;cases Op.bytesLess p.2 q.2 with
 |true=>rfl
 |false =>
  simp only[A3c,if_false];split<;>rfl
theorem Dq {u:PH}(p q:Par)(r:Bool)(h:decide (A8 p q<0)=r):Fn0 prog 93 [An p,An q] u fun v _=>v=.bool r:=by
 refine Fn0.o func93 ?_;by_cases h1:p.1<q.1
 ·refine G.lT' p.1 q.1 h1 ?_;rw[decide_eq_true (Ako h1)]at h;subst h;exact G.r (.bool true) ⟨rfl,rfl⟩
 ·refine G.lF' p.1 q.1 h1 ?_;by_cases h2:p.1=q.1
  ·rw[Akt h2]at h;refine G.eT' p.1 q.1 h2 ?_;refine G.ltS p.2 q.2 r kV h ?_;cases r with
   |true=>exact G.r (.bool true) ⟨rfl,rfl⟩
   |false=>exact G.r (.bool false) ⟨rfl,rfl⟩
  ·rw[decide_eq_false (Alr h1 h2)]at h;subst h;refine G.eF' p.1 q.1 h2 ?_;exact G.r (.bool false) ⟨rfl,rfl⟩
end
section
variable {F:CF}{N' g:Nat}{q:Rat}{v x:Value}{y1 y3:Bool}{y2 y4:SlI}
section
variable {P:Program} [Ba P] {fn:Func} {Post:B0} {st:List KI×S} {u m:PH}
theorem Abm {env:Operand->Value}{o:Op}{t:TypeId}{L:List (Nat×Value)}(h:A7 P env o=.build t L):∃ ps:Array (Nat×Operand),o=.build t ps/\ps.toList.map (fun x=>(x.1,env x.2))=L:=by
 cases o<;>simp only[A7]at h<;>try cases h
 any_goals ((repeat' split at h)<;>cases h;done)
 ·exact⟨_,rfl,rfl⟩
theorem G.buildArr (t e:TypeId)(p q:Par)(h:Al P (adv P st)=.build t [(0,An p),(1,An q)])(hu:P.underlying t=some (.array 2 e))(hs:szB P e=some 2)(hz:U8 P t=some (.agg #[.int .i64 0,.string (mkS []),.int .i64 0,.string (mkS [])]))
 (k:G P fn Post (nx (adv P st) (.agg #[.int .i64 p.1,.string (mkS p.2),.int .i64 q.1,.string (mkS q.2)])) u m):G P fn Post st u m:=by
 refine G.ask h mV (fun env o hview w hp=>?_) k;obtain⟨ps,e1,e2⟩:=Abm hview;obtain⟨dst,opp,type,pos,after,guard⟩:=o;simp only at e1;subst e1;have e3:(ps.map fun x=>(x.1,env x.2)).toList = [(0,An p),(1,An q)]:=by rw[Array.toList_map];exact e2
 simp only[execOp,Instr.build,A1n,U3 hz,A0y,run_underlying hu,Bf hs,e3];rfl
end
def C5 {κ:Type}(enc:κ->Value)(K:κ->Prop)(u:PH)(o:Obj)(f:κ->Rat)(N:Nat):Prop :=
 ∃ l:List (κ×Value),Ec enc o l/\(∀ p∈l,QP u p.2 (f p.1)/\K p.1/\Sz (f p.1) 12)/\(∀ k,k∉l.map (·.1)->f k=0)/\l.length<=N
section
variable {κ:Type} [DecidableEq κ] {enc:κ->Value} {K:κ->Prop} {u:PH} {o:Obj} {f:κ->Rat} {N:Nat}
theorem C5.mono {u':PH}(h:C5 enc K u o f N)(hl:PH.le u u'):C5 enc K u' o f N:=by
 obtain⟨l,h1,h2,h3,h4⟩:=h;exact⟨l,h1,fun p hp=>⟨(h2 p hp).1.mono hl,(h2 p hp).2⟩,h3,h4⟩
theorem C5.up (h:C5 enc K u o f N)(hN:N<=N'):C5 enc K u o f N':=by
 obtain⟨l,h1,h2,h3,h4⟩:=h;exact⟨l,h1,h2,h3,A0q h4 hN⟩
theorem C5.congr {f':κ->Rat}(h:C5 enc K u o f N)(e:∀ k,f k=f' k):C5 enc K u o f' N:=by
 rw[<-funext e];exact h
theorem C5.empty:C5 enc K u (.map #[] 0) (fun _=>0) 0:=⟨[],Ec.empty,mV,fun _ _=>rfl,A0w _⟩
theorem C5.put {o':Obj}{a:κ}{x:Value}{q:Rat}{l:List (κ×Value)}(ho:Ec enc o l)(h2:∀ p∈l,QP u p.2 (f p.1)/\K p.1/\Sz (f p.1) 12)(h3:∀ k,k∉l.map (·.1)->f k=0)(h4:l.length<=N)
 (h':Ec enc o' (H5 a x l)) (hx:QP u x q) (hk:K a) (hs:Sz q 12):C5 enc K u o' (Hb f a q) (N+1):=by
 refine⟨_,h',fun p hp=>?_,fun k hk=>?_,A0q Lc oV⟩
 ·unfold Hb;rcases Ry ho.nodup hp with rfl|⟨hp,hne⟩
  ·simp only[if_true];exact⟨hx,hk,hs⟩
  ·rw[if_neg hne];exact h2 p hp
 ·rw[Pm,not_or]at hk;unfold Hb;rw[if_neg hk.1];exact h3 k hk.2
end
def KT {κ:Type}(_:κ):Prop:=True
def KO (k:Par×Par):Prop:=¬ 0<A8 k.1 k.2
theorem KO.pair (p q:Par):KO (Ap p q):=by
 unfold KO Ap;have h1:=Dp.sym p q;have h2:=Dp.sym q p;by_cases h:0<A8 p q
 ·rw[if_pos h];simp only;omega
 ·rw[if_neg h];exact h
def H6 (m' u:PH)(v:Value)(F:CF)(N:Nat):Prop :=
 ∃ b a n c b' a' n' c' g1 g2 o1 o2,v=.agg #[.bool b,.slice a n c,.bool b',.slice a' n' c',.map (some g1),.map (some g2)]/\QP u (.agg #[.bool b,.slice a n c,.bool b',.slice a' n' c']) F.c/\g1≠g2/\m'=(PH.mt.upd g1 o1).upd g2 o2/\C5 An KT u o1 F.s N/\C5 prV KO u o2 F.t N
def Ov (u:PH)(v:Value)(F:CF)(N:Nat):Prop :=
 ∃ b a n c b' a' n' c' g1 g2 o1 o2,v=.agg #[.bool b,.slice a n c,.bool b',.slice a' n' c',.map (some g1),.map (some g2)]/\QP u (.agg #[.bool b,.slice a n c,.bool b',.slice a' n' c']) F.c/\u g1=some o1/\u g2=some o2/\C5 An KT u o1 F.s N/\C5 prV KO u o2 F.t N
theorem Ov.mono {u u':PH}{v:Value}{F:CF}{N:Nat}(h:Ov u v F N)(hl:PH.le u u'):Ov u' v F N:=by
 obtain⟨b,a,n,c,b',a',n',c',g1,g2,o1,o2,e,h1,h2,h3,h4,h5⟩:=h;exact⟨b,a,n,c,b',a',n',c',g1,g2,o1,o2,e,h1.mono hl,hl _ _ h2,hl _ _ h3,h4.mono hl,h5.mono hl⟩
theorem H6.grow {m' u u':PH}{N:Nat}(h:H6 m' u v F N)(hl:PH.le u u'):H6 m' u' v F N:=by
 obtain⟨b,a,n,c,b',a',n',c',g1,g2,o1,o2,e,h1,h2,h3,h4,h5⟩:=h;exact⟨b,a,n,c,b',a',n',c',g1,g2,o1,o2,e,h1.mono hl,h2,h3,h4.mono hl,h5.mono hl⟩
theorem H6.give {m' u u':PH}{N:Nat}(h:H6 m' u v F N)(hl:PH.le u u')(hm:PH.le m' u'):Ov u' v F N:=by
 obtain⟨b,a,n,c,b',a',n',c',g1,g2,o1,o2,e,h1,h2,rfl,h4,h5⟩:=h;exact⟨b,a,n,c,b',a',n',c',g1,g2,o1,o2,e,h1.mono hl,hm _ _ (by rw[Ad _ _ h2,Ac]),hm _ _ (Ac _ _ _),h4.mono hl,h5.mono hl⟩
theorem H6.congr {m' u:PH}{F F':CF}{N N':Nat}(h:H6 m' u v F N)(e:F=F')(hN:N<=N'):H6 m' u v F' N':=by
 subst e;obtain⟨b,a,n,c,b',a',n',c',g1,g2,o1,o2,e,h1,h2,h3,h4,h5⟩:=h;exact⟨b,a,n,c,b',a',n',c',g1,g2,o1,o2,e,h1,h2,h3,h4.up hN,h5.up hN⟩
theorem No {u:PH}{N:Nat}(h:Ov u v F N):∃ b a n c b' a' n' c' g1 g2,v=.agg #[.bool b,.slice a n c,.bool b',.slice a' n' c',.map (some g1),.map (some g2)]:=by
 obtain⟨b,a,n,c,b',a',n',c',g1,g2,o1,o2,e,_⟩:=h;exact⟨b,a,n,c,b',a',n',c',g1,g2,e⟩
theorem Ln {m' u:PH}{N:Nat}(h:H6 m' u v F N):∃ b a n c b' a' n' c' g1 g2,v=.agg #[.bool b,.slice a n c,.bool b',.slice a' n' c',.map (some g1),.map (some g2)]:=by
 obtain⟨b,a,n,c,b',a',n',c',g1,g2,o1,o2,e,_⟩:=h;exact⟨b,a,n,c,b',a',n',c',g1,g2,e⟩
theorem Hi {u:PH}{n:Int}(h1:-9223372036854775807<=n)(h2:n<=9223372036854775807):Ai prog 63 [.int .i64 n] u PH.mt fun v u' m'=>H6 m' u' v ⟨(n:Rat),fun _=>0,fun _=>0⟩ 0:=by
 refine Ai.o func63 ?_;refine G.c call27 (Pq h1 h2) ?_;intro v1 u1 l1 k1;obtain⟨b,a,nn,c,a',n',c',rfl,_⟩:=k1.opn;refine G.mapMk kV ?_;intro g1 hm1 hu1;refine G.mapMk kV ?_;intro g2 hm2 hu2;have hne:g1≠g2:=fun e=>by subst e;rw[Ac]at hm2;cases hm2
 exact G.r (.agg #[.bool b,.slice a nn c,.bool false,.slice a' n' c',.map (some g1),.map (some g2)]) ⟨b,a,nn,c,false,a',n',c',g1,g2,_,_,rfl,k1,hne,rfl,C5.empty,C5.empty⟩
theorem Lp {u:PH}{g2:Option Nat}{o:Obj}{f:Par->Rat}{N:Nat}{a:Par}(h:C5 An KT u o f N)(hx:QP u x q)(hq:SB q)(hf:SB (f a))(hs:SB (q+f a)) :
 Ai prog 137 [.agg #[.bool y1,.slice y2.1 y2.2.1 y2.2.2,.bool y3,.slice y4.1 y4.2.1 y4.2.2,.map (some g),.map g2],An a,x] u (Qt g o) fun v u' m'=>∃ o',m'=Qt g o'/\C5 An KT u' o' (Hb f a (q+f a)) (N+1):=by
 obtain⟨l,ho,h2,h3,h4⟩:=id h;obtain⟨b,aa,n,c,a',n',c',rfl,_⟩:=hx.opn;refine Ai.o func137 ?_;cases hx':Fi a l with
 |none =>
  have hf0:f a=0:=h3 a (Fz.1 hx');have e0:q+f a=q:=by rw[hf0];grind
  rw[e0]at hs⊢;refine G.mapNot (et:=68) Bt fz g o l a kV kV (.inr (Cg _ _)) ho hx' ?_;refine G.mapPut (et:=68) Bt g o l a (.agg #[.bool b,.slice aa n c,.bool false,.slice a' n' c']) kV kV (Cg _ _) ho ?_;intro o' ho';exact G.r (.tuple #[]) ⟨o',Dh _ _ _ _,C5.put ho h2 h3 h4 ho' hx trivial hs.sz⟩
 |some xv =>
  obtain⟨hr,_,_⟩:=h2 _ (Hk hx');obtain⟨b1,a1,n1,c1,a1',n1',c1',rfl,_⟩:=hr.opn;refine G.mapHas (et:=68) Bt fz g o l a (.agg #[.bool b1,.slice a1 n1 c1,.bool false,.slice a1' n1' c1']) kV kV (.inr (Cg _ _)) ho hx' ?_;refine G.c call33 (Lw hx hr (hq.sz.mono oV) (hf.sz.mono oV)) ?_;intro v1 u1 l1 k1;obtain⟨b2,a2,n2,c2,a2',n2',c2',rfl,_⟩:=k1.opn;refine G.mapPut (et:=68) Bt g o l a (.agg #[.bool b2,.slice a2 n2 c2,.bool false,.slice a2' n2' c2']) kV kV (Cg _ _) ho ?_;intro o' ho';exact G.r (.tuple #[]) ⟨o',Dh _ _ _ _,C5.put ho (fun p hp=>⟨(h2 p hp).1.mono l1,(h2 p hp).2⟩) h3 h4 ho' k1 trivial hs.sz⟩
theorem F7 {u:PH}{g1:Option Nat}{o:Obj}{f:Par×Par->Rat}{N:Nat}{p r:Par}(h:C5 prV KO u o f N)(hx:QP u x q)(hq:SB q)(hf:SB (f (Ap p r)))(hs:SB (q+f (Ap p r))) :
 Ai prog 138 [.agg #[.bool y1,.slice y2.1 y2.2.1 y2.2.2,.bool y3,.slice y4.1 y4.2.1 y4.2.2,.map g1,.map (some g)],An p,An r,x] u (Qt g o) fun v u' m'=>∃ o',m'=Qt g o'/\C5 prV KO u' o' (Hb f (Ap p r) (q+f (Ap p r))) (N+1):=by
 obtain⟨b,aa,n,c,a',n',c',rfl,_⟩:=hx.opn;refine Ai.o func138 ?_;have ko:=KO.pair p r;by_cases hlt:A8 r p<0
 ·have he:Ap p r=(r,p):=by unfold Ap;rw[if_pos ((Dp.sym r p).1 hlt)]
  rw[he]at hf hs ko⊢;refine G.c call93 (Dq r p true (decide_eq_true hlt)) ?_;rintro v0 u0 l0 rfl;obtain⟨l,ho,h2,h3,h4⟩:=h.mono l0;have hx:=hx.mono l0;cases hx':Fi (r,p) l with
  |none =>
   have hf0:f (r,p)=0:=h3 _ (Fz.1 hx');have e0:q+f (r,p)=q:=by rw[hf0];grind
   rw[e0]at hs⊢;refine G.buildArr 206 79 r p kV kV kV kV ?_;refine G.mapNot (et:=68) G1 fz g o l (r,p) kV kV (.inr (Cg _ _)) ho hx' ?_;refine G.mapPut (et:=68) G1 g o l (r,p) (.agg #[.bool b,.slice aa n c,.bool false,.slice a' n' c']) kV kV (Cg _ _) ho ?_;intro o' ho';exact G.r (.tuple #[]) ⟨o',Dh _ _ _ _,C5.put ho h2 h3 h4 ho' hx ko hs.sz⟩
  |some xv =>
   obtain⟨hr,_,_⟩:=h2 _ (Hk hx');obtain⟨b1,a1,n1,c1,a1',n1',c1',rfl,_⟩:=hr.opn;refine G.buildArr 206 79 r p kV kV kV kV ?_;refine G.mapHas (et:=68) G1 fz g o l (r,p) (.agg #[.bool b1,.slice a1 n1 c1,.bool false,.slice a1' n1' c1']) kV kV (.inr (Cg _ _)) ho hx' ?_;refine G.c call33 (Lw hx hr (hq.sz.mono oV) (hf.sz.mono oV)) ?_;intro v1 u1 l1 k1;obtain⟨b2,a2,n2,c2,a2',n2',c2',rfl,_⟩:=k1.opn;refine G.mapPut (et:=68) G1 g o l (r,p) (.agg #[.bool b2,.slice a2 n2 c2,.bool false,.slice a2' n2' c2']) kV kV (Cg _ _) ho ?_;intro o' ho';exact G.r (.tuple #[]) ⟨o',Dh _ _ _ _,C5.put ho (fun p hp=>⟨(h2 p hp).1.mono l1,(h2 p hp).2⟩) h3 h4 ho' k1 ko hs.sz⟩
 ·have he:Ap p r=(p,r):=by unfold Ap;rw[if_neg (fun e=>hlt ((Dp.sym r p).2 e))]
  rw[he]at hf hs ko⊢;refine G.c call93 (Dq r p false (decide_eq_false hlt)) ?_;rintro v0 u0 l0 rfl;obtain⟨l,ho,h2,h3,h4⟩:=h.mono l0;have hx:=hx.mono l0;cases hx':Fi (p,r) l with
  |none =>
   have hf0:f (p,r)=0:=h3 _ (Fz.1 hx');have e0:q+f (p,r)=q:=by rw[hf0];grind
   rw[e0]at hs⊢;refine G.buildArr 206 79 p r kV kV kV kV ?_;refine G.mapNot (et:=68) G1 fz g o l (p,r) kV kV (.inr (Cg _ _)) ho hx' ?_;refine G.mapPut (et:=68) G1 g o l (p,r) (.agg #[.bool b,.slice aa n c,.bool false,.slice a' n' c']) kV kV (Cg _ _) ho ?_;intro o' ho';exact G.r (.tuple #[]) ⟨o',Dh _ _ _ _,C5.put ho h2 h3 h4 ho' hx ko hs.sz⟩
  |some xv =>
   obtain⟨hr,_,_⟩:=h2 _ (Hk hx');obtain⟨b1,a1,n1,c1,a1',n1',c1',rfl,_⟩:=hr.opn;refine G.buildArr 206 79 p r kV kV kV kV ?_;refine G.mapHas (et:=68) G1 fz g o l (p,r) (.agg #[.bool b1,.slice a1 n1 c1,.bool false,.slice a1' n1' c1']) kV kV (.inr (Cg _ _)) ho hx' ?_;refine G.c call33 (Lw hx hr (hq.sz.mono oV) (hf.sz.mono oV)) ?_;intro v1 u1 l1 k1;obtain⟨b2,a2,n2,c2,a2',n2',c2',rfl,_⟩:=k1.opn;refine G.mapPut (et:=68) G1 g o l (p,r) (.agg #[.bool b2,.slice a2 n2 c2,.bool false,.slice a2' n2' c2']) kV kV (Cg _ _) ho ?_;intro o' ho';exact G.r (.tuple #[]) ⟨o',Dh _ _ _ _,C5.put ho (fun p hp=>⟨(h2 p hp).1.mono l1,(h2 p hp).2⟩) h3 h4 ho' k1 ko hs.sz⟩
end
section
variable {C:CF}{F:List Ao}{a i:Nat}{f:Ao}{lab:Int}{p:Par}{q:Rat}{ss:List (List UInt8)}{w:List UInt8}
structure CF.One (F:CF):Prop where
 c:F.c=1
 t:∀ k,F.t k=if 0<A8 k.1 k.2 then 0 else F.s k.1*F.s k.2
theorem CF.One.num:(CF.num 1).One:=⟨rfl,fun k=>by
 show (0:Rat)=if 0<A8 k.1 k.2 then 0 else (0:Rat)*0
 split
 ·rfl
 ·grind⟩
theorem An8 (p:Par)(q:Rat)(k:Par):(CF.one1 p q).s k=if k=p then q else 0:=rfl
theorem CF.One.one1 (p:Par)(q:Rat):(CF.one1 p q).One:=⟨rfl,fun k=>by
 show (if k=(p,p) then q*q else 0)=if 0<A8 k.1 k.2 then 0 else (if k.1=p then q else 0)*(if k.2=p then q else 0)
 obtain⟨x,y⟩:=k;by_cases h:(x,y)=(p,p)
 ·obtain⟨e1,e2⟩:=Prod.mk.inj h;subst e2;rw[e1];have:=Dp.refl y;rw[if_pos rfl,if_neg (by simp only;omega)];simp
 ·rw[if_neg h];split
  ·rfl
  ·by_cases h1:x=p
   ·have h2:y≠p:=fun e=>h (by rw[h1,e]);simp only[h2,if_false];grind
   ·simp only[h1,if_false];grind⟩
theorem CF.One.mul {F G:CF}(hF:F.One)(hG:G.One):(F.mul G).One/\∀ p,(F.mul G).s p=F.s p+G.s p:=by
 have hs:∀ p,(F.mul G).s p=F.s p+G.s p:=fun p=>by
  show G.s p*F.c+F.s p*G.c=_;rw[hF.c,hG.c];grind
 refine⟨⟨?_,fun k=>?_⟩,hs⟩
 ·show F.c*G.c=1;rw[hF.c,hG.c];decide +kernel
 ·rw[hs,hs];show G.t k*F.c+F.t k*G.c+G3 F G k=_;rw[hF.c,hG.c,hF.t,hG.t];unfold G3;split
  ·grind
  ·split
   ·rename_i he;rw[<-he];grind
   ·grind
abbrev LF:Type:=Option (Option (Par×Rat))
def LF.cf:LF->CF
 |none=>CF.num 0
 |some none=>CF.num 1
 |some (some x)=>CF.one1 x.1 x.2
def Gr (C:CF)(L:List LF):CF:=L.foldl (fun c y=>c.mul y.cf) C
theorem Vm (C:CF)(L:List LF)(x:LF):Gr C (L++[x])=(Gr C L).mul x.cf:=by unfold Gr;rw[A7h];rfl
theorem Ags (F:CF):(CF.num 0).mul F=CF.num 0:=by
 rw[CF.mul_comm];exact CF.mul_zero F
theorem Uz:∀ L,Gr (CF.num 0) L=CF.num 0
 |[]=>rfl
 |x::L=>by
  unfold Gr;rw[A5p,Ags];exact Uz L
theorem Aez {L:List LF}(h:none∈L):Gr C L=CF.num 0:=by
 obtain⟨A,B,rfl⟩:=List.append_of_mem h;unfold Gr;rw[A7h,A5p];have:(List.foldl (fun c (y:LF)=>c.mul (LF.cf y)) C A).mul (LF.cf none)=CF.num 0:=CF.mul_zero _;rw[this];exact Uz B
theorem LF.one {x:LF}(h:x≠none):x.cf.One:=by
 match x,h with
 |some none,_=>exact CF.One.num
 |some (some x),_=>exact CF.One.one1 _ _
theorem Su:∀ {L:List LF} {C:CF},C.One->none∉L->(Gr C L).One
 |[],C,h,_=>h
 |x::L,C,h,hn=>by
  have hx:x≠none:=fun e=>hn (by rw[e];exact A3r ..);unfold Gr;rw[A5p];exact Su (h.mul (LF.one hx)).1 fun e=>hn (A1w _ e)
theorem Xe {p:Par}:∀ {L:List LF} {C:CF},C.One->none∉L->(∀ q,some (some (p,q))∉L)->(Gr C L).s p=C.s p
 |[],C,h,_,_=>rfl
 |x::L,C,h,hn,hp=>by
  have hx:x≠none:=fun e=>hn (by rw[e];exact A3r ..);have hm:=h.mul (LF.one hx);unfold Gr;rw[A5p];have:=Xe (p:=p) hm.1 (fun e=>hn (A1w _ e)) fun q e=>hp q (A1w _ e);unfold Gr at this;rw[this,hm.2];have hz:x.cf.s p=0:=by
   match x,hx,hp with
   |some none,_,_=>rfl
   |some (some (p',q)),_,hp =>
    show (if p=p' then q else 0)=0;rw[if_neg fun e=>hp q (by rw[e];exact A3r ..)]
  rw[hz];grind
theorem Amd {L:List LF}(h:C.One)(hn:none∉L)(hc:C.s p=0)(ha:L[a]?=some (some (some (p,q))))(hd:∀ b q',L[b]?=some (some (some (p,q')))->b=a):(Gr C L).s p=q:=by
 obtain⟨hal,hae⟩:=A0s.1 ha;have e:L=L.take a++some (some (p,q))::L.drop (a+1):=by
  rw[<-hae,List.getElem_cons_drop,List.take_append_drop]
 have hnA:none∉L.take a:=fun hh=>hn (List.mem_of_mem_take hh);have hnB:none∉L.drop (a+1):=fun hh=>hn (List.mem_of_mem_drop hh);have hpA:∀ q',some (some (p,q'))∉L.take a:=fun q' hh=>by
  obtain⟨b,hb,hb2⟩:=A19 hh;rw[A00]at hb;rw[A4t]at hb2;have:=hd b q' (by rw[A0n oV,hb2]);omega
 have hpB:∀ q',some (some (p,q'))∉L.drop (a+1):=fun q' hh=>by
  obtain⟨b,hb,hb2⟩:=A19 hh;rw[List.length_drop]at hb;rw[List.getElem_drop]at hb2;have:=hd (a+1+b) q' (by rw[A0n oV,hb2]);omega
 rw[e];have hA:=Xe (p:=p) h hnA hpA;have hA1:=Su h hnA;have hM:=hA1.mul (CF.One.one1 p q);have hB:=Xe (p:=p) hM.1 hnB hpB;have:Gr C (L.take a++some (some (p,q))::L.drop (a+1))=Gr ((Gr C (L.take a)).mul (CF.one1 p q)) (L.drop (a+1)):=by
  unfold Gr;rw[A7h,A5p];rfl
 rw[this,hB,hM.2,hA,hc,An8,if_pos rfl];grind
noncomputable def K6 (t:List UInt8):Rat:=open Classical in if h:∃ q,SmR q/\t=Af q then h.choose else 0
theorem P4 {t:List UInt8}(h:∃ q,SmR q/\t=Af q):SmR (K6 t)/\Af (K6 t)=t:=by
 unfold K6;rw[dif_pos h];exact⟨h.choose_spec.1,h.choose_spec.2.symm⟩
noncomputable def Jk (i:Nat)(f:Ao)(w:List UInt8):LF:=if f.2.1=2 then some (some (((i:Int),w),1)) else if w = [] then (if f.2.2=1 then none else some none) else some (some (((i:Int),[]),K6 w))
noncomputable def O7 (w:List UInt8):LF:=if w = [] then none else some (some ((-1,[]),K6 w))
noncomputable def Fg (F:List Ao)(lab:Int)(a:Nat)(w:List UInt8):LF:=if (a:Int)=lab then O7 w else match F.findIdx? (fun f=>f.1==a) with|some k=>Jk k (F.getD k (0,0,0)) w|none=>some none
noncomputable def Em (F:List Ao)(lab:Int)(ss:List (List UInt8)):List LF:=ss.mapIdx (Fg F lab)
theorem Gq (h:ss[a]?=some w):(Em F lab ss)[a]?=some (Fg F lab a w):=by
 unfold Em;rw[A98,h];rfl
theorem F3 :(Em F lab ss).length=ss.length:=by unfold Em;simp
theorem Ahi (hn:(F.map (·.1)).Nodup)(hf:F[i]?=some f):F.findIdx? (fun g=>g.1==f.1)=some i:=by
 obtain⟨hi,rfl⟩:=A0s.1 hf;refine A5z.2 ⟨hi,mV,fun j hj=>?_⟩;simp only[beq_iff_eq];intro e;have:=(List.getElem_inj (xs:=F.map (·.1)) (h₀:=by rw[A0p];omega) (h₁:=by rw[A0p];omega) (i:=j) (j:=i) hn).1 (by rw[A4r,A4r];exact e);omega
theorem Vo (hn:(F.map (·.1)).Nodup)(hf:F[i]?=some f)(hl:(f.1:Int)≠lab):Fg F lab f.1 w=Jk i f w:=by
 unfold Fg;rw[if_neg hl,Ahi hn hf];simp[A0o,hf]
theorem Ga (h:(a:Int)≠lab):Fg F lab a w=some none\/∃ (i:Nat) (f:Ao),F[i]?=some f/\f.1=a/\Fg F lab a w=Jk i f w:=by
 unfold Fg;rw[if_neg h];cases hx:F.findIdx? (fun f=>f.1==a) with
 |none=>exact .inl rfl
 |some k =>
  obtain⟨hk,h1,_⟩:=A5z.1 hx;right;refine⟨k,F[k],A0n hk,by simpa using h1,?_⟩;simp[A0o,A0n hk]
theorem Ae0 (hl:-1<=lab){a b:Nat}{q q':Rat}(ha:(Em F lab ss)[a]?=some (some (some (p,q))))(hb:(Em F lab ss)[b]?=some (some (some (p,q')))):b=a:=by
 have key:∀ {a:Nat} {q:Rat},(Em F lab ss)[a]?=some (some (some (p,q)))->((a:Int)=lab/\p.1 = -1)\/∃ (i:Nat) (f:Ao),F[i]?=some f/\f.1=a/\p.1=(i:Int):=by
  intro a q ha;unfold Em at ha;rw[A98]at ha;cases hw:ss[a]? with
  |none=>rw[hw]at ha;cases ha
  |some w =>
   rw[hw]at ha;simp only[Option.map_some,A0t]at ha;by_cases h:(a:Int)=lab
   ·left;unfold Fg O7 at ha;rw[if_pos h]at ha;split at ha
    ·cases ha
    ·cases ha;exact⟨h,rfl⟩
   ·right;rcases Ga (F:=F) (w:=w) h with e|⟨i,f,h1,h2,h3⟩
    ·rw[e]at ha;cases ha
    ·rw[h3]at ha;refine⟨i,f,h1,h2,?_⟩;unfold Jk at ha;split at ha
     ·cases ha;rfl
     ·split at ha
      ·split at ha<;>cases ha
      ·cases ha;rfl
 rcases key ha with ⟨h1,h2⟩|⟨i,f,h1,h2,h3⟩<;>rcases key hb with ⟨k1,k2⟩|⟨i',f',k1,k2,k3⟩
 ·omega
 ·omega
 ·omega
 ·obtain rfl:i'=i:=oV
  rw[h1]at k1;cases k1;omega
end
section
variable {q:Rat}{t:List UInt8}{x:LF}
theorem Aa3 {m:PH}{b:Nat}{t:TypeId}{xs:List Value}{e:Value}(hm:m b=some (.cells xs.toArray t (0,0)))(he:e.cells=xs.toArray):ElP m b 0 e:=fun i x hx=>by
 refine⟨_,_,_,hm,?_⟩;rw[he]at hx;simpa using hx
theorem SmR.dat (h:SmR q):Dat q:=⟨by have:=h.num;omega,h.le⟩
theorem SmR.sb (h:SmR q):SB q:=h.dn.small oV (pw jV)
theorem SmR.sb2 (h:SmR q):SB (q*q):=(h.dn.mul h.dn).small oV (pw jV)
theorem Ih:SmR 1:=⟨jV,jV⟩
def LF.Small:LF->Prop
 |some (some x)=>SmR x.2/\PV x.1
 |_=>True
theorem LF.Small.cfd (h:x.Small):CFD 2 11664 x.cf:=by
 match x,h with
 |none,_=>exact CFD.count (Dn.zero _ _)
 |some none,_=>exact CFD.count ⟨144,jV,fV⟩
 |some (some x),h =>
  have hq:Dn 2 11664 x.2:=by
   have:=h.1.dn.mul (show Dn 1 108 1 from⟨12,jV,fV⟩);rw[show x.2*1=x.2 by grind]at this;exact this.mono oV
  exact Agu ⟨144,jV,fV⟩ hq ((h.1.dn.mul h.1.dn).mono oV)
theorem LF.Small.cfv (h:x.Small):CFV x.cf:=by
 match x,h with
 |none,_=>exact CFV.count 0
 |some none,_=>exact CFV.count 1
 |some (some x),h=>exact Ajh h.2
theorem Nu {L:List LF}(h:∀ x∈L,x.Small):∀ i,i<=L.length->CFD (2*i) (46656^i) (Gr (CF.num 1) (L.take i))/\CFV (Gr (CF.num 1) (L.take i))
 |0,_=>⟨CFD.count ⟨1,jV,fV⟩,CFV.count 1⟩
 |i+1,hi=>by
  obtain⟨h1,h2⟩:=Nu h i oV;have hx:=h _ (A04 (show i<L.length by omega));have e:L.take (i+1)=L.take i++[L[i]]:=by rw[A1c,A0n oV];rfl
  rw[e,Vm];refine⟨?_,h2.mul hx.cfv⟩;have:=h1.mul hx.cfd;rw[show 2*(i+1)=2*i+2 by omega];exact this.mono (by rw[Nat.pow_succ];omega)
theorem Azg {u:PH}{x:List UInt8×Nat}(h1:1<=x.2)(h3:x.2<=3)(hv:Ii x.2 t):Fn0 prog 229 [D0 x,.string (mkS t)] u fun v _=>v=.bool true:=by
 obtain⟨s,k⟩:=x;rcases hv with rfl|⟨rfl,hw⟩|⟨rfl,z,hz,rfl⟩|⟨rfl,q,hq,rfl⟩
 ·exact Ayr h1 h3
 ·exact Ayn (Ag0 hw)
 ·exact Ay0 hz
 ·exact Ayz hq.dat
theorem J6 (h:Ii 2 t)(hne:t≠[]):SmR (K6 t)/\Af (K6 t)=t:=by
 rcases h with e|⟨e,_⟩|⟨e,_⟩|⟨_,q,hq,e⟩
 ·exact absurd e hne
 ·omega
 ·omega
 ·exact P4 ⟨q,hq,e⟩
theorem Abc {T:List (List UInt8×Nat)}{F:List Ao}{lab:Int}{a:Nat}{x:List UInt8×Nat}(hF:Dk T F lab)(hl2:∀ l:Nat,lab=(l:Int)->∃ n,T[l]?=some (n,2))(hfl:F.length<=8)(hx:T[a]?=some x)(hv:Ii x.2 t):(Fg F lab a t).Small:=by
 by_cases hlab:(a:Int)=lab
 ·obtain⟨n,hn⟩:=hl2 a hlab.symm;rw[hx]at hn;cases hn;unfold Fg O7;rw[if_pos hlab];by_cases ht:t = []
  ·rw[if_pos ht];trivial
  ·rw[if_neg ht];exact⟨(J6 hv ht).1,⟨by show (-1:Int)<=-1;omega,by show (-1:Int)<=1000;omega,.inl rfl⟩⟩
 ·rcases Ga (F:=F) (w:=t) hlab with e|⟨i,f,h1,rfl,h3⟩
  ·rw[e];trivial
  ·rw[h3];obtain⟨hi,_⟩:=A0s.1 h1;obtain⟨n,k,hk,hkind,_⟩:=hF.ok f (A1b h1);rw[hk]at hx;cases hx;unfold Jk;rcases hkind with ⟨k1,k2,k3⟩|⟨k1,k2,k3⟩
   ·rw[if_neg oV];by_cases ht:t = []
    ·rw[if_pos ht];split<;>trivial
    ·rw[if_neg ht];subst k2;exact⟨(J6 hv ht).1,⟨by show (-1:Int)<=(i:Int);omega,by show (i:Int)<=1000;omega,.inl rfl⟩⟩
   ·rw[if_pos k1];refine⟨Ih,⟨by show (-1:Int)<=(i:Int);omega,by show (i:Int)<=1000;omega,?_⟩⟩;rcases hv with e|⟨_,hw⟩|⟨e,_⟩|⟨e,_⟩
    ·exact .inl e
    ·exact .inr (Ag0 hw)
    ·omega
    ·omega
end
section
variable {F:List Ao}{T:List (List UInt8×Nat)}{f:Ao}{i:Nat}{lab:Int}{ss:List (List UInt8)}
structure Cr (T:List (List UInt8×Nat))(ss:List (List UInt8)):Prop where
 len:ss.length=T.length
 val:∀ (i:Nat) (x:List UInt8×Nat) (t:List UInt8),T[i]?=some x->ss[i]?=some t->Ii x.2 t
theorem Cr.at (h:Cr T ss)(hi:i<ss.length):∃ x,T[i]?=some x/\Ii x.2 ss[i]:=by
 have:=h.len;have e:T[i]?=some (T[i]'oV):=A0n oV;exact⟨_,e,h.val i _ _ e (A0n hi)⟩
def Ad2 (ss:List (List UInt8))(f:Ao):Bool:=f.2.1==1&&f.2.2==1&&(ss.getD f.1 []).isEmpty
def T4 (F:List Ao)(lab:Int)(ss:List (List UInt8)):Bool:=!(decide (0<=lab)&&(ss.getD lab.toNat []).isEmpty) && !F.any (Ad2 ss)
theorem Ami (hF:Dk T F lab)(ht:Cr T ss)(hf:f∈F):f.1<ss.length:=by
 obtain⟨n,k,h,_⟩:=hF.ok f hf;obtain⟨h1,_⟩:=A0s.1 h;have:=ht.len;omega
theorem Abg (hF:Dk T F lab)(ht:Cr T ss)(hf:F[i]?=some f):(Em F lab ss)[f.1]?=some (Jk i f (ss.getD f.1 [])):=by
 have hm:=A1b hf;have hl:=Ami hF ht hm;obtain⟨n,k,_,_,hne⟩:=hF.ok f hm;rw[Gq (w:=ss[f.1]) (A0n hl),Vo hF.nodup hf hne];simp[A0o,A0n hl]
theorem Agg {l:Nat}(hl:lab=(l:Int))(h:l<ss.length):(Em F lab ss)[l]?=some (O7 (ss.getD l [])):=by
 rw[Gq (w:=ss[l]) (A0n h)];unfold Fg;rw[if_pos hl.symm];simp[A0o,A0n h]
theorem V5 (hF:Dk T F lab)(ht:Cr T ss)(h1:-1<=lab)(h2:∀ l:Nat,lab=(l:Int)->l<ss.length):T4 F lab ss=true↔none∉Em F lab ss:=by
 unfold T4;simp only[A05,Bool.not_eq_true',Bool.and_eq_false_iff,decide_eq_false_iff_not,Int.not_le];constructor
 ·rintro⟨a,b⟩ hm;obtain⟨i,hi,hi2⟩:=A19 hm;have hi3:(Em F lab ss)[i]?=some none:=by rw[A0n hi,hi2]
  have hil:i<ss.length:=by rw[F3]at hi;exact hi
  rw[Gq (w:=ss[i]) (A0n hil)]at hi3;simp only[A0t]at hi3;by_cases hlab:(i:Int)=lab
  ·unfold Fg O7 at hi3;rw[if_pos hlab]at hi3;split at hi3
   ·rename_i he;rcases a with a|a
    ·omega
    ·rw[<-hlab]at a;simp[A0o,A0n hil,he]at a
   ·cases hi3
  ·rcases Ga (F:=F) (w:=ss[i]) hlab with e|⟨j,f,g1,g2,g3⟩
   ·rw[e]at hi3;cases hi3
   ·rw[g3]at hi3;unfold Jk at hi3;split at hi3
    ·cases hi3
    ·rename_i k2;split at hi3
     ·rename_i he;split at hi3
      ·rename_i k3;have hfm:=A1b g1;obtain⟨n,k,_,hk,_⟩:=hF.ok f hfm;have k1:f.2.1=1:=by rcases hk with ⟨h,_⟩|⟨h,_⟩;exact h;exact absurd h k2
       have:Ad2 ss f=true:=by
        unfold Ad2;rw[g2];simp[k1,k3,A0o,A0n hil,he]
       have hb:=A7i.1 b f hfm;rw[this]at hb;exact absurd rfl hb
      ·cases hi3
     ·cases hi3
 ·intro hn;constructor
  ·rcases Bay (lab<0) with h|h
   ·exact .inl h
   ·right;obtain⟨l,hl⟩:∃ l:Nat,lab=(l:Int):=⟨lab.toNat,oV⟩;have hlt:=h2 l hl;have:=Agg (F:=F) hl hlt;rw[hl,Int.toNat_natCast];cases he:ss.getD l [] with
    |cons x y=>rfl
    |nil =>
     rw[he]at this;exact absurd (A1b this) (by simpa[O7] using hn)
  ·rw[A7i];intro f hf hd;obtain⟨i,hi,rfl⟩:=A19 hf;have:=Abg hF ht (A0n hi);unfold Ad2 at hd;simp only[A05,beq_iff_eq,List.isEmpty_iff]at hd;obtain⟨⟨d1,d2⟩,d3⟩:=hd;rw[d3]at this;refine hn ?_;have e:Jk i F[i] []=none:=by unfold Jk;rw[if_neg oV,if_pos rfl,if_pos d2]
   rw[e]at this;exact A1b this
noncomputable def cfT (F:List Ao)(lab:Int)(ss:List (List UInt8)):CF:=Gr (CF.num 1) (Em F lab ss)
theorem Ajf (hF:Dk T F lab)(ht:Cr T ss)(h1:-1<=lab)(h2:∀ l:Nat,lab=(l:Int)->l<ss.length)(hc:T4 F lab ss=false):cfT F lab ss=CF.num 0:=by
 refine Aez ?_;rcases Bay (none∈Em F lab ss) with h|h
 ·exact h
 ·rw[(V5 hF ht h1 h2).2 h]at hc;cases hc
theorem Ac8 (hF:Dk T F lab)(ht:Cr T ss)(h1:-1<=lab)(h2:∀ l:Nat,lab=(l:Int)->l<ss.length)(hc:T4 F lab ss=true):(cfT F lab ss).One :=
 Su CF.One.num ((V5 hF ht h1 h2).1 hc)
theorem Ajr (hF:Dk T F lab)(ht:Cr T ss)(h1:-1<=lab)(h2:∀ l:Nat,lab=(l:Int)->l<ss.length)(hc:T4 F lab ss=true){a:Nat}{p:Par}{q:Rat}(h:(Em F lab ss)[a]?=some (some (some (p,q)))):(cfT F lab ss).s p=q :=
 Amd CF.One.num ((V5 hF ht h1 h2).1 hc) rfl h fun b q' hb=>Ae0 h1 h hb
theorem Kt {u:PH}{R:List Bk}(ok:Bn u T R F lab)(ht:Cr T ss):∀ x∈Em F lab ss,x.Small:=fun x hx=>by
 obtain⟨i,hi,rfl⟩:=A19 hx;rw[F3]at hi;have e:=Gq (F:=F) (lab:=lab) (w:=ss[i]) (A0n hi);rw[A0n (by rw[F3];exact hi),A0t]at e;rw[e];obtain⟨y,hy,hv⟩:=ht.at hi;exact Abc ok.feat ok.l2 ok.f2 hy hv
end
section
variable {F:List Ao}{f:Ao}{i:Nat}{ss:List (List UInt8)}{x:Par×Rat}
noncomputable def Asa (ss:List (List UInt8))(i:Nat)(f:Ao):Option (Par×Rat) :=
 if f.2.1=2 then some (((i:Int),ss.getD f.1 []),1) else if ss.getD f.1 [] = []\/ss.getD f.1 [] = [48] then none else some (((i:Int),[]),K6 (ss.getD f.1 []))
noncomputable def Aqk (F:List Ao)(ss:List (List UInt8))(n:Nat):List (Par×Rat):=(F.zipIdx.take n).filterMap fun p=>Asa ss p.2 p.1
theorem Ats (h:F[i]?=some f):F.zipIdx[i]?=some (f,i):=by
 rw[List.getElem?_zipIdx,h];simp
theorem Awn (h:F[i]?=some f):Aqk F ss (i+1)=Aqk F ss i++(Asa ss i f).toList:=by
 unfold Aqk;rw[A1c,Ats h,List.filterMap_append];cases e:Asa ss i f with
 |none=>simp[e]
 |some x=>simp[e]
theorem Au0 {n:Nat}:x∈Aqk F ss n↔∃ i f,i<n/\F[i]?=some f/\Asa ss i f=some x:=by
 unfold Aqk;rw[List.mem_filterMap];constructor
 ·rintro⟨⟨f,i⟩,hm,he⟩;obtain⟨j,hj,hj2⟩:=A19 hm;rw[A00]at hj;rw[A4t,List.getElem_zipIdx]at hj2;cases hj2;refine⟨j,_,oV,A0n (by have:=hj;simp at this;omega),?_⟩;simpa using he
 ·rintro⟨i,f,hi,hf,he⟩;refine⟨(f,i),?_,he⟩;have:(F.zipIdx.take n)[i]?=some (f,i):=by rw[List.getElem?_take,if_pos hi,Ats hf]
  exact A1b this
theorem Axu (h:Asa ss i f=some x):x.1.1=(i:Int):=by
 unfold Asa at h;split at h
 ·cases h;rfl
 ·split at h
  ·cases h
  ·cases h;rfl
theorem Auy (F:List Ao)(ss:List (List UInt8))(n:Nat):(Aqk F ss n).length<=F.length:=by
 unfold Aqk;refine A0q (List.length_filterMap_le ..) ?_;rw[A00,List.length_zipIdx];omega
theorem Auf {T:List (List UInt8×Nat)}{lab:Int}(hF:Dk T F lab)(ht:Cr T ss)(hf:f∈F)(h2:f.2.1≠2)(h0:ss.getD f.1 []≠[]):SmR (K6 (ss.getD f.1 []))/\Af (K6 (ss.getD f.1 []))=ss.getD f.1 []:=by
 obtain⟨n,k,hk,hkind,_⟩:=hF.ok f hf;have hl:=Ami hF ht hf;have e:ss.getD f.1 []=ss[f.1]:=by simp[A0o,A0n hl]
 have hv:=ht.val f.1 _ _ hk (A0n hl);rw[<-e]at hv;rcases hkind with ⟨_,rfl,_⟩|⟨h,_⟩
 ·exact J6 hv h0
 ·exact absurd h h2
end
section
variable {F:List Ao}{R:List Bk}{T:List (List UInt8×Nat)}{i:Nat}{lab:Int}{ss:List (List UInt8)}{tv v:Value}{u:PH}
structure Af5 (u:PH)(v tv:Value)(T:List (List UInt8×Nat))(R:List Bk)(F:List Ao)(lab:Int)(ss:List (List UInt8)):Prop where
 sch:F1 u v T R F lab
 ok:Bn u T R F lab
 lst:Ab u tv 1 (ss.map nmV)
 fit:Cr T ss
theorem Af5.mono {u u':PH}{v tv:Value}{T:List (List UInt8×Nat)}{R:List Bk}{F:List Ao}{lab:Int}{ss:List (List UInt8)}(h:Af5 u v tv T R F lab ss)(hl:PH.le u u'):Af5 u' v tv T R F lab ss :=
 ⟨h.sch.mono hl,h.ok.mono hl,h.lst.mono hl,h.fit⟩
theorem Adx {a:Option Addr}{n c:Nat}(h:Ab u (.slice a n c) 1 (ss.map nmV))(hi:i<ss.length):∃ b off,a=some ⟨b,off,none⟩/\ElP u b (off+i*1) (.string (mkS (ss.getD i []))):=by
 have e:ss.getD i []=ss[i]:=by simp[A0o,A0n hi]
 rw[e];exact Ab.at' h (j:=i) (by simp[nmV,A0n hi])
theorem Awr (h:Af5 u v tv T R F lab ss) :
 Fn0 prog 164 [v,tv] u fun r _=>r=.int .i64 0:=by
 have hck:=fun (u':PH) (l:PH.le u u')=>Abk (h.sch.mono l) (h.ok.mono l);obtain⟨⟨xa,xc,xb,xd,xe,xf,rfl,hTL,hRL,hFL⟩,ok,hS,hT⟩:=h;obtain⟨ya,yc,rfl⟩:=hS.opn;rw[A0p]at hS⊢;have hlen:=hT.len;have t2:=ok.t2;refine Fn0.o func164 ?_;refine G.c call129 (hck u (PH.le_refl _)) ?_;rintro v1 u1 l1 rfl;refine G.nF 0 0 ?_;refine G.nF (ss.length:Int) (T.length:Int) ?_;refine G.l (ι:=Nat) (fun i=>[(2,.p 0 0),(19,sV ya ss.length yc),(20,iV ss.length),(21,iV i)])
  (fun _=>[(0,⟨31,[sV xa T.length xc,sV xb R.length xd,sV xe F.length xf,iV lab]⟩)])
  (fun i u' m'=>i<=ss.length/\m'=PH.mt) (fun i=>ss.length-i) 0 ⟨oV,rfl⟩ ?_
 rintro J i hJ u2 m2 l2 ⟨hi,rfl⟩;have le2:=l1.trans l2;by_cases hlt:i<ss.length
 ·refine G.lT (i:Int) (ss.length:Int) ?_;obtain⟨b,off,rfl,e⟩:=Adx (hS.mono le2) hlt;refine G.a b off ss.length yc i 1 hlt ?_;refine G.lU none b (off+i*1) (.string (mkS (ss.getD i []))) e ?_;have hTi:T[i]?=some T[i]:=A0n oV;have hk:=ok.att.kind T[i] (A04 oV);have hv:=hT.val i _ _ hTi (A0n hlt);rw[show ss[i]=ss.getD i [] by simp[A0o,A0n hlt]]at hv;obtain⟨ba,oa,rfl,ea⟩:=Ab.at' (hTL.mono le2) (j:=i) (e:=D0 T[i]) (by simp[hTi]);generalize T[i]=x at hTi hk hv ea;refine G.a ba oa T.length xc i 2 oV ?_;refine G.lU (some 2) ba (oa+i*2) (D0 x) ea ?_;refine G.c call229 (Azg hk.1 hk.2 hv) ?_;rintro v3 u3 l3 rfl;refine G.i i ?_;exact G.b (hJ (i+1) _ _ _ cV (l2.trans l3) ⟨oV,rfl⟩ oV)
 ·obtain rfl:i=ss.length:=oV
  refine G.lF (ss.length:Int) (ss.length:Int) ?_;exact G.r (.int .i64 0) ⟨rfl,rfl⟩
theorem Aqb (h:i<=8):46656^i<10^100:=Nat.lt_of_le_of_lt (A1l oV h) jV
theorem Ape (h:i<8):8*(46656^i*11664)<10^100:=by
 have h1:46656^i<=46656^8:=A1l oV oV;have h2:46656^8<10^50:=jV
 have h3:(10:Nat)^50*100000<10^100:=jV
 omega
theorem Axy (h:Af5 u v tv T R F lab ss) :
 Fn0 prog 165 [v,tv] u fun r u'=>∃ b1 b2,r=.func (.func 230) #[] #[.pointer (some ⟨b1,0,none⟩),.pointer (some ⟨b2,0,none⟩)]/\ElP u' b1 0 v/\ElP u' b2 0 tv:=by
 obtain⟨⟨xa,xc,xb,xd,xe,xf,rfl,hTL,hRL,hFL⟩,ok,hS,hT⟩:=h;obtain⟨ya,yc,rfl⟩:=hS.opn;rw[A0p];have hc:Ai prog 165 [.agg #[.slice xa T.length xc,.slice xb R.length xd,.slice xe F.length xf,.int .i64 lab],.slice ya ss.length yc] u PH.mt (fun r u' m'=>∃ b1 b2,r=.func (.func 230) #[] #[.pointer (some ⟨b1,0,none⟩),.pointer (some ⟨b2,0,none⟩)]/\ElP m' b1 0 (.agg #[.slice xa T.length xc,.slice xb R.length xd,.slice xe F.length xf,.int .i64 lab])/\ElP m' b2 0 (.slice ya ss.length yc)):=by
  refine Ai.o func165 ?_;refine G.pastI ?_;refine G.pub 0 31 [.slice xa T.length xc,.slice xb R.length xd,.slice xe F.length xf,.int .i64 lab] kV kV ?_;intro b1 hu1 hm1;refine G.pub 1 70 [.slice ya ss.length yc] kV kV ?_;intro b2 hu2 hm2;have hne:b1≠b2:=fun e=>by subst e;rw[Ac]at hm2;cases hm2
  exact G.r (.func (.func 230) #[] #[.pointer (some ⟨b1,0,none⟩),.pointer (some ⟨b2,0,none⟩)]) ⟨b1,b2,rfl,Aa3 (xs:=[.slice xa T.length xc,.slice xb R.length xd,.slice xe F.length xf,.int .i64 lab]) (by rw[Ad _ _ hne,Ac]) rfl,Aa3 (xs:=[.slice ya ss.length yc]) (Ac _ _ _) rfl⟩
 refine Fn0.weak hc.giveAll ?_;rintro r u' ⟨u1,m1,_,l2,b1,b2,e,h1,h2⟩;exact⟨b1,b2,e,h1.mono l2,h2.mono l2⟩
end
section
theorem ElP.sub {u:PH}{b off:Nat}{e x:Value}{k:Nat}(h:ElP u b off e)(hx:∀ i y,x.cells[i]?=some y->e.cells[k+i]?=some y):ElP u b (off+k) x:=fun i y hy=>by
 obtain⟨cs,t,fr,h1,h2⟩:=h (k+i) y (hx i y hy);exact⟨cs,t,fr,h1,by rw[A28];exact h2⟩
theorem Axo {u m:PH}{l b1 b2:Nat}{v tv:Value}{T:List (List UInt8×Nat)}{R:List Bk}{F:List Ao}{lab:Int}{ss:List (List UInt8)}(h:Af5 u v tv T R F lab ss)(hb1:ElP u b1 0 v)(hb2:ElP u b2 0 tv)(J:List (Par×Rat)->PH->PH->Prop)
 (hJu:∀ L u' u'' m',PH.le u' u''->J L u' m'->J L u'' m')
 (hY:∀ (i:Nat) (x:Par×Rat) u' m',i<F.length->PH.le u u'->J (Aqk F ss i) u' m'->x∈Aqk F ss F.length->x.1.1=(i:Int)->At1 prog l [An x.1,.string (mkS (Af x.2))] u' m' fun r u'' m''=>r=.bool true/\J (Aqk F ss i++[x]) u'' m'')
 (h0:J [] u m):Ai prog 230 [.func (.yield l) #[] #[],.pointer (some ⟨b1,0,none⟩),.pointer (some ⟨b2,0,none⟩)] u m fun _ u' m'=>J (Aqk F ss F.length) u' m':=by
 obtain⟨⟨xa,xc,xb,xd,xe,xf,rfl,hTL,hRL,hFL⟩,ok,hS,hT⟩:=h;obtain⟨ya,yc,rfl⟩:=hS.opn;rw[A0p]at hS hb2;have hf8:=ok.f2;have hfeat:=ok.feat;have e2:ElP u b1 (0+2) (.slice xe F.length xf):=hb1.sub (k:=2) fun i y hy=>by
  match i,hy with
  |0,hy=>simpa[A1e] using hy
  |i+1,hy=>simp[A1e]at hy
 refine Ai.o func230 ?_;refine G.f 31 b1 0 2 2 ?_;refine G.lU none b1 (0+2) (.slice xe F.length xf) e2 ?_;refine G.l (ι:=Nat) (fun i=>[(0,.v (.func (.yield l) #[] #[])),(2,.v (.pointer (some ⟨b2,0,none⟩))),(9,sV xe F.length xf),(10,iV F.length),(11,iV i)]) (fun _=>[])
  (fun i u' m'=>i<=F.length/\J (Aqk F ss i) u' m') (fun i=>F.length-i) 0 ⟨oV,h0⟩ ?_
 rintro Jl i hJ u1 m1 l1 ⟨hi,hJi⟩;by_cases hil:i<F.length
 ·refine G.lT (i:Int) (F.length:Int) ?_;have hFi:F[i]?=some F[i]:=A0n hil;have hfm:=A04 hil;have hfl:=Ami hfeat hT hfm;have hsucc:=Awn (ss:=ss) hFi;have hnt:=fun h2 h0=>Auf hfeat hT hfm h2 h0;have hin:∀ x,Asa ss i F[i]=some x->x∈Aqk F ss F.length:=fun x hx=>Au0.2 ⟨i,F[i],hil,hFi,hx⟩;obtain⟨fb,fo,rfl,ef⟩:=Ab.at' (hFL.mono l1) (j:=i) (e:=B6 F[i]) (by simp[hFi]);have step:=fun (x:Par×Rat) (hx:Asa ss i F[i]=some x) (u' m':PH) (hl:PH.le u1 u') (hj:J (Aqk F ss i) u' m')=>hY i x u' m' hil (l1.trans hl) hj (hin x hx) (Axu hx);have keep:Asa ss i F[i]=none->Aqk F ss (i+1)=Aqk F ss i:=fun e=>by rw[hsucc,e];simp
  have gain:∀ x,Asa ss i F[i]=some x->Aqk F ss (i+1)=Aqk F ss i++[x]:=fun x e=>by rw[hsucc,e];simp
  clear hsucc hin;generalize F[i]=f at hFi hfm hfl hnt ef step keep gain;obtain⟨f1,f2,f3⟩:=f;simp only at hfl hnt;refine G.a fb fo F.length xf i 3 hil ?_;refine G.lU (some 3) fb (fo+i*3) (.agg #[.int .i64 (f1:Int),.int .i64 (f2:Int),.int .i64 (f3:Int)]) ef ?_;refine G.lU none b2 0 (.slice ya ss.length yc) (hb2.mono l1) ?_;obtain⟨b,off,rfl,e⟩:=Adx (hS.mono l1) hfl;refine G.a b off ss.length yc f1 1 hfl ?_;refine G.lU none b (off+f1*1) (.string (mkS (ss.getD f1 []))) e ?_;by_cases hk2:f2=2
  ·subst hk2;have hv:Asa ss i (f1,2,f3)=some (((i:Int),ss.getD f1 []),1):=by unfold Asa;rw[if_pos rfl]
   refine G.eT ((2:Nat):Int) 2 ?_;refine G.lU none b2 0 (.slice (some ⟨b,off,none⟩) ss.length yc) (hb2.mono l1) ?_;refine G.a b off ss.length yc f1 1 hfl ?_;refine G.lU none b (off+f1*1) (.string (mkS (ss.getD f1 []))) e ?_;refine G.yreg [0,1,2,3,4,5,6,7,8,9] 10 [11,12] kV ?_;intro Jy hsk hyi;refine G.x [49] [] mV ?_;refine G.x [49] [48] mV ?_;have hy:=step _ hv u1 m1 (PH.le_refl _) hJi;rw[Yw]at hy;refine G.b (hyi _ _ _ l _ _ kV hy ?_);rintro v2 u2 m2 l2 ⟨rfl,hJ2⟩;rw[<-gain _ hv]at hJ2;refine G.i i ?_;exact G.b (hJ (i+1) _ _ _ cV (l1.trans l2) ⟨oV,hJ2⟩ oV)
  ·refine G.eF (f2:Int) 2 ?_;have hvd:Asa ss i (f1,f2,f3)=if ss.getD f1 [] = []\/ss.getD f1 [] = [48] then none else some (((i:Int),[]),K6 (ss.getD f1 [])):=by unfold Asa;rw[if_neg hk2]
   have hnt:=hnt hk2;generalize ss.getD f1 []=w at hvd hnt e;by_cases hw0:w = []
   ·subst hw0;rw[if_pos (.inl rfl)]at hvd;refine G.yreg [0,1,2,3,4,5,6,7,8,9] 10 [11,12] kV ?_;intro Jy hsk hyi;refine G.y [] [] rfl ?_;refine G.b (hsk _ _ _ kV ?_);rw[<-keep hvd]at hJi;refine G.i i ?_;exact G.b (hJ (i+1) _ _ _ cV l1 ⟨oV,hJi⟩ oV)
   ·by_cases hw1:w = [48]
    ·subst hw1;rw[if_pos (.inr rfl)]at hvd;refine G.yreg [0,1,2,3,4,5,6,7,8,9] 10 [11,12] kV ?_;intro Jy hsk hyi;refine G.x [48] [] mV ?_;refine G.y [48] [48] rfl ?_;refine G.b (hsk _ _ _ kV ?_);rw[<-keep hvd]at hJi;refine G.i i ?_;exact G.b (hJ (i+1) _ _ _ cV l1 ⟨oV,hJi⟩ oV)
    ·rw[if_neg (fun e=>e.elim hw0 hw1)]at hvd;refine G.yreg [0,1,2,3,4,5,6,7,8,9] 10 [11,12] kV ?_;intro Jy hsk hyi;refine G.x w [] hw0 ?_;refine G.x w [48] hw1 ?_;have hy:=step _ hvd u1 m1 (PH.le_refl _) hJi;rw[(hnt hw0).2]at hy;refine G.b (hyi _ _ _ l _ _ kV hy ?_);rintro v2 u2 m2 l2 ⟨rfl,hJ2⟩;rw[<-gain _ hvd]at hJ2;refine G.i i ?_;exact G.b (hJ (i+1) _ _ _ cV (l1.trans l2) ⟨oV,hJ2⟩ oV)
 ·obtain rfl:i=F.length:=oV
  refine G.lF (F.length:Int) (F.length:Int) ?_;exact G.r (.tuple #[]) hJi
end
section
variable {c x:Code}{id:Nat}
def Are:Code->Option (Operand×Array Tmp×Code×Code)
 |.seq a b=>match Are a with|some x=>some x|none=>Are b
 |.block _ a=>Are a
 |.loop a=>Are a
 |.cond _ a b=>match Are a with|some x=>some x|none=>Are b
 |.rangeFunc g ps x y=>some (g,ps,x,y)
 |_=>none
def rfG (fn:Func):Operand:=match Are (Ab7 fn) with|some x=>x.1|none=>.tmp 0
def A0h (fn:Func):Array Tmp:=match Are (Ab7 fn) with|some x=>x.2.1|none=>#[]
def rfX (fn:Func):Code:=match Are (Ab7 fn) with|some x=>x.2.2.1|none=>.skip
def rfY (fn:Func):Code:=match Are (Ab7 fn) with|some x=>x.2.2.2|none=>.skip
def A0m:Code->Bool
 |.seq _ _=>true
 |_=>false
def A0k:Code->Code
 |.seq a _=>a
 |_=>.skip
def A0j:Code->Code
 |.seq _ b=>b
 |_=>.skip
def A0l:Code->Bool
 |.block _ _=>true
 |_=>false
def A0f:Code->Code
 |.block _ a=>a
 |_=>.skip
def rgB:Code->Bool
 |.region _ ops false=>Arq ops
 |_=>false
def rgI:Code->Nat
 |.region id _ _=>id
 |_=>0
def rgO:Code->Array Oper
 |.region _ ops _=>ops
 |_=>#[]
def RW (P:Program)(l:Nat)(c:Code)(J:S->PH->PH->Prop)(s:S)(u m:PH):Prop :=
 ∀ (cx:Cx) (ρ:Nat->Nat) (a:Act) (w:World),Rel cx s u m ρ a w->c.wpIn (Fence.wide.inRound l) 0 P (Exit.then (fun a w=>∃ s u m ρ,Rel cx s u m ρ a w/\J s u m) (fun _ _ _=>False)) a w
section
variable {P:Program} {l:Nat} {J J':S->PH->PH->Prop} {s:S} {u m:PH}
theorem RW.seq {x y:Code}(h:RW P l x (fun s u m=>RW P l y J s u m) s u m):RW P l (.seq x y) J s u m:=fun cx ρ a w hr=>wpIn_seq (wpIn_mono (h cx ρ a w hr) fun e a w hq=>by
 cases e with
 |normal=>obtain⟨s,u,m,ρ,h1,h2⟩:=hq;exact h2 cx ρ a w h1
 |_=>exact hq)
theorem RW.block (h:RW P l x J s u m):RW P l (.block id x) J s u m:=fun cx ρ a w hr=>wpIn_block (wpIn_mono (h cx ρ a w hr) fun e a w hq=>by
 cases e with
 |normal=>exact hq
 |_=>exact hq.elim)
theorem RW.reg [Ba P]{ops:Array Oper}(fn:Func)(hnd:Arq ops=true)(h:∀ (Post:B0) (J':S->PH->PH->Prop),(∀ s u m,J s u m->J' s u m)->G P fn Post ([.reg id ops false (A1q ops.size),.lp J'],s) u m):RW P l (.region id ops false) J s u m:=fun cx ρ a w hr =>
 Az6 (Avo l) hnd (h ⟨fun _ _ _=>False,cx.m0⟩ J fun _ _ _ h=>h) hr rfl fun s u m ρ a w h1 h2=>⟨s,u,m,ρ,h1,h2⟩
end
theorem Ai.weak {P:Program}{f:FuncId}{args:List Value}{u m:PH}{R R':Value->PH->PH->Prop}(h:Ai P f args u m R)(hr:∀ v u' m',R v u' m'->R' v u' m'):Ai P f args u m R':=fun w hg=>Calls.mono (h w hg) fun e w' ⟨v,u',m',e1,e2,e3,e4⟩=>⟨v,u',m',e1,e2,e3,hr _ _ _ e4⟩
theorem RW.seq' {P:Program}{l:Nat}{J:S->PH->PH->Prop}{s:S}{u m:PH}(hc:A0m c=true)(h:RW P l (A0k c) (fun s u m=>RW P l (A0j c) J s u m) s u m):RW P l c J s u m:=by
 cases c<;>first|exact RW.seq h|cases hc
theorem RW.block' {P:Program}{l:Nat}{J:S->PH->PH->Prop}{s:S}{u m:PH}(hc:A0l c=true)(h:RW P l (A0f c) J s u m):RW P l c J s u m:=by
 cases c<;>first|exact RW.block h|cases hc
theorem RW.reg' {P:Program}[Ba P]{l:Nat}{J:S->PH->PH->Prop}{s:S}{u m:PH}(fn:Func)(hc:rgB c=true)(h:∀ (Post:B0) (J':S->PH->PH->Prop),(∀ s u m,J s u m->J' s u m)->G P fn Post ([.reg (rgI c) (rgO c) false (A1q (rgO c).size),.lp J'],s) u m):RW P l c J s u m:=by
 cases c with
 |region id ops dr =>
  cases dr with
  |false=>exact RW.reg fn hc h
  |true=>cases hc
 |_=>cases hc
def Asv (r:Loop):Loop:={ r with state:=.busy }
theorem Avi (p q:Nat)(a b:Value)(t:Array Value):((#[p,q].zip [a,b].toArray).foldl (fun tmps (t,a)=>tmps.setIfInBounds t a) t)=(t.setIfInBounds p a).setIfInBounds q b:=by
 rw[<-A8m];simp
theorem Aw3 {P:Program}{l n:Nat}{r:Loop}{args:List Value}{T:List (Nat×Value)}{u m:PH}{K:PH->PH->Prop}(hm:m l=some (.loop r))(hr:r.state=.ready)(hp:r.pending=none)(hs:args.length=r.params.size)
 (hn:r.tmps.size=n) (hT:∀ x∈T,((r.params.zip args.toArray).foldl (fun tmps (t,a)=>tmps.setIfInBounds t a) r.tmps)[x.1]?=some x.2)
 (h:RW P l r.assign (fun s u1 m1=>m1 l=some (.loop r)/\RW P l r.body (fun _ u2 m2=>m2 l=some (.loop (Asv r))/\K u2 (m2.upd l (.loop r))) s u1 (m1.upd l (.loop (Asv r)))) (S.ofT n T) u m) :
 At1 P l args u m fun v u' m'=>v=.bool true/\K u' m':=by
 intro w hgd;have hl:=hgd.pm l _ hm;have hsz:((r.params.zip args.toArray).foldl (fun tmps (t,a)=>tmps.setIfInBounds t a) r.tmps).size=n:=by
  rw[<-hn,<-A8m];generalize (r.params.zip args.toArray).toList=L;generalize r.tmps=t0;induction L generalizing t0 with
  |nil=>rfl
  |cons x L ih=>rw[A5p,ih];simp
 refine⟨r.fn,_,r.assign,r.body,run_yield hl (by simpa using hs),roundIn_of_wpIn trivial ?_⟩;have hrel:=Rel.start (T:=T) hgd (tmps:=(r.params.zip args.toArray).foldl (fun tmps (t,a)=>tmps.setIfInBounds t a) r.tmps) hT;rw[hsz]at hrel;refine wpIn_mono (h _ _ _ _ hrel) fun e a1 w1 hq=>?_;cases e with
 |normal =>
  obtain⟨s1,u1,m1,ρ1,r1,h1,h2⟩:=hq;have hl1:=r1.gd.pm l _ h1;have hne:∀ k b,s1.hp k=some b->ρ1 k≠l:=fun k b hb e=>by
   obtain⟨_,_,_,e4⟩:=r1.box k b hb;rw[e,h1]at e4;cases e4
  obtain⟨g1,g2⟩:=r1.gd.putO (o':=.loop (Asv r)) h1 rfl;have r2:Rel ⟨w,u,m⟩ s1 u1 (m1.upd l (.loop (Asv r))) ρ1 a1 (w1.putObj l (.loop (Asv r))):=by
   refine⟨r1.sz,r1.tm,r1.df.of fun q e _ hu hm'=>?_,fun k b hb=>?_,r1.inj,r1.lv,g1,r1.gr.trans g2⟩
   ·have hql:q≠l:=fun e'=>by rw[e',h1]at hm';cases hm'
    exact⟨by rw[A7b hql];exact e,hu,by rw[Ad _ _ hql];exact hm'⟩
   ·obtain⟨e1,e2,e3,e4⟩:=r1.box k b hb;exact⟨by rw[A7b (hne k b hb)];exact e1,e2,e3,by rw[Ad _ _ (hne k b hb)];exact e4⟩
  refine⟨_,run_beginRound hl1 hr,wpIn_mono (h2 _ _ _ _ r2) fun e2 a2 w2 hq2=>?_⟩;cases e2 with
  |normal =>
   obtain⟨s2,u2,m2,ρ2,r3,h3,h4⟩:=hq2;have hl2:=r3.gd.pm l _ h3;refine⟨_,_,run_endRound none hl2,?_⟩;have e5:({ Asv r with state:=if (none:Option Code).isNone then .ready else .done,pending:=none }:Loop)=r:=by
    unfold Asv;cases r;simp only at hr hp;subst hr;subst hp;rfl
   rw[e5];obtain⟨g3,g4⟩:=r3.gd.putO (o':=.loop r) h3 rfl;exact⟨_,_,_,rfl,g3,r3.gr.trans g4,rfl,h4⟩
  |_=>exact hq2.elim
 |_=>exact hq.elim
section
variable {P:Program} [Ba P] {fn:Func} {Post:B0} {st:List KI×S} {u m:PH}
def Az4 (st:List KI×S):Option (Operand×Array Tmp×Code×Code):=match st.1 with
 |.code (.rangeFunc g ps x y)::_=>some (g,ps,x,y)
 |_=>none
def Ava (st:List KI×S):List KI×S:=match st.1 with
 |.code (.rangeFunc _ _ _ _)::k=>(k,st.2)
 |_=>st
theorem G.rangeF (g:Operand)(ps:Array Tmp)(x y:Code)(gid:Nat)(cap:List Value)(Inv:PH->PH->Prop)(h:Az4 (adv P st)=some (g,ps,x,y))(hg:(adv P st).2.ev g=.v (.func (.func gid) #[] cap.toArray))(hn:Fd (Ava (adv P st)).1=true)
 (hc:∀ args w,(callFunc gid args).run P w=.ok (.enter gid args) w)
 (hcall:∀ (l:Nat) (r:Loop),r.state=.ready->r.pending=none->r.params=ps->r.assign=x->r.body=y->r.tmps.size=(adv P st).2.n->(∀ d v,(adv P st).2.tm d=.v v->r.tmps[d]?=some v)->m l=none->u l=none ->
  Ai P gid (.func (.yield l) #[] #[]::cap) u (m.upd l (.loop r)) fun _ u' m'=>∃ r':Loop,r'.state≠.busy/\r'.pending=none/\m' l=some (.loop r')/\∃ m'',PH.le m'' m'/\m'' l=none/\Inv u' m'')
 (k:∀ u' m',PH.le u u'->Inv u' m'->G P fn Post (Ava (adv P st)) u' m'):G P fn Post st u m:=by
 refine G.stp ?_;generalize adv P st=st' at h hg hn hcall k;obtain⟨ks,s⟩:=st'
 match ks,h with
 |.code (.rangeFunc g' ps' x' y')::kk,h =>
  simp only[Az4,A0t,Prod.mk.injEq]at h;obtain⟨rfl,rfl,rfl,rfl⟩:=h;simp only[Ava]at hn hcall k;refine⟨?_⟩;intro c ρ a w hm0 hr;show (Code.rangeFunc g' ps' x' y').wp P (Hs P fn Post c kk) a w;refine (wpIn_wide (n:=0)).1 (wpIn_rangeFunc fun fid _=>?_);obtain⟨rec,hrec⟩:∃ rec:Loop,rec={ state:=.ready,pending:=none,fn:=fid,tmps:=a.tmps,params:=ps',assign:=x',body:=y',defers:=w.heap.size }:=⟨_,rfl⟩;have hen:=run_enterLoop_outer (P:=P) (w:=w) fid a.tmps ps' x' y';rw[<-hrec]at hen;obtain⟨w1,hw1⟩:∃ w1,w1=w.alloc (.deferred (some [])):=⟨_,rfl⟩;rw[<-hw1]at hen;have hs1:w1.heap.size=w.heap.size+1:=by rw[hw1,Br]
  rw[<-hs1]at hen;have hd1:w1.heap[w.heap.size]?=some (.deferred (some [])):=by rw[hw1];exact Ca _ _
  have hum:u w.heap.size=none:=hr.gd.pu.none (A0w _);have hmm:m w.heap.size=none:=hr.gd.pm.none (A0w _);have hgd1:Bx u m w1:=by
   refine⟨fun g o hg=>?_,fun g o hg=>?_,hr.gd.ap,fun g cs t fr j z hg hj=>?_⟩
   ·rw[hw1,A9 _ _ (hr.gd.pu.lt hg)];exact hr.gd.pu g o hg
   ·rw[hw1,A9 _ _ (hr.gd.pm.lt hg)];exact hr.gd.pm g o hg
   ·by_cases e:g=w.heap.size
    ·subst e;rw[hd1]at hg;simp at hg
    ·have hlt:=Bw hg;rw[hs1]at hlt;rw[hw1,A9 _ _ oV]at hg;exact hr.gd.cl g cs t fr j z hg hj
  have hgr1:Bz c.u0 c.m0 c.w0 u m w1:=hr.gr.trans ⟨oV,fun g hg _=>by rw[hw1];exact A9 _ _ hg,fun _ _=>rfl,fun _ _ h=>h,by rw[hw1];exact⟨rfl,rfl⟩,fun _=>by rw[hw1];exact⟨rfl,A0w _⟩⟩;have hr1:Rel c s u m ρ { a with defers:=Ani w.heap.size::a.defers } w1:=by
   refine⟨hr.sz,hr.tm,?_,fun k b hb=>?_,hr.inj,hr.lv,hgd1,hgr1⟩
   ·obtain⟨ds,d1,d2,d2',d3⟩:=hr.df;refine⟨w.heap.size::ds,List.nodup_cons.2 ⟨fun hmem=>?_,d1⟩,by rw[A1y,<-d2];rfl,by rw[<-d2'];rfl,fun q hq=>?_⟩
    ·obtain⟨e,_⟩:=d3 _ hmem;exact absurd (Bw e) oV
    ·rcases A02.1 hq with rfl|hq
     ·exact⟨hd1,hr.gr.sz,hum,hmm⟩
     ·obtain⟨e1,e2,e3,e4⟩:=d3 q hq;exact⟨by rw[hw1,A9 _ _ (Bw e1)];exact e1,e2,e3,e4⟩
   ·obtain⟨⟨cs,f1,f2,f3⟩,f4⟩:=hr.box k b hb;exact⟨⟨cs,by rw[hw1,A9 _ _ (Bw f1)];exact f1,f2,f3⟩,f4⟩
  obtain⟨g1,g2,g3,g4⟩:=hgd1.newO (o:=.loop rec) rfl;have hr2:Rel c s u (m.upd w1.heap.size (.loop rec)) ρ { a with defers:=Ani w.heap.size::a.defers } (w1.alloc (.loop rec)):=by
   refine⟨hr1.sz,hr1.tm,hr1.df.of fun q e _ hu hm'=>?_,fun k b hb=>?_,hr1.inj,hr1.lv,g1,hr1.gr.trans g2⟩
   ·have hlt:=Bw e;exact⟨by rw[A9 _ _ hlt];exact e,hu,by rw[Ad _ _ oV];exact hm'⟩
   ·obtain⟨⟨cs,f1,f2,f3⟩,f4,f5,f6⟩:=hr1.box k b hb;have hlt:=Bw f1;exact⟨⟨cs,by rw[A9 _ _ hlt];exact f1,f2,f3⟩,f4,f5,by rw[Ad _ _ oV];exact f6⟩
  have hev:a.eval g'=.func (.func gid) #[] cap.toArray:=by rw[hr.eval g' (by rw[hg];simp),hg];rfl
  have hcc:=hcall w1.heap.size rec (by rw[hrec]) (by rw[hrec]) (by rw[hrec]) (by rw[hrec]) (by rw[hrec]) (by rw[hrec];exact hr.sz) (fun d v hd=>by
   have:=hr.tm d (by rw[hd];simp);rw[hd]at this;rw[hrec];exact this) g3 g4
  obtain⟨dd,hdd⟩:∃ dd:Deferred,dd={ target:=.fn (.func gid) cap.toArray,args:=#[.func (.yield w1.heap.size) #[] #[]] }:=⟨_,rfl⟩;have hres:(resolve a.eval (rangeCall g' w1.heap.size) 0).run P (w1.alloc (.loop rec))=.ok dd (w1.alloc (.loop rec)):=by
   rw[hdd];simp only[resolve,rangeCall,hev,Deferred.ofValue];simp[Act.eval]
  have hinv:(invoke dd.target dd.args).run P (w1.alloc (.loop rec))=.ok (.enter gid (.func (.yield w1.heap.size) #[] #[]::cap).toArray) (w1.alloc (.loop rec)):=by
   rw[hdd];simp[invoke,hc]
  refine⟨w1.heap.size,[Ani w.heap.size],w1.alloc (.loop rec),dd,w1.alloc (.loop rec),gid,(.func (.yield w1.heap.size) #[] #[]::cap).toArray,w1.alloc (.loop rec),hen,hres,fun _ _=>trivial,hinv,(fun h=>by cases h),?_⟩
  ·refine callsIn_wide.2 (Calls.mono (hcc _ g1) fun e w3 he=>?_);obtain⟨v,u',m',rfl,k1,k2,r',q1,q2,q3,m'',q4,q5,q6⟩:=he;have hl3:=k1.pm _ _ q3;refine⟨none,_,by rw[<-q2];exact run_endLoop hl3 q1,?_⟩;obtain⟨p1,p2⟩:=k1.putO (o':=.loop { r' with state:=.exhausted }) q3 rfl;have hle4:PH.le m'' (m'.upd w1.heap.size (.loop { r' with state:=.exhausted })):=fun g o hg=>by
    by_cases e:g=w1.heap.size
    ·subst e;rw[q5]at hg;cases hg
    ·rw[Ad _ _ e];exact q4 g o hg
   have hr3:Rel c s u' (m'.upd w1.heap.size (.loop { r' with state:=.exhausted })) ρ { a with defers:=Ani w.heap.size::a.defers } (w3.putObj w1.heap.size (.loop { r' with state:=.exhausted })):=by
    have g5:=k2.trans p2;refine⟨hr2.sz,hr2.tm,hr2.df.of fun q e _ hu hm'=>⟨by rw[g5.old _ (Bw e) hm'];exact e,by rw[g5.us _ (Bw e)];exact hu,g5.ms _ (Bw e) hm'⟩,fun k b hb=>?_,hr2.inj,hr2.lv,p1,hr2.gr.trans g5⟩;obtain⟨e1,e2,e3,e4⟩:=hr2.box k b hb;have hlt:ρ k<(w1.alloc (.loop rec)).heap.size:=by obtain⟨cs,e,_⟩:=e1;exact Bw e
    refine⟨?_,e2,?_,?_⟩
    ·rw[g5.old _ hlt e4];exact e1
    ·rw[g5.us _ hlt];exact e3
    ·exact g5.ms _ hlt e4
   have hk:=(k u' m'' (k2.le g1.pu) q6).out;rw[Sym.ofNo hn]at hk;exact hk c ρ _ _ hm0 (hr3.less hle4)
end
end
section
variable {b sz:Nat}{es:List Value}{m m0:PH}{o:Obj}{t:TypeId}{v:Value}
theorem Ae.base (h:Ae m0 m v t sz es)(hb:m0 b≠none):Ae (m0.upd b o) (m.upd b o) v t sz es:=by
 obtain⟨ho,h⟩:=h;rcases h with ⟨h1,h2,rfl⟩|⟨g,cap,rest,h1,rfl,h2,h3,h4,h5⟩
 ·exact⟨ho,.inl ⟨h1,h2,rfl⟩⟩
 ·have hne:g≠b:=fun e=>by subst e;exact hb h1
  exact⟨ho,.inr ⟨g,cap,rest,by rw[Ad _ _ hne];exact h1,Jg _ _ _ hne,h2,h3,h4,h5⟩⟩
theorem Ae.see (h:Ae m0 m v t sz es)(hb:m0 b=some o):m b=some o:=h.le b o hb
end
section
variable {l:Nat}{m:PH}{o:Obj}
theorem Akp {l b:Nat}(h:b≠l):(m.upd b o).del l=(m.del l).upd b o:=by
 funext k
 by_cases e:k=l
 ·subst e;rw[Ad _ _ (fun e'=>h e'.symm)];simp[PH.del]
 ·by_cases e':k=b
  ·subst e';rw[Ac];simp[PH.del,e,Ac]
  ·rw[Ad _ _ e'];simp[PH.del,e,Ad _ _ e']
theorem W3 (h:m l=none):(m.upd l o).del l=m:=by
 funext k
 by_cases e:k=l
 ·subst e;simp[PH.del,h]
 ·simp[PH.del,e,Ad _ _ e]
theorem Aox (m:PH)(l:Nat):PH.le (m.del l) m:=fun g o h=>by
 unfold PH.del at h;split at h
 ·cases h
 ·exact h
theorem Azo (m:PH)(l:Nat):m.del l l=none:=by unfold PH.del;simp
theorem Ae.del {m0 m:PH}{v:Value}{t:TypeId}{sz:Nat}{es:List Value}{l:Nat}(h:Ae m0 m v t sz es)(hl:m0 l≠none):Ae (m0.del l) (m.del l) v t sz es:=by
 obtain⟨ho,h⟩:=h;rcases h with ⟨h1,h2,rfl⟩|⟨g,cap,rest,h1,rfl,h2,h3,h4,h5⟩
 ·exact⟨ho,.inl ⟨h1,h2,rfl⟩⟩
 ·have hne:g≠l:=fun e=>by subst e;exact hl h1
  exact⟨ho,.inr ⟨g,cap,rest,by unfold PH.del;rw[if_neg hne];exact h1,Akp hne,h2,h3,h4,h5⟩⟩
def Atx (t et:TypeId)(sz b:Nat)(mr:PH)(es:List Value)(m:PH):Prop:=∃ a c,Ae (mr.upd b (.cells #[.slice a es.length c] t (0,0))) m (.slice a es.length c) et sz es
theorem Atx.see {t et:TypeId}{sz b l:Nat}{mr m:PH}{es:List Value}{o:Obj}(h:Atx t et sz b mr es m)(hb:b≠l)(hl:mr l=some o):m l=some o:=by
 obtain⟨a,c,h⟩:=h;exact h.see (by rw[Ad _ _ (fun e=>hb e.symm)];exact hl)
theorem Atx.base {t et:TypeId}{sz b l:Nat}{mr m:PH}{es:List Value}{o:Obj}(h:Atx t et sz b mr es m)(hb:b≠l)(hl:mr l≠none):Atx t et sz b (mr.upd l o) es (m.upd l o):=by
 obtain⟨a,c,h⟩:=h;refine⟨a,c,?_⟩;rw[Jg _ _ _ (fun e=>hb e.symm)];exact h.base (by rw[Ad _ _ (fun e=>hb e.symm)];exact hl)
theorem Avr {u:PH}{v tv:Value}{T:List (List UInt8×Nat)}{R:List Bk}{F:List Ao}{lab:Int}{ss:List (List UInt8)}(h:Af5 u v tv T R F lab ss) :
 Fn0 prog 80 [v,tv] u fun r u'=>∃ lv,r=.tuple #[lv,.int .i64 0]/\Ab u' lv 3 ((Aqk F ss F.length).map A5):=by
 have htu:=Awr h;have hen:=fun (u':PH) (l:PH.le u u')=>Axy (h.mono l);have hor:=h;have hf8:=h.ok.f2;obtain⟨⟨xa,xc,xb,xd,xe,xf,rfl,hTL,hRL,hFL⟩,ok,hS,hT⟩:=h;obtain⟨ya,yc,rfl⟩:=hS.opn;rw[A0p]at hS htu hen hor⊢;refine Fn0.o func80 ?_;refine G.c call164 htu ?_;rintro v1 u1 l1 rfl;refine G.nF 0 0 ?_;refine G.pastI ?_;refine G.pub 4000 34 [.slice none 0 0] kV kV ?_;intro b hb1 hb2;refine G.c call165 (hen u1 l1) ?_;rintro v2 u2 l2 ⟨b1,b2,rfl,e1,e2⟩;refine G.rangeF (rfG Tryz.f80) (A0h Tryz.f80) (rfX Tryz.f80) (rfY Tryz.f80) 230 [.pointer (some ⟨b1,0,none⟩),.pointer (some ⟨b2,0,none⟩)] (fun u' m'=>Atx 34 81 3 b PH.mt ((Aqk F ss F.length).map A5) m') kV kV kV call230 ?_ ?_
 ·intro l r r1 r2 r3 r4 r5 r6 r7 hl1 hl2;have hbl:b≠l:=fun e=>by subst e;rw[Ac]at hl1;cases hl1
  have hps:r.params = #[19,20]:=r3.trans kV;have hn:r.tmps.size=28:=r6.trans kV;have ht7:r.tmps[7]?=some (.pointer (some ⟨b,0,none⟩)):=r7 7 _ kV;have hml:∀ {es:List Value} {m':PH},Atx 34 81 3 b (Qt l (.loop r)) es m'->m' l=some (.loop r):=fun h=>h.see hbl (Cg _ _);refine Ai.weak (Axo (hor.mono (l1.trans l2)) e1 e2 (fun L _ m'=>Atx 34 81 3 b (Qt l (.loop r)) (L.map A5) m') (fun _ _ _ _ _ h=>h) (fun i x u' m' hi hl hJ hx hxi=>?_) ?_) ?_
  ·have hlen:(Aqk F ss i).length<=8:=A0q (Auy F ss i) hf8;refine Aw3 (n:=28) (T:=[(7,.pointer (some ⟨b,0,none⟩)),(19,An x.1),(20,.string (mkS (Af x.2)))]) (hml hJ) r1 r2 (by rw[hps];rfl) hn (fun y hy=>?_) ?_
   ·rw[hps,Avi];simp only[A02,List.not_mem_nil,or_false]at hy;rcases hy with rfl|rfl|rfl
    ·rw[A2l mV,A2l mV];exact ht7
    ·rw[A2l mV];simp[hn]
    ·simp[hn]
   ·rw[r4,r5];refine RW.seq' kV (RW.reg' Tryz.f80 kV fun Post J' hJ'=>?_);refine G.b (hJ' _ _ _ (RW.reg' Tryz.f80 kV fun Post J2 hJ2=>?_));refine G.b (hJ2 _ _ _ ⟨hml hJ,RW.block' kV (RW.reg' Tryz.f80 kV fun Post J3 hJ3=>?_)⟩);have hJb:=hJ.base (o:=.loop (Asv r)) hbl (by rw[Cg];simp);obtain⟨a,c,hA⟩:=hJb;rw[A0p]at hA;have hbs:∀ {n c':Nat} {a':Option Addr},(((Qt l (.loop r)).upd l (.loop (Asv r))).upd b (.cells #[.slice a' n c'] 34 (0,0))) b=some (.cells [A06 a' n c'].toArray 34 (0,0)):=Ac _ _ _;refine G.lM none b 0 (.slice a (Aqk F ss i).length c) (Aa3 (xs:=[.slice a (Aqk F ss i).length c]) (hA.see hbs) rfl) ?_;refine G.B 81 3 40 (.agg #[.int .i64 0,.string (mkS []),.string (mkS [])]) [.agg #[.int .i64 x.1.1,.string (mkS x.1.2),.string (mkS (Af x.2))]] (Ot x) ?_;intro g1 u4 l4 e4;refine G.k 81 3 40 (.agg #[.int .i64 0,.string (mkS []),.string (mkS [])]) _ ((Aqk F ss i).map A5) [.agg #[.int .i64 x.1.1,.string (mkS x.1.2),.string (mkS (Af x.2))]] (.slice a (Aqk F ss i).length c) g1 0 1 1 hA e4 (Ot x) ?_;intro v5 m5 hA5;rw[show ((Aqk F ss i).map A5)++[.agg #[.int .i64 x.1.1,.string (mkS x.1.2),.string (mkS (Af x.2))]]=((Aqk F ss i)++[x]).map A5 by rw[A07];rfl]at hA5;obtain⟨a5,c5,rfl⟩:=hA5.shape;refine G.storeM 1 b 0 34 [.slice a (Aqk F ss i).length c] (.slice a5 (((Aqk F ss i)++[x]).map A5).length c5) kV (hA5.see hbs) (fun y hy=>by simp at hy;subst hy;rfl) mV rfl rfl ?_;have hA6:=hA5.base (b:=b) (o:=.cells #[.slice a5 (((Aqk F ss i)++[x]).map A5).length c5] 34 (0,0)) (by rw[hbs];simp);rw[Dh]at hA6;have hB:Atx 34 81 3 b ((Qt l (.loop r)).upd l (.loop (Asv r))) (((Aqk F ss i)++[x]).map A5) (m5.upd b (.cells #[.slice a5 (((Aqk F ss i)++[x]).map A5).length c5] 34 (0,0))):=⟨a5,c5,hA6⟩;refine G.b (hJ3 _ _ _ ⟨hB.see hbl (Ac _ _ _),?_⟩);have hB2:=hB.base (o:=.loop r) hbl (by rw[Ac];simp);rw[Dh]at hB2;unfold Qt at hB2⊢;rw[Dh]at hB2;exact hB2
  ·refine⟨none,0,?_⟩;unfold Qt;rw[Jg _ _ _ (fun e=>hbl e.symm)];exact Ae.nil _ _ _
  ·rintro v' u' m' hJ;refine⟨r,by rw[r1];simp,r2,hml hJ,m'.del l,Aox _ _,Azo _ _,?_⟩;obtain⟨a,c,hA⟩:=hJ;have:=hA.del (l:=l) (by rw[Ad _ _ (fun e=>hbl e.symm),Cg];simp);rw[Akp hbl]at this;unfold Qt at this;rw[W3 rfl]at this;exact⟨a,c,this⟩
 ·rintro u3 m3 l3 ⟨a,c,hA⟩;refine G.giveP (ma:=m3) (sm:=PH.mt) kV (by funext g;unfold PH.or;cases m3 g<;>rfl) (fun g=>.inr rfl) (fun g=>.inl rfl) ?_
  intro u4 l4 hm4;have hb4:m3 b=some (.cells [A06 a ((Aqk F ss F.length).map A5).length c].toArray 34 (0,0)):=hA.see (Ac _ _ _);refine G.lU none b 0 (.slice a ((Aqk F ss F.length).map A5).length c) ((Aa3 (xs:=[.slice a ((Aqk F ss F.length).map A5).length c]) hb4 rfl).mono hm4) ?_;exact G.r (.tuple #[.slice a ((Aqk F ss F.length).map A5).length c,.int .i64 0]) ⟨rfl,_,rfl,hA.list hm4⟩
end
section
variable {k:Nat}{v:Value}
theorem Ae.fresh {m0 m:PH}{t:TypeId}{sz:Nat}{es:List Value}{b:Nat}{o:Obj}(h:Ae m0 m v t sz es)(hb:m b=none):Ae (m0.upd b o) (m.upd b o) v t sz es:=by
 obtain⟨ho,h⟩:=h;rcases h with ⟨h1,h2,rfl⟩|⟨g,cap,rest,h1,rfl,h2,h3,h4,h5⟩
 ·exact⟨ho,.inl ⟨h1,h2,rfl⟩⟩
 ·have hne:g≠b:=fun e=>by subst e;rw[Ac]at hb;cases hb
  exact⟨ho,.inr ⟨g,cap,rest,by rw[Ad _ _ hne];exact h1,Jg _ _ _ hne,h2,h3,h4,h5⟩⟩
section
variable {P:Program} [Ba P] {fn:Func} {Post:B0} {st:List KI×S} {u m:PH}
theorem G.appendL (e:TypeId)(sz bt:Nat)(z:Value)(m0:PH)(es xs:List Value)(v:Value)(a:Option Addr)(n c:Nat)(h:Al P (adv P st)=.app (some (e,sz,bt,z)) true [v,.slice a n c])(hz:z.cells.toList.all Be=true)(hzs:z.cells.size=sz)(hsz:0<sz)
 (ha:Ae m0 m v e sz es) (hx:Ab u (.slice a n c) sz xs) (ho:A3 sz xs) (hb:(es.length+xs.length)*bt<=140737488355328) (hb2:es.length+xs.length<=9223372036854775807)
 (k:∀ v' m',Ae m0 m' v' e sz (es++xs)->G P fn Post (nx (adv P st) v') u m'):G P fn Post st u m:=by
 have hxl:n=xs.length:=by obtain⟨_,_,e1,_⟩:=hx;cases e1;rfl
 cases xs with
 |nil =>
  simp only[List.length_nil]at hxl;subst hxl;obtain⟨a1,c1,rfl⟩:=ha.shape;refine G.append0 e sz bt z a1 a es.length c1 c h ha.cap ?_;exact k _ _ (by rw[A1i];exact ha)
 |cons x xs =>
  obtain⟨b,off,rfl,_⟩:=Ab.at' hx (j:=0) (e:=x) rfl;subst hxl;exact G.append e sz bt z m0 es (x::xs) v b off _ c h hz hzs hsz ha hx.els ho rfl mV hb hb2 k
end
theorem Ame {u:PH}{L:List Par}{p:Par}(h:Ab u v 2 (L.map An))(hk:L[k]?=some p)(hn:∀ j,j<k->L[j]?≠some p)(hl:L.length<=1000000) :
 Fn0 prog 192 [v,An p] u fun r _=>r=.int .i64 (k:Int):=by
 obtain⟨a,c,rfl⟩:=h.opn;rw[A0p]at h⊢;obtain⟨hkl,hkp⟩:=A0s.1 hk;refine Fn0.o func192 ?_;refine G.l (ι:=Nat) (fun i=>[(0,sV a L.length c),(3,.p 0 0),(7,iV L.length),(8,iV i)]) (fun _=>[(0,⟨79,[iV p.1,tV p.2]⟩)])
  (fun i u' m'=>i<=k/\m'=PH.mt) (fun i=>k+1-i) 0 ⟨oV,rfl⟩ ?_
 rintro J i hJ u1 m1 l1 ⟨hi,rfl⟩;refine G.lT (i:Int) (L.length:Int) ?_;have hLi:L[i]?=some L[i]:=A0n oV;obtain⟨ba,oa,rfl,ea⟩:=Ab.at' (h.mono l1) (j:=i) (e:=An L[i]) (by simp[hLi]);refine G.a ba oa L.length c i 2 oV ?_;refine G.lU (some 2) ba (oa+i*2) (.agg #[.int .i64 L[i].1,.string (mkS L[i].2)]) ea ?_;by_cases he:p=L[i]
 ·have hik:i=k:=by
   rcases A11 i k with e|e
   ·exact absurd (by rw[hLi,<-he]) (hn i e)
   ·omega
  refine G.eqAgg 79 #[.int .i64 p.1,.string (mkS p.2)] #[.int .i64 L[i].1,.string (mkS L[i].2)] true kV kV kV (fun w=>by rw[<-decide_eq_true he];exact Bt.eq p L[i] w) ?_;exact G.r (.int .i64 (i:Int)) ⟨rfl,by rw[hik]⟩
 ·have hik:i≠k:=fun e=>by subst e;exact he hkp.symm
  refine G.eqAgg 79 #[.int .i64 p.1,.string (mkS p.2)] #[.int .i64 L[i].1,.string (mkS L[i].2)] false kV kV kV (fun w=>by rw[<-decide_eq_false he];exact Bt.eq p L[i] w) ?_;refine G.i i ?_;exact G.b (hJ (i+1) _ _ _ cV l1 ⟨oV,rfl⟩ oV)
def Ab9 (P:List Par)(L:List (Par×Rat)):List (List UInt8):=[49]::P.map fun p=>Af (Bi p L)
theorem Agp (P:List Par):Ab9 P [] = [49]::A0x P.length [48]:=by
 unfold Ab9
 congr 1
 have:(fun p:Par=>Af (Bi p []))=fun _=>[48]:=by funext p;unfold Bi;exact Hf
 rw[this,List.map_const']
theorem R4 {κ:Type}[DecidableEq κ]{a:κ}{x:κ×Rat}:∀ {L:List (κ×Rat)},x.1∉L.map (·.1)->Bi a (L++[x])=if a=x.1 then x.2 else Bi a L
 |[],_=>by obtain⟨b,q⟩:=x;simp[Bi]
 |(b,q)::L,h=>by
  rw[A1y,A02,not_or]at h;rw[List.cons_append];unfold Bi;by_cases e:a=b
  ·rw[if_pos e,if_neg (fun e'=>h.1 (by rw[<-e',e]))];simp[e]
  ·rw[if_neg e,R4 h.2];simp[e]
theorem Og {κ:Type}{l:List κ}(h:l.Nodup){i j:Nat}{x:κ}(h1:l[i]?=some x)(h2:l[j]?=some x):i=j:=by
 obtain⟨a1,a2⟩:=A0s.1 h1;obtain⟨b1,b2⟩:=A0s.1 h2;rcases Nat.lt_trichotomy i j with e|e|e
 ·exact absurd (a2.trans b2.symm) (A3q.1 h i j a1 b1 e)
 ·exact e
 ·exact absurd (b2.trans a2.symm) (A3q.1 h j i b1 a1 e)
theorem Ae7 {P:List Par}{L:List (Par×Rat)}{x:Par×Rat}(hk:P[k]?=some x.1)(hn:P.Nodup)(hx:x.1∉L.map (·.1)):(Ab9 P L).set (k+1) (Af x.2)=Ab9 P (L++[x]):=by
 unfold Ab9;rw[List.set_cons_succ]
 congr 1
 obtain⟨hkl,hkp⟩:=A0s.1 hk;refine List.ext_getElem mV fun j h1 h2=>?_;rw[List.getElem_set];simp only[A4r];rw[R4 hx];by_cases e:k=j
 ·subst e;rw[if_pos rfl,if_pos hkp]
 ·rw[if_neg e,if_neg];intro e';simp at h1;exact e (Og hn hk (by rw[A0n (by simpa using h1),e']))
end
section
variable {N:Nat}{k:Par×Par}{q:Rat}
def Am5 (T:TypeId):Op->Bool
 |.indexAddr t _ _=>Nat.beq t T
 |_=>false
section
variable {P:Program} [Ba P] {fn:Func} {Post:B0} {st:List KI×S} {u m:PH}
theorem G.addrA (t e:TypeId)(n b off j sz:Nat)(h:Al P (adv P st)=.addr none (.pointer (some ⟨b,off,none⟩)) (.int .i64 (j:Int)))(hq:U6 (Am5 t) (adv P st)=true)(hu:P.underlying t=some (.array n e))(hs:szB P e=some sz)(hj:j<n)
 (k:G P fn Post (nx (adv P st) (.pointer (some ⟨b,off+j*sz,none⟩))) u m):G P fn Post st u m:=by
 refine G.askQ (Am5 t) h hq mV (fun env o hview hQ w _=>?_) k;obtain⟨t',X,I,e1,e2,e3,_⟩:=Up hview;rw[e1]at hQ;have ht:=Nat.eq_of_beq_eq_true hQ;subst ht;obtain⟨dst,opp,type,pos,after,guard⟩:=o;simp only at e1;subst e1;have h1:(0:Int)<=j/\(j:Int)<n:=oV
 simp[execOp,Instr.indexAt,Instr.sureAddr,asIntOf,e2,e3,run_underlying hu,h1,Bf hs,Db];intro hh;omega
end
theorem Aej {m:PH}{b:Nat}{t:TypeId}(h:m b=some (.cells [A15 .i64 k.1.1,.string (mkS k.1.2),.int .i64 k.2.1,.string (mkS k.2.2)].toArray t (0,0))):ElP m b (0+0*2) (An k.1)/\ElP m b (0+1*2) (An k.2):=by
 have h0:ElP m b 0 (.agg #[.int .i64 k.1.1,.string (mkS k.1.2),.int .i64 k.2.1,.string (mkS k.2.2)]):=Aa3 h rfl;refine⟨h0.sub (k:=0) fun i y hy=>?_,h0.sub (k:=2) fun i y hy=>?_⟩
 ·match i,hy with
  |0,hy=>simpa[An,A1e] using hy
  |1,hy=>simpa[An,A1e] using hy
  |i+2,hy=>simp[An,A1e]at hy
 ·match i,hy with
  |0,hy=>simpa[An,A1e] using hy
  |1,hy=>simpa[An,A1e] using hy
  |i+2,hy=>simp[An,A1e]at hy
theorem SB.ten (h:SB q):Sz q 10000000000:=h.sz.mono oV
theorem KO.fix (h:KO k):Ap k.1 k.2=k:=by unfold Ap;rw[if_neg h]
theorem C5.at {κ:Type}[DecidableEq κ]{enc:κ->Value}{K:κ->Prop}{u:PH}{o:Obj}{f:κ->Rat}(h:C5 enc K u o f N) :
 ∃ l:List (κ×Value),Ec enc o l/\(∀ p∈l,QP u p.2 (f p.1)/\K p.1)/\(∀ k,k∉l.map (·.1)->f k=0)/\l.length<=N:=by
 obtain⟨l,h1,h2,h3,h4⟩:=h;exact⟨l,h1,fun p hp=>⟨(h2 p hp).1,(h2 p hp).2.1⟩,h3,h4⟩
theorem Ahp {u mf:PH}{F H:CF}{N M:Nat}{vf vg vk:Value}(hf:H6 mf u vf F N)(hg:Ov u vg H M)(hk:QP u vk q)(hq:SB q)(sF:CFS F)(sH:CFS H)(sK:CFS (H.scale q))(sR:CFS (F.add (H.scale q))) :
 Ai prog 65 [vf,vg,vk] u mf fun v u' m'=>H6 m' u' v (F.add (H.scale q)) (N+M):=by
 obtain⟨b,a,n,c,b',a',n',c',g1,g2,o1,o2,rfl,hF,ne3,rfl,h1,h2⟩:=hf;obtain⟨wb,wa,wn,wc,wb',wa',wn',wc',w1,w2,p1,p2,rfl,hH,e1,e2,k1,k2⟩:=hg;obtain⟨kb,ka,kn,kc,ka',kn',kc',rfl,_⟩:=hk.opn;obtain⟨l1,⟨es1,clk1,rfl,hkv1,hst1⟩,hl1,hz1,hn1⟩:=k1.at;obtain⟨l2,⟨es2,clk2,rfl,hkv2,hst2⟩,hl2,hz2,hn2⟩:=k2.at;have hnd1:(l1.map (·.1)).Nodup:=Ec.nodup (enc:=An) ⟨es1,clk1,rfl,hkv1,hst1⟩;have hnd2:(l2.map (·.1)).Nodup:=Ec.nodup (enc:=prV) ⟨es2,clk2,rfl,hkv2,hst2⟩;refine Ai.o func65 ?_;refine G.c call34 (Eo hH hk (SB.ten sH.c) hq.ten) ?_;intro v1 u1 le1 r1;obtain⟨b1,a1,x1,c1,a1',x1',c1',rfl,_⟩:=r1.opn;refine G.c call33 (Lw (hF.mono le1) r1 (SB.ten sF.c) (SB.ten sK.c)) ?_;intro v2 u2 le2 r2;obtain⟨b2,a2,x2,c2,a2',x2',c2',rfl,_⟩:=r2.opn;have le12:=le1.trans le2;obtain⟨m2,hm2,hg2,hh2⟩:∃ m2:PH,m2=(PH.mt.upd g1 o1).upd g2 o2/\m2 g1=some o1/\m2 g2=some o2:=⟨_,rfl,by rw[Ad _ _ ne3,Ac],Ac _ _ _⟩;rw[<-hm2];refine G.mapRange w1 es1 clk1 79 68 kV (.inl (le12 _ _ e1)) ?_;intro it him hiu;have i1:g1≠it:=fun e=>by subst e;rw[him]at hg2;cases hg2
 have i2:g2≠it:=fun e=>by subst e;rw[him]at hh2;cases hh2
 refine G.l (ι:=List MapEntry×List (Par×Value)) (fun _=>[(3,.p 0 0),(4,.p 1 0),(5,.p 2 0),(6,.p 3 0),(21,.v (.pointer (some ⟨it,0,none⟩)))])
  (fun _=>[(0,⟨136,[bV b2,sV a2 x2 c2,bV false,sV a2' x2' c2',.v (.map (some g1)),.v (.map (some g2))]⟩),(1,⟨136,[bV wb,sV wa wn wc,bV wb',sV wa' wn' wc',.v (.map (some w1)),.v (.map (some w2))]⟩),(2,⟨68,[bV kb,sV ka kn kc,bV false,sV ka' kn' kc']⟩),(3,⟨136,[bV false,sV none 0 0,bV false,sV none 0 0,.v (.map none),.v (.map none)]⟩)])
  (fun i u' m'=>Eq An es1 l1 i.1 i.2/\m' it=some (.mapIter (some w1) clk1 (Ar i.1) clk1)/\m' g2=some o2/\∃ o1',m' g1=some o1'/\C5 An KT u' o1' (Dd F.s H.s q (i.2.map (·.1))) (N+i.2.length))
  (fun i=>l1.length-i.2.length) ([],[])
  ⟨Eq.nil _ _,Ac _ _ _,by rw[Ad _ _ i2];exact hh2,o1,by rw[Ad _ _ i1];exact hg2,by
   have:Dd F.s H.s q (([]:List (Par×Value)).map (·.1))=F.s:=by funext k;simp[Dd]
   dsimp only;rw[this];exact h1.mono le12⟩ ?_
 rintro J ⟨D,L⟩ hJ u3 m3 le3 ⟨hS,hit,hm2g,o1',hg1,hR⟩;simp only at hS hit hm2g hg1 hR hJ;have le13:=le12.trans le3;refine G.mapNextL Bt.inj it w1 es1 clk1 l1 D L kV kV hit (.inl (le13 _ _ e1)) hst1 hkv1 hnd1 hS ?done1 ?next1
 case next1 =>
  rintro⟨k,xv⟩ e hp hkn he hek hev hS';simp only at hkn hek hev;have hx:=(hl1 _ hp).1;simp only at hx;obtain⟨yb,ya,yn,yc,ya',yn',yc',rfl,_⟩:=hx.opn;refine G.mapEntry it w1 es1 clk1 D e kV (Ac _ _ _) (.inl (le13 _ _ e1)) hst1 he ?_;rw[hek,hev];refine G.c call34 (Eo (hx.mono le13) (hk.mono le13) (SB.ten (sH.s k)) hq.ten) ?_;intro v4 u4 le4 r4;obtain⟨b4,a4,x4,c4,a4',x4',c4',rfl,_⟩:=r4.opn;refine G.callG _ _ kV kV call137 (g:=g1) (o:=o1') (by rw[Ad _ _ i1];exact hg1)
   (Lp (g2:=some g2) (y1:=b2) (y2:=(a2,x2,c2)) (y3:=false) (y4:=(a2',x2',c2')) (hR.mono le4) r4 (sK.s k) (Md sF.s sR.s k) (by
    have:Dd F.s H.s q (L.map (·.1)) k=F.s k:=by unfold Dd;rw[if_neg hkn]
    rw[this,A4y];exact sR.s k)) ?_
  intro v5 u5 o5 le5 r5;rw[He _ _ _ hkn]at r5;refine G.b (hJ (D++[e],L++[(k,_)]) _ _ _ cV ((le3.trans le4).trans le5)
   ⟨hS',by rw[Ad _ _ (Ne.symm i1),Ac],by rw[Ad _ _ (Ne.symm ne3),Ad _ _ i2];exact hm2g,o5,Ac _ _ _,by
    simpa[A28] using r5⟩ (by have:=hS'.len;simp at this;dsimp only;simp;omega))
 case done1 =>
 intro hall;have hF1:Dd F.s H.s q (L.map (·.1))=(F.add (H.scale q)).s:=I4 _ _ _ fun k hk=>hz1 k fun hm=>hk (by
  obtain⟨p,hp,rfl⟩:=A0u.1 hm;exact A0u.2 ⟨p,hall p hp,rfl⟩)
 rw[hF1]at hR;have hLl:=hS.len;refine G.mapRange w2 es2 clk2 206 68 kV (.inl (le13 _ _ e2)) ?_;intro it2 him2 hiu2;have j1:g1≠it2:=fun e=>by subst e;rw[him2]at hg1;cases hg1
 have j2:g2≠it2:=fun e=>by subst e;rw[him2]at hm2g;cases hm2g
 refine G.l (ι:=List MapEntry×List ((Par×Par)×Value)) (fun _=>[(3,.p 0 0),(4,.p 1 0),(5,.p 2 0),(6,.p 3 0),(35,.v (.pointer (some ⟨it2,0,none⟩)))])
  (fun _=>[(0,⟨136,[bV b2,sV a2 x2 c2,bV false,sV a2' x2' c2',.v (.map (some g1)),.v (.map (some g2))]⟩),(1,⟨136,[bV wb,sV wa wn wc,bV wb',sV wa' wn' wc',.v (.map (some w1)),.v (.map (some w2))]⟩),(2,⟨68,[bV kb,sV ka kn kc,bV false,sV ka' kn' kc']⟩),(3,⟨136,[bV false,sV none 0 0,bV false,sV none 0 0,.v (.map none),.v (.map none)]⟩)])
  (fun i u' m'=>Eq prV es2 l2 i.1 i.2/\m' it2=some (.mapIter (some w2) clk2 (Ar i.1) clk2)/\m' g1=some o1'/\∃ o2',m' g2=some o2'/\C5 prV KO u' o2' (Dd F.t H.t q (i.2.map (·.1))) (N+i.2.length))
  (fun i=>l2.length-i.2.length) ([],[])
  ⟨Eq.nil _ _,Ac _ _ _,by rw[Ad _ _ j1];exact hg1,o2,by rw[Ad _ _ j2];exact hm2g,by
   have:Dd F.t H.t q (([]:List ((Par×Par)×Value)).map (·.1))=F.t:=by funext k;simp[Dd]
   dsimp only;rw[this];exact h2.mono le13⟩ ?_
 rintro J2 ⟨D2,L2⟩ hJ2 u6 m6 le6 ⟨hS2,hit2,hm1g,o2',hg22,hR2⟩;simp only at hS2 hit2 hm1g hg22 hR2 hJ2;have le16:=le13.trans le6;refine G.mapNextL G1.inj it2 w2 es2 clk2 l2 D2 L2 kV kV hit2 (.inl (le16 _ _ e2)) hst2 hkv2 hnd2 hS2 ?done2 ?next2
 case next2 =>
  rintro⟨k,xv⟩ e hp hkn he hek hev hS';simp only at hkn hek hev;obtain⟨hx,hko⟩:=hl2 _ hp;simp only at hx hko;have hfix:=hko.fix;obtain⟨yb,ya,yn,yc,ya',yn',yc',rfl,_⟩:=hx.opn;refine G.mapEntry it2 w2 es2 clk2 D2 e kV (Ac _ _ _) (.inl (le16 _ _ e2)) hst2 he ?_;rw[hek,hev];refine G.pub 8003 206 [.int .i64 k.1.1,.string (mkS k.1.2),.int .i64 k.2.1,.string (mkS k.2.2)] kV kV ?_;intro bq hq1 hq2;have q1:g1≠bq:=fun e=>by subst e;rw[Ad _ _ j1,hm1g]at hq2;cases hq2
  have q2:g2≠bq:=fun e=>by subst e;rw[Ad _ _ j2,hg22]at hq2;cases hq2
  have q3:it2≠bq:=fun e=>by subst e;rw[Ac]at hq2;cases hq2
  obtain⟨pe1,pe2⟩:=Aej (m:=(m6.upd it2 (.mapIter (some w2) clk2 (Ar (D2++[e])) clk2)).upd bq (.cells [A15 .i64 k.1.1,.string (mkS k.1.2),.int .i64 k.2.1,.string (mkS k.2.2)].toArray 206 (0,0))) (Ac _ _ _);refine G.addrA 206 79 2 bq 0 0 2 kV kV kV kV oV ?_;refine G.lM (some 2) bq (0+0*2) (.agg #[.int .i64 k.1.1,.string (mkS k.1.2)]) pe1 ?_;refine G.addrA 206 79 2 bq 0 1 2 kV kV kV kV oV ?_;refine G.lM (some 2) bq (0+1*2) (.agg #[.int .i64 k.2.1,.string (mkS k.2.2)]) pe2 ?_;refine G.c call34 (Eo (hx.mono le16) (hk.mono le16) (SB.ten (sH.t k)) hq.ten) ?_;intro v4 u4 le4 r4;obtain⟨b4,a4,x4,c4,a4',x4',c4',rfl,_⟩:=r4.opn;refine G.callG _ _ kV kV call138 (g:=g2) (o:=o2') (by rw[Ad _ _ q2,Ad _ _ j2];exact hg22)
   (F7 (g1:=some g1) (y1:=b2) (y2:=(a2,x2,c2)) (y3:=false) (y4:=(a2',x2',c2')) (p:=k.1) (r:=k.2) (hR2.mono le4) r4 (sK.t k) (by rw[hfix];exact Md sF.t sR.t k) (by
    have:Dd F.t H.t q (L2.map (·.1)) k=F.t k:=by unfold Dd;rw[if_neg hkn]
    rw[hfix,this,A4y];exact sR.t k)) ?_
  intro v5 u5 o5 le5 r5;rw[hfix,He _ _ _ hkn]at r5;refine G.b (hJ2 (D2++[e],L2++[(k,_)]) _ _ _ cV ((le6.trans le4).trans le5)
   ⟨hS',by rw[Ad _ _ (Ne.symm j2),Ad _ _ q3,Ac],by rw[Ad _ _ ne3,Ad _ _ q1,Ad _ _ j1];exact hm1g,o5,Ac _ _ _,by
    simpa[A28] using r5⟩ (by have:=hS'.len;simp at this;dsimp only;simp;omega))
 case done2 =>
 intro hall2;have hF2:Dd F.t H.t q (L2.map (·.1))=(F.add (H.scale q)).t:=I4 _ _ _ fun k hk=>hz2 k fun hm=>hk (by
  obtain⟨p,hp,rfl⟩:=A0u.1 hm;exact A0u.2 ⟨p,hall2 p hp,rfl⟩)
 rw[hF2]at hR2;have hLl2:=hS2.len;refine G.drop ((PH.mt.upd g1 o1').upd g2 o2') kV (fun g o hg=>by
  by_cases e:g=g2
  ·subst e;rw[Ac]at hg;cases hg;exact hg22
  ·rw[Ad _ _ e]at hg;by_cases e:g=g1
   ·subst e;rw[Ac]at hg;cases hg;exact hm1g
   ·rw[Ad _ _ e]at hg;cases hg) ?_
 exact G.r (.agg #[.bool b2,.slice a2 x2 c2,.bool false,.slice a2' x2' c2',.map (some g1),.map (some g2)]) ⟨_,_,_,_,_,_,_,_,g1,g2,o1',o2',rfl,r2.mono (le3.trans le6),ne3,rfl,(hR.mono le6).up oV,hR2.up oV⟩
end
end Go.Proofs.YtanfagpabkdmiaaGreatDoor
