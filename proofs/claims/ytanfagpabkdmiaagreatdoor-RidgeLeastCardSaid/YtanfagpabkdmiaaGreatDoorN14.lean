/- Parts of one proof, joined by a program. -/
import Derived.Test.YtanfagpabkdmiaaGreatDoorN13
set_option linter.unusedVariables false
set_option linter.unusedSimpArgs false
set_option linter.unusedSectionVars false
set_option maxHeartbeats 16000000
namespace Go.Proofs.YtanfagpabkdmiaaGreatDoor
open Go.Proofs.Tryz
open Go.RowKit Go.MapKept
open List renaming all_eq_true -> A08, ext_getElem -> A9c, getElem?_eq_getElem -> A0n, getElem?_eq_some_iff -> A0s, length_map -> A0p, length_replicate -> A3e, length_take -> A00, map_append -> A07, mem_cons -> A02, mem_cons_of_mem -> A1w, mem_iff_getElem -> A2u, mem_map -> A0u, mem_singleton -> A1t, not_mem_nil -> A14, take_length -> A1k
open Nat renaming lt_of_le_of_lt -> A2q, mul_pos -> A5h, zero_le -> A1m
open Rat renaming intCast_le_intCast -> A3t, intCast_mul -> A23, intCast_natCast -> A2j, le_of_lt -> Ba0, mul_eq_zero -> A6c, mul_nonneg -> A2f, mul_zero -> Bcn, natCast_le_natCast -> A5k, natCast_mul -> A6b, not_lt -> A99
section
variable {x:Rat}
theorem Az2 {q:Rat}{z:Int}(h:q*((4320:Nat):Rat)=(z:Rat))(hz:z.natAbs<=30000000):Th q:=by
 obtain⟨h1,h2⟩:=Ag7 h oV;exact⟨De.tx (a:=8) (b:=4) ⟨z,4320,h,oV,oV,oV⟩ oV oV oV oV,h1,oV⟩
theorem Ay5 {x t:Rat}{N:Nat}(h:Dn 2 N x)(hN:N<=979776)(ht:∃ p:Int,t*30=p/\p.natAbs<=180):Th (x+t):=by
 obtain⟨z,h1,h2⟩:=h;obtain⟨p,h3,h4⟩:=ht;refine Az2 (z:=z*30+p*144) ?_ oV;have e:((12^2:Nat):Rat)=144:=jV
 have e2:((4320:Nat):Rat)=4320:=jV
 have e3:((30:Int):Rat)=30:=jV
 have e4:((144:Int):Rat)=144:=jV
 rw[e]at h1;rw[Rat.intCast_add,A23,A23,<-h1,<-h3,e2,e3,e4];grind
theorem Atw {N:Nat}(h:Dn 2 N x)(hN:N<=979776):De 39 18 x:=by
 obtain⟨z,h1,h2⟩:=h;exact⟨z,144,by rw[<-h1],oV,A2q h2 (A2q hN jV),jV⟩
section
variable {P:List Par} {C:CF} {q:Rat} {N k:Nat}
theorem Ax6 (hcd:G5 N C)(hN:N<=979776)(hq:∃ p:Int,q*30=p/\p.natAbs<=180):∀ r∈Pu C P q,∀ x∈r,Th x:=by
 intro r hr x hx;have hA:=N4 (P:=P) (C:=C) (q:=q);obtain⟨i,hi,rfl⟩:=A2u.1 hr;obtain⟨j,hj,rfl⟩:=A2u.1 hx;have hi':i<P.length+1:=by have:=hA.1;omega
 have hj':j<P.length+1:=by have:=hA.2 i hi';rw[N6 hi]at this;omega
 have e:=Air (P:=P) (C:=C) (q:=q) hi' hj';unfold en at e;rw[N6 hi,Mj hj]at e;rw[e];refine Ay5 (hcd.c _ _) hN ?_;split
 ·exact hq
 ·exact⟨0,jV,fV⟩
theorem Avu (hcd:G5 N C)(hN:N<=979776):∀ x∈Y0 C P,Th x:=by
 intro x hx;obtain⟨e,_,rfl⟩:=A0u.1 hx;have h:=Ay5 (t:=0) (hcd.r e) hN ⟨0,jV,fV⟩;rwa[Rat.add_zero]at h
theorem At7 (hcd:G5 N C)(hN:N<=979776)(hv:CFV C)(hc:C.c=(k:Rat))(hk:k<100):Iq C k:=by
 refine⟨hc,hk,fun p=>Atw (hcd.c none (some p)) hN,fun p=>?_⟩;by_cases h:C.t p=0
 ·rw[h];exact Atw (Dn.zero 2 0) oV
 ·have h3:=(hv.t p h).2.2;have e:Ap p.1 p.2=p:=by unfold Ap;rw[if_neg h3]
  have:=Atw (hcd.c (some p.1) (some p.2)) hN;rw[show As C (some p.1) (some p.2)=C.t (Ap p.1 p.2) from rfl,e]at this;exact this
theorem Kl.sixty (h:Kl q):∃ p:Int,q*30=p/\p.natAbs<=180:=by
 obtain⟨p,h1,h2⟩:=h.thirty;exact⟨p,h1,oV⟩
theorem Atq {b b':Option Par->Rat}(h:Fv P C q b)(h':Fv P C q b')(hq:0<q)(hc:0<C.c)(hp:∀ z,0<=Bm z P C):∀ e∈Ak P,b e=b' e:=fun e he=>by
 have:=Aji (P:=P) (C:=C) (z:=fun e=>b e-b' e) hq hc hp (fun e he=>by
  have h1:=h e he;have h2:=h' e he;have h3:Au (fun f=>As C e f*(b f-b' f)) (Ak P)=Au (fun f=>As C e f*b f) (Ak P)-Au (fun f=>As C e f*b' f) (Ak P):=by
   have:Au (fun f=>As C e f*b f) (Ak P)=Au (fun f=>As C e f*(b f-b' f)+As C e f*b' f) (Ak P):=Bb fun f _=>by grind
   rw[this,D1];grind
  have h4:Kp q (fun e=>b e-b' e) e=Kp q b e-Kp q b' e:=by
   cases e with
   |none=>show (0:Rat)=0-0;grind
   |some p=>show q*(b (some p)-b' (some p))=q*b (some p)-q*b' (some p);grind
  rw[h3,h4];grind) e he
 grind
theorem Atl (hnd:P.Nodup){m0 m0':Rat}{qs qs':List Rat}(hl:qs.length=P.length)(hl':qs'.length=P.length)(h:∀ e∈Ak P,cfE m0 (P.zip qs) e=cfE m0' (P.zip qs') e):m0=m0'/\qs=qs':=by
 refine⟨h none (by unfold Ak;simp),A9c oV fun j h1 h2=>?_⟩;have e:=h _ (Akj (P:=P) (i:=j+1) oV);rw[Ag6 hnd hl _ oV,Ag6 hnd hl' _ oV]at e;rw[show gR (m0::qs) (j+1)=gR qs j from rfl,show gR (m0'::qs') (j+1)=gR qs' j from rfl,Mj h1,Mj h2]at e;exact e
end
section
variable {u:PH} {v cv:Value} {T:List (List UInt8×Nat)} {R:List Bk} {F:List Ao} {lab:Int} {L:List E7} {q:Rat} {K:Nat}
theorem As9 (hX:F1 u v T R F lab)(ok:Bn u T R F lab)(h8:T.length<=8)(hT:∀ y∈L,Cr T y.1/\y.2.1<=7)(h12:L.length<=12)(f5:F.length<=5)(lab0:0<=lab)(hC:H7 u cv (C8 F lab L) K)(hK:K<=10000):∃ k,Arn u v cv T R F lab (C8 F lab L) K k:=by
 obtain⟨k,hk,hk7⟩:=An2 ok.feat ok.l1 (Xi ok) hT;obtain⟨sC,vC⟩:=S9 ok h8 hT oV;have hcd:=Ae2 ok ok.l1 (Xi ok) hT;exact⟨k,hX,ok,hC,sC,vC,hK,Aec,At7 hcd oV vC hk oV,fun P hP=>by
  have:=Al6 ok.feat (fun y hy=>(hT y hy).1) hP;omega,lab0⟩
theorem Axv {C:CF}{k:Nat}(h:Iq C k)(hc:0<C.c):1<=C.c:=by
 rw[h.c]at hc⊢;have h1:((0:Nat):Rat)<(k:Rat):=hc;have h2:0<k:=Rat.natCast_lt_natCast.1 h1;have:((1:Nat):Rat)<=(k:Rat):=A5k.2 h2;simpa using this
theorem Axh (ok:Bn u T R F lab)(h8:T.length<=8)(hT:∀ y∈L,Cr T y.1/\y.2.1<=7)(h6:L.length<=6)(hq:Kl q):Ax1 F (C8 F lab L) q:=by
 obtain⟨k,hk,hk7⟩:=An2 ok.feat ok.l1 (Xi ok) hT;obtain⟨sC,vC⟩:=S9 ok h8 hT oV;have hcd:=Ae2 ok ok.l1 (Xi ok) hT;have hm:=At7 hcd oV vC hk oV;have hpsd:=fun P z=>Ahu ok.feat ok.l1 (Xi ok) z P fun y hy=>(hT y hy).1;refine⟨fun P _=>Ax6 hcd oV hq.sixty,fun P _=>Avu hcd oV,hpsd,fun P hP h11 hc=>Aot (hP.1.nodup Dp) hcd oV hq h11 (Axv hm hc) (hpsd P) fun z=>Aoh ok.feat ok.l1 (Xi ok) z P fun y hy=>(hT y hy).1⟩
end
end
section
structure Bda (L:List Par)(m0:Rat)(M:List (Par×Rat)):Prop where
 c:SmR m0
 t:∀ x∈M,SmR x.2
 sub:(M.map (·.1)).Sublist L
theorem Bda.ok {P:List Par}{m0:Rat}{M:List (Par×Rat)}(h:Bda P m0 M)(hP:Ef A8 P):Ew P m0 M where
 c:=h.c.tx
 t:=fun x hx=>(h.t x hx).tx
 srt:=List.Pairwise.sublist h.sub hP
 sub:=fun x hx=>h.sub.subset (A0u.2 ⟨x,hx,rfl⟩)
 len:=by have:=h.sub.length_le;rwa[A0p]at this
theorem Bdi {u:PH}{s:Src}{ts:List Int}{k:Nat}{v:Value}{L:List Par}(h:Aq7 u s ts)(hk:k<=s.n)(hL:Ab u v 2 (L.map An))(hl:L.length<=1000) :
 Ai prog 25 [s.ptr,v] u (s.M k) fun r u' m'=>∃ (m0:Rat) (M:List (Par×Rat)) (k':Nat),Ar9 u' r m0 M/\Bda L m0 M/\k'<=s.n/\m'=s.M k':=by
 obtain⟨la,lc,rfl⟩:=hL.opn;rw[A0p]at hL⊢;refine Ai.o func25 ?_;refine G.A call72 (Bdg h hk) ?_;rintro v1 u1 m1 l1 ⟨m0,k1,rfl,hm0,hk1,rfl⟩ _;rw[C2];refine G.l (ι:=Nat×Nat×List (Par×Rat)×(Option Addr×Nat)) (fun i=>[(0,.v s.ptr),(4,.p 0 0),(5,.p 1003 0),(11,sV la L.length lc),(12,iV L.length),(13,iV i.1)])
  (fun i=>[(0,⟨42,[tV [],sV none 0 0]⟩),(1003,⟨42,[tV (Af m0),sV i.2.2.2.1 i.2.2.1.length i.2.2.2.2]⟩)])
  (fun i u' m'=>i.1<=L.length/\i.2.1<=s.n/\(i.2.2.1.map (·.1)).Sublist (L.take i.1)/\(∀ x∈i.2.2.1,SmR x.2)/\Bag m' [s.arr i.2.1,Bdv i.2.2.2.1 i.2.2.2.2 i.2.2.1])
  (fun i=>L.length-i.1) (0,k1,[],(none,0))
  ⟨A1m _,hk1,List.Sublist.refl _,fun q hq=>by simp at hq,s.bag0 k1 ⟨PH.mt,Ae.nil _ _ _,trivial⟩⟩ ?_
 rintro J ⟨i,k2,M,⟨ma,mc⟩⟩ hJ u2 m2 l2 ⟨hi,hk2,hsub,hsm,hbag⟩;simp only at hi hk2 hsub hsm hbag hJ;have le2:=l1.trans l2;have hMl:M.length<=1000:=by
  have:=hsub.length_le;rw[A0p,A00]at this;omega
 obtain⟨mx,hsrc,hM⟩:=hbag;obtain⟨rfl,hg0⟩:=Src.split hsrc;by_cases hlt:i<L.length
 ·refine G.lT (i:Int) (L.length:Int) ?_;obtain⟨p,hLi⟩:∃ p,L[i]?=some p:=⟨_,A0n hlt⟩;have htk:=E6 hLi;obtain⟨ba,oa,rfl,ea⟩:=Ab.at' (hL.mono le2) (j:=i) (e:=An p) (by simp[hLi]);refine G.a ba oa L.length lc i 2 hlt ?_;refine G.lU (some 2) ba (oa+i*2) (.agg #[.int .i64 p.1,.string (mkS p.2)]) ea ?_;refine G.D call73 (Src.apart hg0) (Ia (n:=5) (h.mono le2) hk2 oV oV) ?_;rintro v3 u3 m3 l3 ⟨r,k3,rfl,hr,hk3,rfl⟩ _;by_cases hr0:0<r
  ·refine G.gT (r:Int) 0 ?_;refine G.D call72 (Src.apart hg0) (Bdg ((h.mono le2).mono l3) hk3) ?_;rintro v4 u4 m4 l4 ⟨q,k4,rfl,hq,hk4,rfl⟩ _;refine G.B 81 3 40 (.agg #[.int .i64 0,.string (mkS []),.string (mkS [])]) [.agg #[.int .i64 p.1,.string (mkS p.2),.string (mkS (Af q))]] (Ot (p,q)) ?_;intro g5 u5 l5 e5;have hbag2:Bag (mx.or (s.M k4)) [s.arr k4,Bdv ma mc M]:=⟨mx,Src.at hg0,hM⟩;obtain⟨mm,hx0,hput⟩:=hbag2.focus 1 rfl;refine G.k 81 3 40 (.agg #[.int .i64 0,.string (mkS []),.string (mkS [])]) mm (M.map A5) [A5 (p,q)] _ g5 0 1 1 hx0 e5 (Ot (p,q)) ?_;intro v6 m6 hA6;rw[show M.map A5++[A5 (p,q)]=(M++[(p,q)]).map A5 by rw[A07];rfl]at hA6;obtain⟨a6,c6,rfl⟩:=hA6.shape;rw[A0p]at hA6⊢;have hbag3:=hput (Bdv a6 c6 (M++[(p,q)])) m6 hA6;refine G.i i ?_;refine G.b (hJ (i+1,k4,M++[(p,q)],(a6,c6)) _ _ _ cV (((l2.trans l3).trans l4).trans l5) ⟨dV,hk4,?_,?_,hbag3⟩ dV)
   ·show ((M++[(p,q)]).map (·.1)).Sublist _;rw[htk,A07];exact hsub.append (List.Sublist.refl _)
   ·intro x hx;rcases List.mem_append.1 hx with hx|hx
    ·exact hsm x hx
    ·simp only[A1t]at hx;subst hx;exact hq
  ·refine G.gF (r:Int) 0 ?_;refine G.i i ?_;refine G.b (hJ (i+1,k3,M,(ma,mc)) _ _ _ cV (l2.trans l3) ⟨dV,hk3,?_,hsm,⟨mx,Src.at hg0,hM⟩⟩ dV);show (M.map (·.1)).Sublist _;rw[htk];exact hsub.trans (List.sublist_append_left _ _)
 ·obtain rfl:i=L.length:=oV
  refine G.lF (L.length:Int) (L.length:Int) ?_;rw[A1k]at hsub;refine G.giveP (ma:=mx) (sm:=s.M k2) kV rfl (Src.apart hg0) (s.h0 k k2) ?_;intro u3 l3 hm;exact G.r (.agg #[.string (mkS (Af m0)),.slice ma M.length mc]) ⟨m0,M,k2,⟨ma,mc,rfl,hM.list hm 0 rfl⟩,⟨hm0,hsm,hsub⟩,hk2,rfl⟩
end
section
section
variable {P:List Par} {C:CF} {b d:Option Par->Rat} {q:Rat} {N D:Nat}
theorem Bc9 {x y m n:Rat}(h:-m<=x/\x<=m)(h':-n<=y/\y<=n):-(m*n)<=x*y/\x*y<=m*n:=by
 have a1:=A2f (a:=m-x) (b:=n+y) (by grind) (by grind);have a2:=A2f (a:=m+x) (b:=n-y) (by grind) (by grind);have a3:=A2f (a:=m-x) (b:=n-y) (by grind) (by grind);have a4:=A2f (a:=m+x) (b:=n+y) (by grind) (by grind);constructor<;>grind
theorem Bdp (hc:G5 N C)(hq:∃ p:Int,q*30=p)(hz:∀ e∈Ak P,∃ z:Int,b e*(D:Rat)=z):IsZ (As3 q b P C*((D*D*144*30:Nat):Rat)):=by
 obtain⟨p,hp⟩:=hq;have h1:=Ap4 hc hz;have h2:IsZ (G9 P b*((D:Rat)*(D:Rat))):=by
  unfold G9;rw[<-Ej];refine IsZ.sum fun x hx=>?_;have:=hz (some x) (by unfold Ak;exact A1w _ (A0u.2 ⟨x,hx,rfl⟩));rw[show b (some x)*b (some x)*((D:Rat)*(D:Rat))=(b (some x)*(D:Rat))*(b (some x)*(D:Rat)) by grind];exact IsZ.mul this this
 have e0:((D*D*144:Nat):Rat)=(D:Rat)*(D:Rat)*144:=by rw[A6b,A6b];rfl
 have e1:((D*D*144*30:Nat):Rat)=((D*D*144:Nat):Rat)*30:=by rw[A6b];rfl
 unfold As3;rw[show (sqC b P C+q*G9 P b)*((D*D*144*30:Nat):Rat)=sqC b P C*((D*D*144:Nat):Rat)*30+(q*30)*(G9 P b*((D:Rat)*(D:Rat)))*144 by rw[e1,e0];grind,hp];exact ((h1.mul (IsZ.nat 30)).add ((IsZ.mul ⟨p,rfl⟩ h2).mul (IsZ.nat 144)))
theorem Bdj:As3 q (fun _=>0) P C=C.t (Ap Aq Aq):=by
 unfold As3 sqC;rw[Aau P C fun _=>rfl,Bv fun e _=>Rat.zero_mul _,show G9 P (fun _=>0)=0 from Bv fun p _=>Bcn _];grind
theorem Bdh (hq:0<=q)(hsq:0<=sqC b P C):0<=As3 q b P C:=by
 have:=A2f hq (Rn P b);unfold As3;grind
theorem Bdq (hcd:G5 N C)(hN:N<=489888)(hq:Kl q)(hP:P.length<=11)(hcp:1<=C.c)(hpsd:∀ z,0<=Bm z P C)(hsq:∀ z,0<=sqC z P C)(h:Fv P C q b):De 215 211 (As3 q b P C):=by
 have hc0:0<C.c:=by
  have h1:(0:Rat)<1:=jV
  grind
 obtain⟨D,h0,h1,h2⟩:=Ady hcd hN hP hq.thirty hq.pos hc0 hpsd h;obtain⟨p,hp,_⟩:=hq.thirty;have hz:=Bdp (q:=q) hcd ⟨p,hp⟩ h2;have hl:=h.least (Ba0 hq.pos) hpsd fun _=>0;have e0:=Bdj (P:=P) (C:=C) (q:=q);unfold As3 at e0;rw[e0]at hl;have ht:=(Xu hcd.l hN).2;have hn:=Bdh (P:=P) (Ba0 hq.pos) (hsq b);have e1:((3402:Nat):Rat)=3402:=jV
 refine Amy (D:=D*D*144*30) (m:=3402) (A5h (A5h (A5h h0 h0) oV) oV) ?_ hz ⟨?_,?_⟩ jV
 ·exact Di (Di (Di h1 h1) (show 144<10^3 by decide)) (show 30<10^2 by omega)
 ·rw[e1];grind
 ·rw[e1];unfold As3;grind
theorem Bdo (hcd:G5 N C)(hN:N<=489888)(hq:∃ p:Int,q*30=p/\p.natAbs<=180)(hP:P.length<=11)(hz:∀ e∈Ak P,∃ z:Int,b e*((12:Nat):Rat)=z)(hm:∀ e∈Ak P,-9<=b e/\b e<=9):De 15 6 (As3 q b P C):=by
 obtain⟨p,hp,hp90⟩:=hq;have hlz:=Bdp (q:=q) hcd ⟨p,hp⟩ hz;have hl:=Bo P;have hlen:∀ n:Nat,n<=12->∀ m:Rat,0<=m->(n:Rat)*m<=12*m:=fun n hn m hm=>by
  have h1:(n:Rat)<=((12:Nat):Rat):=A5k.2 hn;have e:((12:Nat):Rat)=12:=jV
  rw[e]at h1;have:=A2f (a:=12-(n:Rat)) (b:=m) (by grind) hm;grind
 have hnorm:-(12*(12*275562))<=Bm b P C/\Bm b P C<=12*(12*275562):=by
  have h1:∀ e∈Ak P,-(12*275562)<=Au (fun f=>b e*As C e f*b f) (Ak P)/\Au (fun f=>b e*As C e f*b f) (Ak P)<=12*275562:=fun e he=>by
   have h2:=Zp (f:=fun f=>b e*As C e f*b f) (m:=275562) (l:=Ak P) fun f hf=>by
    have:=Bc9 (Bc9 (hm e he) (Xu (hcd.c e f) hN)) (hm f hf);rwa[show (9:Rat)*3402*9=275562 by decide +kernel]at this
   have h3:=hlen (Ak P).length oV 275562 jV;constructor<;>grind
  have h2:=Zp (f:=fun e=>Au (fun f=>b e*As C e f*b f) (Ak P)) (m:=12*275562) (l:=Ak P) h1;have h3:=hlen (Ak P).length oV (12*275562) jV;unfold Bm;constructor<;>grind
 have hr:-(12*30618)<=Au (fun e=>b e*Ay C e) (Ak P)/\Au (fun e=>b e*Ay C e) (Ak P)<=12*30618:=by
  have h2:=Zp (f:=fun e=>b e*Ay C e) (m:=30618) (l:=Ak P) fun e he=>by
   have:=Bc9 (hm e he) (Xu (hcd.r e) hN);rwa[show (9:Rat)*3402=30618 by decide +kernel]at this
  have h3:=hlen (Ak P).length oV 30618 jV;constructor<;>grind
 have hs:-(12*81)<=G9 P b/\G9 P b<=12*81:=by
  have h2:=Zp (f:=fun p=>b (some p)*b (some p)) (m:=81) (l:=P) fun p hp=>by
   have hp':some p∈Ak P:=by unfold Ak;exact A1w _ (A0u.2 ⟨p,hp,rfl⟩)
   have:=Bc9 (hm _ hp') (hm _ hp');rwa[show (9:Rat)*9=81 by decide +kernel]at this
  have h3:=hlen P.length oV 81 jV;unfold G9;constructor<;>grind
 have hq6:-6<=q/\q<=6:=by
  have a1:((p:Int):Rat)<=((180:Int):Rat):=A3t.2 oV;have a2:(((-180:Int)):Rat)<=(p:Rat):=A3t.2 oV;rw[show ((180:Int):Rat)=180 by decide +kernel]at a1;rw[show ((-180:Int):Rat) = -180 by decide +kernel]at a2;constructor<;>grind
 have hqs:=Bc9 hq6 hs;have ht:=Xu hcd.l hN;have e1:((100000000:Nat):Rat)=100000000:=jV
 have c1:(6:Rat)*(12*81)=5832:=jV
 have c2:(12:Rat)*(12*275562)=39680928:=jV
 have c3:(12:Rat)*30618=367416:=jV
 rw[c1]at hqs;rw[c2]at hnorm;rw[c3]at hr;refine Amy (D:=12*12*144*30) (m:=100000000) oV oV hlz ⟨?_,?_⟩ jV
 ·rw[e1];unfold As3 sqC;grind
 ·rw[e1];unfold As3 sqC;grind
theorem Fv.grad (h:Fv P C q b):∀ e∈Ak P,Bc6 q b P C e=0:=fun e he=>by
 have:=h e he;unfold Bc6 Bc7;grind
theorem Fv.min (h:Fv P C q b)(hq:0<=q)(hp:∀ z,0<=Bm z P C):As3 q b P C<=As3 q d P C:=h.least hq hp d
theorem Fv.only (h:Fv P C q b)(hq:0<q)(hc:0<C.c)(hp:∀ z,0<=Bm z P C)(he:As3 q b P C=As3 q d P C):∀ e∈Ak P,b e=d e:=by
 have h1:=h.loss fun e=>d e-b e;have e:(fun e=>d e-b e+b e)=d:=funext fun e=>by grind
 rw[e]at h1;unfold As3 at he;have h2:Bm (fun e=>d e-b e) P C+q*G9 P (fun e=>d e-b e)=0:=by grind
 obtain⟨z,hz⟩:∃ z:Option Par->Rat,z=fun e=>d e-b e:=⟨_,rfl⟩;rw[<-hz]at h2;have h3:=hp z;have h4:=Rn P z;have h5:=A2f (Ba0 hq) h4;have h6:G9 P z=0:=by
  have:q*G9 P z=0:=by grind
  rcases A6c.1 this with e|e
  ·rw[e]at hq;exact absurd hq jV
  ·exact e
 have hsq:∀ x:Rat,0<=x*x:=fun x=>by
  rcases Rat.le_total (a:=0) (b:=x) with h|h
  ·exact A2f h h
  ·have:=A2f (a:=-x) (b:=-x) (by grind) (by grind);grind
 have h7:∀ p∈P,z (some p)=0:=fun p hp=>by
  have:=Z5 (fun q _=>hsq (z (some q))) h6 p hp;rcases A6c.1 this with e|e<;>exact e
 have h8:z none=0:=by
  have h9:Bm z P C=0:=by grind
  have hin:Au (fun f=>z none*As C none f*z f) (Ak P)=z none*C.c*z none:=by
   rw[Gf,Bv fun p hp=>by rw[h7 p hp,Bcn]];show z none*C.c*z none+0=_;grind
  unfold Bm at h9;rw[Gf,hin,Bv fun p hp=>by
   refine Bv fun f _=>?_;rw[h7 p hp];grind]at h9
  have e:z none*C.c*z none=0:=by grind
  rcases A6c.1 e with e|e
  ·rcases A6c.1 e with e|e
   ·exact e
   ·rw[e]at hc;exact absurd hc jV
  ·exact e
 intro e he;have hze:z e=0:=by
  unfold Ak at he;rcases A02.1 he with rfl|he
  ·exact h8
  ·obtain⟨p,hp,rfl⟩:=A0u.1 he;exact h7 p hp
 rw[hz]at hze;simp only at hze;grind
end
theorem Bdn {q:Rat}(h:SmR q):(∃ z:Int,q*((12:Nat):Rat)=z)/\-9<=q/\q<=9:=by
 obtain⟨k,hk⟩:=h.den;have h1:q*(q.den:Rat)=(q.num:Rat):=by
  have h2:q=(q.num:Rat)/(((q.den:Int)):Rat):=by rw[<-Rat.divInt_eq_div,Rat.num_divInt_den]
  have hi:=Rat.mul_inv_cancel _ (Pr q.den_pos);rw[A2j,Rat.div_def]at h2;exact Aqa h2 hi
 have hn:=h.num;have hd:((1:Nat):Rat)<=(q.den:Rat):=A5k.2 q.den_pos;have e1:((1:Nat):Rat)=1:=jV
 rw[e1]at hd;have a1:((q.num:Int):Rat)<=((9:Int):Rat):=A3t.2 oV;have a2:(((-9:Int)):Rat)<=(q.num:Rat):=A3t.2 oV;rw[show ((9:Int):Rat)=9 by decide +kernel]at a1;rw[show ((-9:Int):Rat) = -9 by decide +kernel]at a2;refine⟨⟨q.num*(k:Int),?_⟩,?_,?_⟩
 ·rw[hk,A6b,A23,A2j,<-h1];grind
 ·refine A99.1 fun hl=>?_;have:=A2f (a:=-9-q) (b:=(q.den:Rat)-1) (by grind) (by grind);grind
 ·refine A99.1 fun hl=>?_;have:=A2f (a:=q-9) (b:=(q.den:Rat)-1) (by grind) (by grind);grind
theorem Bda.z {P:List Par}{m0:Rat}{M:List (Par×Rat)}(h:Bda P m0 M):∀ e,(∃ z:Int,cfE m0 M e*((12:Nat):Rat)=z)/\-9<=cfE m0 M e/\cfE m0 M e<=9
 |none=>Bdn h.c
 |some p=>by
  show (∃ z:Int,Bi p M*((12:Nat):Rat)=z)/\-9<=Bi p M/\Bi p M<=9;rcases Bc8 p M with e|⟨q,hq,e⟩
  ·rw[e];exact Bdn Ajl
  ·rw[e];exact Bdn (h.t (p,q) hq)
end
section
theorem Arf {u:PH}{v:Value}{T:List (List UInt8×Nat)}{R:List Bk}{F:List Ao}{lab:Int}{a:Option Addr}{c:Nat}{L:List E7}(hX:F1 u v T R F lab)(ok:Bn u T R F lab)(hT8:T.length<=8)(hL:Ab u (.slice a L.length c) 2 (L.map Id))(hW:WOK u T L)(hl:L.length<=12) :
 Fn0 prog 21 [v,.slice a L.length c] u fun r u'=>Apm u' r (C8 F lab L) (255*L.length):=by
 have hck:=fun (u':PH) (l:PH.le u u')=>Pf (hX.mono l) (ok.mono l);obtain⟨xa,xc,xb,xd,xe,xf,rfl,hTL,hRL,hFL⟩:=id hX;have hp8:=Ana hT8;have hall:∀ n,∀ y∈L.take n,Cr T y.1/\y.2.1<=7:=fun n y hy=>by
  obtain⟨_,q1,_,q2⟩:=hW y (List.mem_of_mem_take hy);exact⟨q1,q2⟩
 have hcfs:∀ n,CFS (C8 F lab (L.take n)):=fun n=>(S9 ok hT8 (hall n) (by rw[A00];omega)).1;refine Fn0.o func21 ?_;refine G.c call62 (hck u (PH.le_refl _)) ?_;rintro v1 u1 l1 rfl;refine G.nF 0 0 ?_;refine G.gF (L.length:Int) 2000 ?_;refine G.callO _ _ kV call63 (Hi (n:=0) oV oV) ?_;intro v2 u2 m2 l2 k2 _;rw[C2];have n0:(⟨((0:Int):Rat),fun _=>0,fun _=>0⟩:CF)=CF.num 0:=by rw[show ((0:Int):Rat)=0 by decide +kernel];rfl
 rw[n0]at k2;obtain⟨b,a2,n,c2,b',a',n',c',g1,g2,rfl⟩:=Ln k2;refine G.l (ι:=Nat×(Bool×SlI)×(Bool×SlI)×Nat×Nat) (fun i=>[(2,.p 0 0),(4,.p 1 0),(7,.p 6001 0),(22,sV a L.length c),(23,iV L.length),(24,iV i.1)])
  (fun i=>[(0,⟨31,[sV xa T.length xc,sV xb R.length xd,sV xe F.length xf,iV lab]⟩),(1,⟨37,[tV [],sV none 0 0,sV none 0 0]⟩),(6001,⟨136,[bV i.2.1.1,sV i.2.1.2.1 i.2.1.2.2.1 i.2.1.2.2.2,bV i.2.2.1.1,sV i.2.2.1.2.1 i.2.2.1.2.2.1 i.2.2.1.2.2.2,.v (.map (some i.2.2.2.1)),.v (.map (some i.2.2.2.2))]⟩)])
  (fun i u' m'=>i.1<=L.length/\H6 m' u' (.agg #[.bool i.2.1.1,.slice i.2.1.2.1 i.2.1.2.2.1 i.2.1.2.2.2,.bool i.2.2.1.1,.slice i.2.2.1.2.1 i.2.2.1.2.2.1 i.2.2.1.2.2.2,.map (some i.2.2.2.1),.map (some i.2.2.2.2)]) (C8 F lab (L.take i.1)) (255*i.1))
  (fun i=>L.length-i.1) (0,(b,a2,n,c2),(b',a',n',c'),g1,g2) ⟨oV,k2⟩ ?_
 rintro J ⟨i,⟨b,a2,n,c2⟩,⟨b',a',n',c'⟩,g1,g2⟩ hJ u3 m3 l3 ⟨hi,hC⟩;simp only at hi hC hJ;have le3:=(l1.trans l2).trans l3;by_cases hlt:i<L.length
 ·refine G.lT (i:Int) (L.length:Int) ?_;obtain⟨y,hLi⟩:∃ y,L[i]?=some y:=⟨_,A0n hlt⟩;obtain⟨hS,hT,hw1,hw2⟩:=hW y (List.mem_of_getElem? hLi);obtain⟨ba,oa,rfl,ea⟩:=Ab.at' (hL.mono le3) (j:=i) (e:=Id y) (by simp[hLi]);obtain⟨ss,w,ya,yc⟩:=y;simp only at hS hT hw1 hw2;have htk:L.take (i+1)=L.take i++[(ss,w,ya,yc)]:=by rw[List.take_add_one,hLi];rfl
  have hP:Af5 u (.agg #[.slice xa T.length xc,.slice xb R.length xd,.slice xe F.length xf,.int .i64 lab]) (.slice ya ss.length yc) T R F lab ss:=⟨hX,ok,hS,hT⟩;have hlen:=hT.len;obtain⟨d1,d2⟩:=Ag1 ok hT;have sK:CFS ((cfT F lab ss).scale (w:Rat)):=(d1.scale (Akk hw2)).cfs oV oV;have hsum:C8 F lab (L.take (i+1))=(C8 F lab (L.take i)).add ((cfT F lab ss).scale (w:Rat)):=by rw[htk,F5]
  refine G.a ba oa L.length c i 2 hlt ?_;refine G.lU (some 2) ba (oa+i*2) (.agg #[.slice ya ss.length yc,.int .i64 (w:Int)]) ea ?_;refine G.c call64 (Afu (hP.mono le3)) ?_;rintro v4 u4 l4 rfl;refine G.nF 0 0 ?_;refine G.lF (w:Int) (-1000000000000) ?_;refine G.gF (w:Int) 1000000000000 ?_;refine G.c call66 (Ajz (hP.mono (le3.trans l4)) oV) ?_;rintro v5 u5 l5 ⟨k5,sF⟩;obtain⟨b5,a5,n5,c5,b5',a5',n5',c5',g51,g52,rfl⟩:=No k5;refine G.c call27 (Pq (z:=(w:Int)) oV oV) ?_;intro v6 u6 l6 k6;rw[A2j]at k6;obtain⟨b6,a6,n6,c6,a6',n6',c6',rfl,_⟩:=k6.opn;have hwb:SB (w:Rat):=(Akk hw2).small oV oV;refine G.callA _ _ kV kV call65 (C2 m3).symm (Sj m3)
   (Ahp (((hC.grow l4).grow l5).grow l6) (k5.mono l6) k6 hwb (hcfs i) sF sK (by rw[<-hsum];exact hcfs (i+1))) ?_
  intro v7 u7 m7 l7 k7 _;rw[<-hsum]at k7;rw[C2];obtain⟨b7,a7,n7,c7,b7',a7',n7',c7',g71,g72,rfl⟩:=Ln k7;refine G.i i ?_;exact G.b (hJ (i+1,(b7,a7,n7,c7),(b7',a7',n7',c7'),g71,g72) _ _ _ cV ((((l3.trans l4).trans l5).trans l6).trans l7) ⟨dV,k7.congr rfl dV⟩ dV)
 ·obtain rfl:i=L.length:=oV
  refine G.lF (L.length:Int) (L.length:Int) ?_;have hc:=hcfs L.length;rw[A1k]at hC hc;refine G.callK _ _ kV call67 (Agc hC.i hc oV) ?_;rintro v7 u7 l7 ⟨r,rfl,k7⟩;obtain⟨e1,f1,h1,e2,f2,h2,rfl⟩:=k7.opn;refine G.drop PH.mt kV (PH.mt_le _) ?_;exact G.r (.tuple #[.agg #[.string (mkS (Af (C8 F lab L).c)),.slice e1 f1 h1,.slice e2 f2 h2],.int .i64 0]) ⟨rfl,_,rfl,k7⟩
end
section
variable {u:PH}
theorem Atr {v v':Value}{m0:Rat}{M:List (Par×Rat)}(h:Ar9 u v m0 M)(h':Ar9 u v' m0 M)(hl:M.length<=1000000) :
 Fn0 prog 23 [v,v'] u fun r _=>r=.bool true:=by
 obtain⟨a,c,rfl,hL⟩:=h.val;obtain⟨a',c',rfl,hL'⟩:=h'.val;refine Fn0.o func23 ?_;refine G.q (Af m0) (Af m0) rfl ?_;refine G.c call37 (Awv hL hL' hl) ?_;rintro v1 u1 l1 rfl;exact G.r (.bool true) ⟨rfl,rfl⟩
structure Ay1 (u:PH)(T:List (List UInt8×Nat))(R:List Bk)(F:List Ao)(lab:Int)(L:List E7)(xv lv cv:Value):Prop where
 sch:F1 u xv T R F lab
 ok:Bn u T R F lab
 t8:T.length<=8
 lab0:0<=lab
 f5:F.length<=5
 rows:Ab u lv 2 (L.map Id)
 wok:WOK u T L
 l6:L.length<=6
 cof:H7 u cv (C8 F lab L) (255*L.length)
theorem Ayx {s:Src}{ts:List Int}{k:Nat}(h:Aq7 u s ts)(hk:k<=s.n) :
 Ai prog 20 [s.ptr] u (s.M k) fun r u' m'=>∃ (T:List (List UInt8×Nat)) (R:List Bk) (F:List Ao) (lab:Int) (L:List E7) (xv lv cv:Value) (k':Nat),r=.tuple #[xv,lv,cv]/\Ay1 u' T R F lab L xv lv cv/\k'<=s.n/\m'=s.M k':=by
 refine Ai.o func20 ?_;refine G.A call45 (Wy 5 oV oV h hk) ?_;rintro v1 u1 m1 l1 ⟨T,R,F,lab,k1,hX,ok,hT8,hlab,hF0,hk1,rfl,hF5⟩ _;rw[C2];obtain⟨xa,xc,xb,xd,xe,xf,rfl,hTL,hRL,hFL⟩:=id hX;refine G.A call46 (Acr (most:=6) (h.mono l1) hk1 hX ok oV) ?_;rintro v2 u2 m2 l2 ⟨L,k2,hL,hL6,hW,hk2,rfl⟩ _;rw[C2];obtain⟨la,lc,rfl⟩:=hL.opn;rw[A0p]at hL⊢;refine G.c call21 (Arf (hX.mono l2) (ok.mono l2) hT8 hL hW oV) ?_;rintro v3 u3 l3 ⟨x3,rfl,k3⟩;obtain⟨e1,f1,g1,e2,f2,g2,rfl⟩:=k3.opn;have l23:=l2.trans l3;exact G.r (.tuple #[.agg #[.slice xa T.length xc,.slice xb R.length xd,.slice xe F.length xf,.int .i64 lab],.slice la L.length lc,.agg #[.string (mkS (Af (C8 F lab L).c)),.slice e1 f1 g1,.slice e2 f2 g2]])
  ⟨T,R,F,lab,L,_,_,_,k2,rfl,⟨hX.mono l23,ok.mono l23,hT8,hlab,hF5,hL.mono l3,hW.mono l3,hL6,k3⟩,hk2,rfl⟩
def Asq:List (List UInt8×Nat):=[([120],2),([121],2)]
def Asw (g:Nat):List Bk:=[([114],[0,1],(some ⟨g,0,none⟩,2))]
def Aro:List Ao:=[(0,1,0)]
theorem Az7 {g:Nat}(h:Ab u (.slice (some ⟨g,0,none⟩) 2 2) 1 (Ag [0,1])):Bn u Asq (Asw g) Aro 1 where
 att:=⟨Nw jV,fun a ha=>by simp[Asq]at ha;rcases ha with rfl|rfl<;>decide⟩
 rel:=⟨Nw (by show (([[114]]:List (List UInt8)).all Gw&&decide ([[114]]:List (List UInt8)).Nodup)=true;decide +kernel),fun r hr=>by simp[Asw]at hr;subst hr;simp,fun r hr a ha=>by simp[Asw]at hr;subst hr;simp at ha;show a<2;omega,fun r hr=>by simp[Asw]at hr;subst hr;simp,fun r hr k x y h1 h2=>by
  simp[Asw]at hr;subst hr
  match k,h1,h2 with
  |0,h1,h2=>simp at h1 h2;omega
  |k+1,h1,h2=>simp at h2,fun a ha=>⟨_,A1t.2 rfl,by
  have:a<2:=ha;simp;omega⟩,fun r hr=>by simp[Asw]at hr;subst hr;exact h⟩
 feat:=⟨fun f hf=>by
  simp[Aro]at hf;subst hf;exact⟨[120],2,rfl,.inl ⟨rfl,rfl,fV⟩,fV⟩,fV⟩
 t1:=fV
 t2:=fV
 r1:=by show 0<1;omega
 r2:=by show 1<=6;omega
 f2:=fV
 l1:=fV
 l2:=fun l hl=>by
  have:l=1:=oV
  subst this;exact⟨[121],rfl⟩
theorem Ast :Fn0 prog 60 [] u fun r u'=>∃ g,F1 u' r Asq (Asw g) Aro 1/\Bn u' Asq (Asw g) Aro 1:=by
 refine Fn0.o func60 ?_;refine G.buildU 92 2 24 (.agg #[.string (mkS []),.int .i64 0]) [.agg #[.string (mkS [120]),.int .i64 ((2:Nat):Int)],.agg #[.string (mkS [121]),.int .i64 ((2:Nat):Int)]] kV (fun x hx=>by
  simp only[A02,A14,or_false]at hx;rcases hx with rfl|rfl<;>exact⟨rfl,A08.1 rfl⟩) rfl oV mV mV ?_
 intro g1 u1 l1 e1;refine G.B 3 1 8 (.int .i64 0) [.int .i64 ((0:Nat):Int),.int .i64 ((1:Nat):Int)] (Ax [0,1]) ?_;intro g2 u2 l2 e2;refine G.buildU 94 2 40 (.agg #[.string (mkS []),.slice none 0 0]) [.agg #[.string (mkS [114]),.slice (some ⟨g2,0,none⟩) 2 2]] kV (fun x hx=>by
  simp only[A02,A14,or_false]at hx;subst hx;exact⟨rfl,A08.1 rfl⟩) rfl oV mV mV ?_
 intro g3 u3 l3 e3;refine G.buildU 144 3 24 (.agg #[.int .i64 0,.int .i64 0,.int .i64 0]) [.agg #[.int .i64 ((0:Nat):Int),.int .i64 ((1:Nat):Int),.int .i64 ((0:Nat):Int)]] kV (fun x hx=>by
  simp only[A02,A14,or_false]at hx;subst hx;exact⟨rfl,A08.1 rfl⟩) rfl oV mV mV ?_
 intro g4 u4 l4 e4;exact G.r (.agg #[.slice (some ⟨g1,0,none⟩) 2 2,.slice (some ⟨g3,0,none⟩) 1 1,.slice (some ⟨g4,0,none⟩) 1 1,.int .i64 1])
  ⟨rfl,g2,⟨_,_,_,_,_,_,rfl,e1.listP.mono ((l2.trans l3).trans l4),e3.listP.mono l4,e4.listP⟩,Az7 (e2.listP.mono (l3.trans l4))⟩
end
section
def Asb (g:Nat):List E7:=[([[49],[50]],1,(some ⟨g,0,none⟩,2))]
def Atg:List Par:=[((0:Int),[])]
theorem Azw:SmR (K6 [50])/\K6 [50]=2:=by
 obtain⟨h1,h2⟩:=P4 (t:=[50]) ⟨2,Alj,jV⟩;exact⟨h1,Am7 [50] 2 jV h1 h2⟩
theorem Avd:Cr Asq [[49],[50]]:=⟨rfl,fun i x t hx ht=>by
 match i,hx,ht with
 |0,hx,ht=>cases hx;cases ht;exact .inr (.inr (.inr ⟨rfl,1,Ih,jV⟩))
 |1,hx,ht=>cases hx;cases ht;exact .inr (.inr (.inr ⟨rfl,2,Alj,jV⟩))
 |i+2,hx,ht=>simp[Asq]at hx⟩
theorem Ayu:Cr Asq [[55],[]]:=⟨rfl,fun i x t hx ht=>by
 match i,hx,ht with
 |0,hx,ht=>cases hx;cases ht;exact .inr (.inr (.inr ⟨rfl,7,⟨jV,jV⟩,jV⟩))
 |1,hx,ht=>cases hx;cases ht;exact .inl rfl
 |i+2,hx,ht=>simp[Asq]at hx⟩
theorem Atz:Dk Asq Aro 1:=⟨fun f hf=>by
 simp[Aro]at hf;subst hf;exact⟨[120],2,rfl,.inl ⟨rfl,rfl,fV⟩,fV⟩,fV⟩
theorem Az0:Ws (cfT Aro 1 [[49],[50]])/\(cfT Aro 1 [[49],[50]]).s Aq=2:=by
 have hl:∀ l:Nat,(1:Int)=(l:Int)->l<([[49],[50]]:List (List UInt8)).length:=fun l hl=>by
  have:l=1:=oV
  subst this;decide
 have hc:T4 Aro 1 [[49],[50]]=true:=jV
 refine⟨?_,?_⟩
 ·rcases L9 Atz Avd oV hl with ⟨_,h⟩|⟨h,_⟩
  ·exact h
  ·rw[h]at hc;cases hc
 ·rw[Ajr Atz Avd oV hl hc (a:=1) (p:=Aq) (q:=K6 [50]) (by
   rw[Gq (w:=[50]) rfl];unfold Fg O7;rw[if_pos (show ((1:Nat):Int)=1 from rfl),if_neg fV];rfl),Azw.2]
theorem Azd (g:Nat):C8 Aro 1 (Asb g)=(CF.num 0).add ((cfT Aro 1 [[49],[50]]).scale ((1:Nat):Rat)):=rfl
theorem Atb (C:CF):R1 Aro C Atg:=⟨List.pairwise_singleton _ _,fun p=>by
 constructor
 ·intro h;have:p=(0,[]):=by simpa[Atg] using h
  subst this;exact .inl ⟨0,(0,1,0),rfl,rfl,rfl⟩
 ·rintro (⟨i,f,rfl,hf,_⟩|⟨_,i,f,_,hf,h2⟩)
  ·have:i<1:=(A0s.1 hf).1;have:i=0:=oV
   subst this;exact A1t.2 rfl
  ·have:i<1:=(A0s.1 hf).1;have:i=0:=oV
   subst this;cases hf;simp at h2⟩
theorem Au3 (e:Option Par):cfE 2 [(((0:Int),[]),0)] e=match e with|none=>2|some _=>0:=by
 cases e with
 |none=>rfl
 |some p =>
  show Bi p [(((0:Int),[]),0)]=0;unfold Bi;split
  ·rfl
  ·rfl
theorem Axf (g:Nat):(C8 Aro 1 (Asb g)).c=1/\Fv Atg (C8 Aro 1 (Asb g)) 1 (cfE 2 [(((0:Int),[]),0)])/\As3 1 (cfE 2 [(((0:Int),[]),0)]) Atg (C8 Aro 1 (Asb g))=0:=by
 obtain⟨ho,hl⟩:=Az0;rw[Azd];generalize cfT Aro 1 [[49],[50]]=H at ho hl;have h1:((1:Nat):Rat)=1:=rfl;refine⟨?_,?_,?_⟩
 ·show 0+H.c*((1:Nat):Rat)=1;rw[ho.c];decide +kernel
 ·intro e he;show As ((CF.num 0).add (H.scale ((1:Nat):Rat))) e none*cfE 2 [(((0:Int),[]),0)] none+(As ((CF.num 0).add (H.scale ((1:Nat):Rat))) e (some (0,[]))*cfE 2 [(((0:Int),[]),0)] (some (0,[]))+0)+Kp 1 (cfE 2 [(((0:Int),[]),0)]) e=Ay ((CF.num 0).add (H.scale ((1:Nat):Rat))) e;have hp:Kp 1 (cfE 2 [(((0:Int),[]),0)]) e=0:=by
   cases e with
   |none=>rfl
   |some p=>show 1*cfE 2 [(((0:Int),[]),0)] (some p)=0;rw[Au3];show (1:Rat)*0=0;decide +kernel
  have hr:Ay (CF.num 0) e=0:=by cases e<;>rfl
  rw[hp,Au3,Au3,Vv,Vv,T2,Ans.cell,Ans.cell,hr,ho.cell,ho.cell,ho.right,hl,h1];show (0+Afw H.s e*1*1)*2+((0+Afw H.s e*H.s (0,[])*1)*0+0)+0=0+2*Afw H.s e*1;grind
 ·unfold As3;rw[Alu,Ans.sq,ho.sq,hl,h1];have hs:G9 Atg (cfE 2 [(((0:Int),[]),0)])=0:=by
   show cfE 2 [(((0:Int),[]),0)] (some (0,[]))*cfE 2 [(((0:Int),[]),0)] (some (0,[]))+0=0;rw[Au3];show (0:Rat)*0+0=0;decide +kernel
  have hv:Ua (cfE 2 [(((0:Int),[]),0)]) Atg H.s=2:=by
   show cfE 2 [(((0:Int),[]),0)] none+(cfE 2 [(((0:Int),[]),0)] (some (0,[]))*H.s (0,[])+0)=2;rw[Au3,Au3];show 2+(0*H.s (0,[])+0)=2;grind
  rw[hs,hv];decide +kernel
theorem Awl (V:List (Par×Rat)):Atc 2 [(((0:Int),[]),0)] V=2:=by
 unfold Atc;rw[Bv fun t _=>by
  have:=Au3 (some t.1);rw[show cfE 2 [(((0:Int),[]),0)] (some t.1)=Bi t.1 [(((0:Int),[]),0)] from rfl]at this;rw[this];show t.2*0=0;grind]
 decide +kernel
theorem At2:Kl 1:=⟨jV,⟨30,jV,fV⟩,Ih.tx⟩
theorem Avm {u:PH}(ht:Lb u):Fn0 prog 19 [] u fun r _=>r=.bool true:=by
 refine Fn0.o func19 ?_;refine G.c call60 Ast ?_;rintro v1 u1 l1 ⟨g1,hX1,ok1⟩;obtain⟨xa,xc,xb,xd,xe,xf,rfl,_⟩:=id hX1;refine G.B 9 1 16 (.string (mkS [])) [.string (mkS [49]),.string (mkS [50])] (G4 [[49],[50]]) ?_;intro g2 u2 l2 e2;refine G.buildU 72 2 32 (.agg #[.slice none 0 0,.int .i64 0]) [.agg #[.slice (some ⟨g2,0,none⟩) 2 2,.int .i64 1]] kV (fun x hx=>by
  simp only[A02,A14,or_false]at hx;subst hx;exact⟨rfl,A08.1 rfl⟩) rfl oV mV mV ?_
 intro g3 u3 l3 e3;have hrows:Ab u3 (.slice (some ⟨g3,0,none⟩) (Asb g2).length 1) 2 ((Asb g2).map Id):=e3.listP;have hW:WOK u3 Asq (Asb g2):=fun y hy=>by
  have:y=([[49],[50]],1,(some ⟨g2,0,none⟩,2)):=by simpa[Asb] using hy
  subst this;exact⟨e2.listP.mono l3,Avd,Nat.le_refl 1,by show 1<=7;omega⟩
 refine G.c call21 (Arf (hX1.mono (l2.trans l3)) (ok1.mono (l2.trans l3)) fV hrows hW (by simp[Asb])) ?_;rintro v4 u4 l4 ⟨x,rfl,k4⟩;have l14:=(l2.trans l3).trans l4;obtain⟨k,hMe⟩:=As9 (hX1.mono l14) (ok1.mono l14) fV hW.tup (by simp[Asb]) fV oV k4 (by simp[Asb]);have hto:=Axh (R:=Asw g1) (ok1.mono l14) fV hW.tup (by simp[Asb]) At2;have hpsd:=fun P z=>Ahu (L:=Asb g2) Atz oV (Xi ok1) z P fun y hy=>(hW.tup y hy).1;obtain⟨hc1,hno,hlo⟩:=Axf g2;have ht4:=ht.mono (l1.trans l14);generalize C8 Aro 1 (Asb g2)=C at hMe hc1 hno hlo k4 hto hpsd;have h0:k≠0:=by
  rintro rfl;have:=hMe.mom.c;rw[hc1]at this;exact absurd this jV
 have hre:∀ {u':PH} {v':Value} {g':Nat},PH.le u4 u'->F1 u' v' Asq (Asw g') Aro 1->Bn u' Asq (Asw g') Aro 1->Arn u' v' x Asq (Asw g') Aro 1 C (255*(Asb g2).length) k:=fun l hX ok=>⟨hX,ok,hMe.cof.mono l,hMe.sC,hMe.vC,hMe.K,hMe.bel,hMe.mom,hMe.p24,hMe.lab0⟩;obtain⟨a1,n1,c1,a2,n2,c2,rfl⟩:=k4.opn;refine G.c call60 Ast ?_;rintro v5 u5 l5 ⟨g5,hX5,ok5⟩;obtain⟨ya,yc,yb,yd,ye,yf,rfl,_⟩:=id hX5;have htr:=Asp (ht4.mono l5) (hre l5 hX5 ok5) At2.w hto;rw[Yw]at htr;refine G.c call22 htr ?_;rintro v6 u6 l6 (⟨e,rfl,⟨_,h⟩|⟨_,_,P,hP,h⟩⟩|⟨_,P,mv,m0,qs,hPL,_,hql,rfl,hmv,hm,hn⟩)
 ·exact absurd h h0
 ·rw[hP.eq (Atb C)]at h;exact absurd h fV
 obtain rfl:=hPL.eq (Atb C);have hc0:0<C.c:=by rw[hc1];decide +kernel
 obtain⟨rfl,rfl⟩:=Atl (P:=Atg) fV hql (qs':=[0]) (m0':=2) rfl (Atq hn hno At2.pos hc0 (hpsd Atg));have hzip:Atg.zip [0]=([(((0:Int),[]),0)]:List (Par×Rat)):=rfl;rw[hzip]at hmv hm hn;obtain⟨na,nc,rfl,_⟩:=id hmv.val;have le6:=l5.trans l6;have ht6:=ht4.mono le6;refine G.both [1] 0 2 [3,4,5,6,7,8] kV ?wa ?wb
 case' wa =>
  refine G.c call60 Ast ?_;rintro v7 u7 l7 ⟨g7,hX7,ok7⟩;refine G.B 9 1 16 (.string (mkS [])) [.string (mkS [55]),.string (mkS [])] (G4 [[55],[]]) ?_;intro g8 u8 l8 e8;have hX8:=hX7.mono l8;have ok8:=ok7.mono l8;have hL8:Ab u8 (.slice (some ⟨g8,0,none⟩) 2 2) 1 (([[55],[]]:List (List UInt8)).map nmV):=e8.listP
 case' wb =>
  refine G.B 9 1 16 (.string (mkS [])) [.string (mkS [55]),.string (mkS [])] (G4 [[55],[]]) ?_;intro g8 u7 l7 e8;refine G.c call60 Ast ?_;rintro v7 u8 l8 ⟨g7,hX8,ok8⟩;have hL8:Ab u8 (.slice (some ⟨g8,0,none⟩) 2 2) 1 (([[55],[]]:List (List UInt8)).map nmV):=(e8.mono l8).listP
 all_goals
  obtain⟨za,zc,zb,zd,ze,zf,rfl,_⟩:=id hX8;have l68:=l7.trans l8;have hpr:=Aum (P:=Atg) (ht6.mono l68) ⟨hX8,ok8,hL8,Ayu⟩ (hmv.mono l68) hm fV (Au1 (Atb C) hMe.vC) (by rw[Awl];exact Alj.tx);rw[Awl,Ahw]at hpr;refine G.c call29 hpr ?_;rintro v9 u9 l9 rfl;refine G.c call60 Ast ?_;rintro v10 u10 l10 ⟨g10,hX10,ok10⟩;obtain⟨wa,wc,wb,wd,we,wf,rfl,_⟩:=id hX10;have l610:=(l68.trans l9).trans l10;have hls:=Axz (ht6.mono l610) (hre (le6.trans l610) hX10 ok10) At2.w (Atb C) (hmv.mono l610) hm (fun _ _=>by rw[hlo];exact W4);rw[hlo,Hf,Yw]at hls;refine G.c call26 hls ?_;rintro v11 u11 l11 (⟨e,rfl,⟨_,h⟩|⟨_,_,h⟩⟩|⟨_,_,rfl⟩)
  ·exact absurd h h0
  ·exact absurd h fV
  refine G.eT' 0 0 rfl ?_;refine G.buildU 81 3 40 (.agg #[.int .i64 0,.string (mkS []),.string (mkS [])]) [.agg #[.int .i64 0,.string (mkS []),.string (mkS [48])]] kV (fun x hx=>by
   simp only[A02,A14,or_false]at hx;subst hx;exact⟨rfl,A08.1 rfl⟩) rfl oV mV mV ?_
  intro g12 u12 l12 e12;have hm2:Ar9 u12 (.agg #[.string (mkS [50]),.slice (some ⟨g12,0,none⟩) 1 1]) 2 [(((0:Int),[]),0)]:=⟨some ⟨g12,0,none⟩,1,by rw[Ahw];rfl,by
   have:=e12.listP;rwa[show [Value.agg #[.int .i64 0,.string (mkS []),.string (mkS [48])]]=([(((0:Int),[]),0)]:List (Par×Rat)).map A5 by simp[A5,Hf]]at this⟩
  have l612:=(l610.trans l11).trans l12;refine G.c call23 (Atr (hmv.mono l612) hm2 mV) ?_;rintro v13 u13 l13 rfl;refine G.eT' 0 0 rfl ?_;refine G.q [50] [50] rfl ?_;refine G.eT' 0 0 rfl ?_;refine G.q [48] [48] rfl ?_;refine G.c call60 Ast ?_;rintro v14 u14 l14 ⟨g14,hX14,ok14⟩;obtain⟨ta,tc,tb,td,te,tf,rfl,_⟩:=id hX14;refine G.c call61 (Agi hX14 ok14 (hmv.mono ((l612.trans l13).trans l14)) hm fV (Au1 (Atb C) hMe.vC)) ?_;rintro v15 u15 l15 rfl;exact G.r (.bool true) ⟨rfl,rfl⟩
end
section
theorem Bdt {u:PH}{v:Value}{ts:List Int}(ht:Lb u)(hv:Ab u v 1 (Dx ts))(hlo:∀ t∈ts,-9223372036854775808<=t)(hhi:∀ t∈ts,t<=9223372036854775807) :
 Fn0 prog 7 [v] u fun v' _=>v'=.bool true:=by
 obtain⟨a,c,rfl⟩:=hv.opn;rw[Aqg]at hv⊢;refine Fn0.o func7 ?_;by_cases h400:400<ts.length
 ·refine G.gT (ts.length:Int) 400 ?_;refine G.c call19 (Avm ht) ?_;rintro v1 u1 l1 rfl;exact G.r (.bool true) ⟨rfl,rfl⟩
 refine G.gF (ts.length:Int) 400 ?_;refine G.callO _ _ kV call9 (Alv hv oV hlo hhi) ?_;rintro v1 u1 m1 l1 ⟨s,rfl,rfl,hs⟩ _;rw[C2];refine G.A call20 (Ayx hs (A1m _)) ?_;rintro v2 u2 m2 l2 ⟨T,R,F,lab,L,xv,lv,cv,k2,rfl,w,hk2,rfl⟩ _;rw[C2];have ht2:=ht.mono (l1.trans l2);have hl6:=w.l6;have hTu:=w.wok.tup;obtain⟨k,hMe⟩:=As9 w.sch w.ok w.t8 hTu oV w.f5 w.lab0 w.cof oV;have hpsd:=fun P z=>Ahu w.ok.feat w.ok.l1 (Xi w.ok) z P fun y hy=>(hTu y hy).1;have hsq:=fun P z=>Aoh w.ok.feat w.ok.l1 (Xi w.ok) z P fun y hy=>(hTu y hy).1;have hcd:=Ae2 w.ok w.ok.l1 (Xi w.ok) hTu;have hN:L.length*81648<=489888:=oV
 have hto:=fun (q:Rat) (hq:Kl q)=>Axh w.ok w.t8 hTu hl6 hq;have hKK:255*L.length<=10000:=oV
 obtain⟨xa,xc,xb,xd,xe,xf,rfl,_⟩:=id w.sch;have hC:=w.cof;have hX:=w.sch;have ok:=w.ok;obtain⟨a1,n1,c1,a2,n2,c2,rfl⟩:=id hC.opn;have hrows:=w.rows;obtain⟨la,lc,rfl⟩:=hrows.opn;rw[A0p];clear w hrows;generalize L.length*81648=N at hcd hN;generalize 255*L.length=K at hMe hC hKK;generalize C8 F lab L=C at hMe hC hcd hpsd hsq hto;refine G.A call12 (Y7 (hs.mono l2) hk2) ?_;rintro v3 u3 m3 l3 ⟨q,k3,rfl,hq,hk3,rfl⟩ _;rw[C2];refine G.c call22 (Asp (ht2.mono l3) (hMe.mono l3) hq.w (hto q hq)) ?_;have hS:=hMe.mom;rintro v4 u4 l4 (⟨e,rfl,he⟩|⟨h0,P,mv,m0,qs,hPL,hP11,hql,rfl,hmv,hm,hn⟩)
 ·refine G.nT' e 0 (by rcases he with ⟨h,_⟩|⟨h,_⟩<;>omega) ?_
  refine G.drop PH.mt kV (PH.mt_le _) ?_;have hsn:=Avm (ht2.mono (l3.trans l4));rcases he with ⟨rfl,hk0⟩|⟨rfl,_⟩
  ·refine G.eT' 12 12 rfl ?_;refine G.q (Af C.c) [48] (by rw[hS.c,hk0];exact Hf) ?_;refine G.c call19 hsn ?_;rintro v5 u5 l5 rfl;exact G.r (.bool true) ⟨rfl,rfl⟩
  ·refine G.eF 3 12 ?_;refine G.eT' 3 3 rfl ?_;refine G.c call19 hsn ?_;rintro v5 u5 l5 rfl;exact G.r (.bool true) ⟨rfl,rfl⟩
 obtain⟨na,nc,rfl,_⟩:=id hmv.val;refine G.nF 0 0 ?_;have hc0:=hS.cpos h0;have hcp:=Axv hS hc0;have hltx:=(Bdq hcd hN hq hP11 hcp (hpsd P) (hsq P) hn).tx oV oV oV oV;have hg0:=hn.grad;have hzl:(P.zip qs).length=P.length:=by rw[List.length_zip];omega
 have le4:=l3.trans l4;refine G.c call38 (Bdl (ht2.mono le4) (hMe.mono le4) hq.w hPL hmv hm h0 hP11 (fun e he=>by rw[hg0 e he];exact W4)) ?_;rintro v5 u5 l5 ⟨gv,rfl,hgv⟩;have hge:(((Ak P).map (Bc6 q (cfE m0 (P.zip qs)) P C)).map Af)=List.replicate (P.length+1) [48]:=by
  rw[List.map_map];refine A9c (by rw[A0p,Bo,A3e]) fun j h1 h2=>?_;rw[List.getElem_map,List.getElem_replicate];show Af (Bc6 q (cfE m0 (P.zip qs)) P C _)=_;rw[hg0 _ (List.getElem_mem _),Hf]
 rw[hge]at hgv;obtain⟨ga,gc,rfl⟩:=Ab.opn hgv;rw[J7,A3e]at hgv⊢;have le5:=le4.trans l5;refine G.c call26 (Axz (ht2.mono le5) (hMe.mono le5) hq.w hPL (hmv.mono l5) hm (fun _ _=>hltx)) ?_;rintro v6 u6 l6 (⟨e,rfl,⟨_,h⟩|⟨_,_,h⟩⟩|⟨_,_,rfl⟩)
 ·exact absurd h h0
 ·omega
 have le6:=le5.trans l6;refine G.c call24 (Sa (hX.mono le6) (ok.mono le6) (hC.mono le6) hMe.sC hMe.vC hKK hMe.bel) ?_;rintro v7 u7 l7 (⟨rfl,Q,hQ,hQP⟩|⟨ps,Q,rfl,hP,_,hQP⟩)
 ·have:=hPL.eq hQP;subst this;omega
 obtain rfl:=hPL.eq hQP;obtain⟨pa,pc,rfl⟩:=hP.opn;rw[A0p]at hP⊢;have le7:=le6.trans l7;refine G.A call25 (Bdi (hs.mono (l2.trans le7)) hk3 hP oV) ?_;rintro v8 u8 m8 l8 ⟨n0,M,k8,hmv8,hmf,hk8,rfl⟩ _;rw[C2];have hm8:=hmf.ok hPL.1;have hz8:=hmf.z;obtain⟨oa,oc,rfl,_⟩:=id hmv8.val;have hlo8:=(Bdo hcd hN hq.sixty hP11 (fun e _=>(hz8 e).1) (fun e _=>(hz8 e).2)).tx oV oV oV oV;have le8:=le7.trans l8;refine G.c call26 (Axz (ht2.mono le8) (hMe.mono le8) hq.w hPL hmv8 hm8 (fun _ _=>hlo8)) ?_;rintro v9 u9 l9 (⟨e,rfl,⟨_,h⟩|⟨_,_,h⟩⟩|⟨_,_,rfl⟩)
 ·exact absurd h h0
 ·omega
 refine G.nF 0 0 ?_;refine G.nF 0 0 ?_;refine G.nF 0 0 ?_;refine G.p (P.length:Int) 1 ((P.length+1:Nat):Int) ?_;refine G.nF ((P.length+1:Nat):Int) ((P.length+1:Nat):Int) ?_;rw[hzl];refine G.nF (P.length:Int) (P.length:Int) ?_;refine G.drop PH.mt kV (PH.mt_le _) ?_;have l59:=((l6.trans l7).trans l8).trans l9;refine G.l (ι:=Nat) (fun i=>[(8,.p 6007 0),(12,tV (Af (As3 q (cfE m0 (P.zip qs)) P C))),(14,sV pa P.length pc),(16,.p 12003 0),(17,tV (Af (As3 q (cfE n0 M) P C))),(122,sV ga (P.length+1) gc),(123,iV (P.length+1:Nat)),(124,iV i)])
  (fun _=>[(6007,⟨42,[tV (Af m0),sV na P.length nc]⟩),(12003,⟨42,[tV (Af n0),sV oa M.length oc]⟩)])
  (fun i u' m'=>i<=P.length+1/\m'=PH.mt) (fun i=>P.length+1-i) 0 ⟨A1m _,rfl⟩ ?_
 rintro J i hJ u10 m10 l10 ⟨hi,rfl⟩;have l510:=l59.trans l10;by_cases hlt:i<P.length+1
 ·refine G.lT (i:Int) ((P.length+1:Nat):Int) ?_;obtain⟨ba,oa',rfl,ea⟩:=Ab.at' (Ab.mono hgv l510) (j:=i) (e:=.string (mkS [48])) (by unfold Cs;rw[List.map_replicate,List.getElem?_replicate,if_pos hlt]);refine G.a ba oa' (P.length+1) gc i 1 hlt ?_;refine G.lU none ba (oa'+i*1) (.string (mkS [48])) ea ?_;refine G.y [48] [48] rfl ?_;refine G.i i ?_;exact G.b (hJ (i+1) _ _ _ cV l10 ⟨oV,rfl⟩ oV)
 obtain rfl:i=P.length+1:=oV
 refine G.lF ((P.length+1:Nat):Int) ((P.length+1:Nat):Int) ?_;have l710:=(l8.trans l9).trans l10;have hmv10:=hmv.mono (l5.trans l510);have hmv810:=hmv8.mono (l9.trans l10);have hP10:=hP.mono l710;rw[hzl]at hmv10;refine G.c call39 (Bdc hP10 hPL.1 oV hmv10 hm) ?_;rintro v11 u11 l11 ⟨uv,rfl,huv⟩;have hcl:∀ f:Option Par->Rat,(Cs (((Ak P).map f).map Af)).length=P.length+1:=fun f=>by rw[J7,A0p,A0p,Bo]
 obtain⟨ua,uc,rfl⟩:=Ab.opn huv;rw[hcl]at huv⊢;refine G.c call39 (Bdc (hP10.mono l11) hPL.1 oV (hmv810.mono l11) hm8) ?_;rintro v12 u12 l12 ⟨wv,rfl,hwv⟩;obtain⟨wa,wc,rfl⟩:=Ab.opn hwv;rw[hcl]at hwv⊢;have hcm:=Am0 (u:=u12) hltx hlo8;rw[Xn]at hcm;refine G.c call40 hcm ?_;rintro v13 u13 l13 rfl;have hsn:=Aaq (u:=u13) hltx;rw[Xn]at hsn;have hnn:=Bdw (Bdh (P:=P) (Ba0 hq.pos) (hsq P (cfE m0 (P.zip qs))));have hmin:=hn.min (d:=cfE n0 M) (Ba0 hq.pos) (hpsd P);have hont:=fun h=>hn.only (d:=cfE n0 M) hq.pos hc0 (hpsd P) h;generalize As3 q (cfE m0 (P.zip qs)) P C=qa at *
 generalize As3 q (cfE n0 M) P C=qb at *
 have l213:=(le8.trans l9).trans (((l10.trans l11).trans l12).trans l13);rcases Ai6 (qa-qb) with ⟨hlt0,e13⟩|⟨he0,e13⟩|⟨hgt0,_⟩
 ·rw[e13];refine G.lT (-1) 0 ?_;refine G.c call42 hsn ?_;rintro v14 u14 l14 rfl;refine G.hT (sg qa) 0 ?_;refine G.c call19 (Avm (ht2.mono (l213.trans l14))) ?_;rintro v15 u15 l15 rfl;exact G.r (.bool true) ⟨rfl,rfl⟩
 ·rw[e13];have hall:=hont (by grind);have hee:(Ak P).map (cfE n0 M)=(Ak P).map (cfE m0 (P.zip qs)):=List.map_congr_left fun e he=>(hall e he).symm;rw[hee]at hwv;refine G.lF 0 0 ?_;refine G.eT' 0 0 rfl ?_;have hlen:(((Ak P).map (cfE m0 (P.zip qs))).map Af).length<=1000000:=by rw[A0p,A0p,Bo];omega
  refine G.c call41 (Bdk (Ab.mono huv (l12.trans l13)) (Ab.mono hwv l13) hlen hlen) ?_;rintro v14 u14 l14 rfl;have hsn':=Aaq (u:=u14) hltx;rw[Xn]at hsn';simp only[decide_true];refine G.c call42 hsn' ?_;rintro v15 u15 l15 rfl;refine G.hT (sg qa) 0 ?_;refine G.c call19 (Avm (ht2.mono ((l213.trans l14).trans l15))) ?_;rintro v16 u16 l16 rfl;exact G.r (.bool true) ⟨rfl,rfl⟩
 ·exact absurd hgt0 (by grind)
end
end Go.Proofs.YtanfagpabkdmiaaGreatDoor
