/- Parts of one proof, joined by a program. -/
import Derived.Test.YtnjlhkppabfebaaGreatDoorX09
set_option linter.defProp false
set_option linter.unusedVariables false
set_option linter.unusedSimpArgs false
set_option linter.unusedSectionVars false
set_option maxHeartbeats 16000000
namespace Go.Proofs.YtnjlhkppabfebaaGreatDoor
open Go.Proofs.Tryz
open Go.RowKit Go.MapKept
def Bi0 {u:PH}{v:Value}{T:List Hv}{R:List H2}{F:List C9}{lab:Int}(h:R0 u v T R F lab)(ok:Tq u T R) :
 Fn0 prog 47 [v] u fun r _=>r=.int .i64 (P2 T R F lab):=by
 obtain⟨xa,P,xb,xd,xe,xf,rfl,hT,hR,hF⟩:=h;refine Fn0.o func47 ?_;by_cases t1:T.length=0
 ·exact G.eT T.length 0<|G.r (.int .i64 3) ⟨rfl,by rw[Bgp fun h=>h.1 t1]⟩
 refine G.eF T.length 0 ?_;by_cases t2:T.length<=12
 rotate_left
 ·exact G.gT T.length 12<|G.r (.int .i64 3) ⟨rfl,by rw[Bgp fun h=>t2 h.2.1]⟩
 refine G.gF T.length 12 ?_;by_cases r1:R.length=0
 ·exact G.eT R.length 0<|G.r (.int .i64 3) ⟨rfl,by rw[Bgp fun h=>h.2.2.1 r1]⟩
 refine G.eF R.length 0 ?_;by_cases r2:R.length<=6
 rotate_left
 ·exact G.gT R.length 6<|G.r (.int .i64 3) ⟨rfl,by rw[Bgp fun h=>r2 h.2.2.2.1]⟩
 refine G.gF R.length 6 ?_;by_cases f2:F.length<=8
 rotate_left
 ·exact G.gT F.length 8<|G.r (.int .i64 3) ⟨rfl,by rw[Bgp fun h=>f2 h.2.2.2.2]⟩
 refine G.gF F.length 8 ?_;have a0:Bkd T R F:=⟨t1,t2,r1,r2,f2⟩;refine G.l (ι:=Nat) (fun i=>[(1,.p 0 0),(49,sV xa T.length P),(50,iV T.length),(51,iV i)])
  (fun _=>[(0,⟨27,[sV xa T.length P,sV xb R.length xd,sV xe F.length xf,iV lab]⟩)])
  (fun i u' Z=>i<=T.length/\F4 (Bhy T) i=0/\Z=PH.mt) (fun i=>T.length-i) 0 ⟨oV,rfl,rfl⟩ ?_
 rintro J i hJ u1 m1 l1 ⟨c7,ay,rfl⟩;by_cases b3:i<T.length
 ·refine G.lT i T.length ?_;obtain⟨x,ah⟩:∃ x,T[i]?=some x:=⟨_,A01 b3⟩;have c4:=A1k ah;have br:=ok.att x c4;have d:Bhy T i=if L4 (T.map (·.1)) i x.1≠0 then L4 (T.map (·.1)) i x.1 else if 1<=x.2/\x.2<=3 then 0 else 7:=by
   unfold Bhy;rw[ah]
  have n:Bhy T i≠0->P2 T R F lab=Bhy T i:=fun t=>by
   have e:Bha T=Bhy T i:=H4 ay b3 t;rw[Blt a0 (by rw[e];exact t),e]
  have b4:(T.map (·.1))[i]?=some x.1:=by rw[A1a,ah];rfl
  obtain⟨X,oa,rfl,ea⟩:=Ac.at' (hT.mono l1) (j:=i) (e:=Bgy x) (by simp[ah]);obtain⟨xn,xk⟩:=x;simp only at br b4 d;refine G.a X oa T.length P i 2 b3<|G.lU (some 2) X (oa+i*2) (.agg #[.string (mkS xn),.int .i64 xk]) ea<|G.c call91 (Biw xn br) ?_;rintro v2 u2 l2 rfl;cases ew:Hn xn with
  |false =>
   have au:L4 (T.map (·.1)) i xn=14:=by unfold L4;rw[if_pos ew]
   rw[au,if_pos fV]at d;exact G.r (.int .i64 14) ⟨rfl,by rw[n (by rw[d];decide),d]⟩
  |true =>
  have av:L4 (T.map (·.1)) i xn=if xn∈(T.map (·.1)).take i then 9 else 0:=by unfold L4;rw[if_neg (by rw[ew];simp)]
  rw[av]at d;refine G.l (ι:=Nat) (fun k=>[(1,.p 0 0),(3,iV i),(4,.p 5003 0),(5,iV k),(49,sV (some ⟨X,oa,none⟩) T.length P),(50,iV T.length),(51,iV i)])
   (fun _=>[(0,⟨27,[sV (some ⟨X,oa,none⟩) T.length P,sV xb R.length xd,sV xe F.length xf,iV lab]⟩),(5003,⟨73,[tV xn,iV xk]⟩)])
   (fun k u' Z=>k<=i/\xn∉(T.map (·.1)).take k/\Z=PH.mt) (fun k=>i-k) 0 ⟨oV,mV,rfl⟩ ?_
  rintro J2 k N u3 m3 l3 ⟨hk,K,rfl⟩;by_cases bj:k<i
  ·refine G.lT k i ?_;obtain⟨y,a8⟩:∃ y,T[k]?=some y:=⟨_,A01 oV⟩;have b5:(T.map (·.1))[k]?=some y.1:=by rw[A1a,a8];rfl
   have a1:(T.map (·.1)).take (k+1)=(T.map (·.1)).take k++[y.1]:=by rw[A1n,b5];rfl
   obtain⟨_,_,e',ek⟩:=Ac.at' (hT.mono ((l1.trans l2).trans l3)) (j:=k) (e:=Bgy y) (by simp[a8]);cases e';refine G.a X oa T.length P k 2 oV<|G.f 73 X (oa+k*2) 0 0<|G.lU none X (oa+k*2+0) (.string (mkS y.1)) (ek.fld rfl rfl) ?_;by_cases t:y.1=xn
   ·refine G.q y.1 xn t ?_;rw[if_pos ((List.take_subset_take_left _ (by omega:k+1<=i)) (by rw[a1];exact A1h.2 (.inr (A12.2 t.symm)))),if_pos fV]at d;exact G.r (.int .i64 9) ⟨rfl,by rw[n (by rw[d];decide),d]⟩
   refine G.w y.1 xn t<|G.i k ?_;exact G.b (N (k+1) _ _ _ cV l3 ⟨oV,fun h=>by
    rw[a1]at h;rcases A1h.1 h with h|h
    ·exact K h
    exact t (A12.1 h).symm,rfl⟩ oV)
  obtain rfl:k=i:=oV;refine G.lF k k ?_;rw[if_neg K,if_neg mV]at d;by_cases bg:xk<1
  ·refine G.lT' xk 1 bg ?_;rw[if_neg oV]at d;exact G.r (.int .i64 7) ⟨rfl,by rw[n (by rw[d];decide),d]⟩
  refine G.lF' xk 1 bg ?_;by_cases bh:xk>3
  ·refine G.gT' xk 3 bh ?_;rw[if_neg oV]at d;exact G.r (.int .i64 7) ⟨rfl,by rw[n (by rw[d];decide),d]⟩
  refine G.gF' xk 3 bh ?_;rw[if_pos oV]at d;exact G.i k<|G.b (hJ (k+1) _ _ _ cV ((l1.trans l2).trans l3) ⟨oV,Q4 ay d,rfl⟩ oV)
 obtain rfl:i=T.length:=oV;have ag:Bha T=0:=ay;refine G.lF T.length T.length ?_;clear hJ;refine G.make 4 1 1 (.bool false) T.length kV rfl rfl oV oV oV ?_;rintro v1 mA b9 ⟨ad,rfl⟩;obtain⟨g,rfl,_⟩:=b9.some';refine G.l (ι:=Nat×List Bool) (fun i=>[(1,.p 0 0),(6,sV (some ⟨g,0,none⟩) T.length T.length),(88,sV xb R.length xd),(89,iV R.length),(90,iV i.1)])
  (fun _=>[(0,⟨27,[sV xa T.length P,sV xb R.length xd,sV xe F.length xf,iV lab]⟩)])
  (fun i u' Z=>i.1<=R.length/\i.2.length=T.length/\F4 (Bgx T.length R) i.1=0/\(∀ q:Nat,q<T.length->(i.2[q]?=some true↔∃ r∈R.take i.1,(q:Int)∈r.2.1))/\Af PH.mt Z (.slice (some ⟨g,0,none⟩) T.length T.length) 4 1 (i.2.map Value.bool)) (fun i=>R.length-i.1) (0,List.replicate T.length false)
  ⟨mV,mV,rfl,fun q hq=>by simp[hq],by rw[A8z];exact b9⟩ ?_
 rintro J ⟨i,L⟩ hJ u2 m2 l2 ⟨c0,hL,a6,a4,aw⟩;simp only at c0 hL a6 a4 aw hJ;have al:=l1.trans l2;by_cases a9:i<R.length
 ·refine G.lT i R.length ?_;obtain⟨q,a7⟩:∃ q,R[i]?=some q:=⟨_,A01 a9⟩;have bk:=A1k a7;have bs:R.take (i+1)=R.take i++[q]:=by rw[A1n,a7];rfl
  obtain⟨bp,c2,c3⟩:=ok.rel q bk;have d:Bgx T.length R i=Bib T.length (L4 (R.map (·.1)) i q.1) q.2.1:=by unfold Bgx;rw[a7]
  have n:Bgx T.length R i≠0->P2 T R F lab=Bgx T.length R i:=fun t=>by
   have e:Bg8 T.length R=Bgx T.length R i:=Bg6 a6 a9 t;rw[Bjl a0 ag (by rw[e];exact t),e]
  have b4:(R.map (·.1))[i]?=some q.1:=by rw[A1a,a7];rfl
  obtain⟨X,oa,rfl,ea⟩:=Ac.at' (hR.mono al) (j:=i) (e:=Bif q) (by simp[a7]);obtain⟨qs,E,qa,qc⟩:=q;have cd:E.length<=1000:=c2;have bo:Ac u2 (.slice qa E.length qc) 1 (Bgt E):=c3.mono al;simp only at bp b4 d;refine G.a X oa R.length xd i 2 a9<|G.lU (some 2) X (oa+i*2) (.agg #[.string (mkS qs),.slice qa E.length qc]) ea<|G.c call91 (Biw qs bp) ?_;rintro v3 u3 l3 rfl;cases ew:Hn qs with
  |false =>
   have au:L4 (R.map (·.1)) i qs=14:=by unfold L4;rw[if_pos ew]
   rw[au,Bi8 fV]at d;exact G.drop PH.mt kV (PH.mt_le _)<|G.r (.int .i64 14) ⟨rfl,by rw[n (by rw[d];decide),d]⟩
  |true =>
  have av:L4 (R.map (·.1)) i qs=if qs∈(R.map (·.1)).take i then 9 else 0:=by unfold L4;rw[if_neg (by rw[ew];simp)]
  rw[av]at d;refine G.l (ι:=Nat) (fun k=>[(1,.p 0 0),(6,sV (some ⟨g,0,none⟩) T.length T.length),(7,iV i),(8,.p 19003 0),(9,iV k),(88,sV (some ⟨X,oa,none⟩) R.length xd),(89,iV R.length),(90,iV i)])
   (fun _=>[(0,⟨27,[sV xa T.length P,sV (some ⟨X,oa,none⟩) R.length xd,sV xe F.length xf,iV lab]⟩),(19003,⟨70,[tV qs,sV qa E.length qc]⟩)])
   (fun k u' Z=>k<=i/\qs∉(R.map (·.1)).take k/\Z=m2) (fun k=>i-k) 0 ⟨oV,mV,rfl⟩ ?_
  rintro J2 k N u4 m4 l4 ⟨hk,K,rfl⟩;by_cases bj:k<i
  ·refine G.lT k i ?_;obtain⟨y,a8⟩:∃ y,R[k]?=some y:=⟨_,A01 oV⟩;have b5:(R.map (·.1))[k]?=some y.1:=by rw[A1a,a8];rfl
   have a1:(R.map (·.1)).take (k+1)=(R.map (·.1)).take k++[y.1]:=by rw[A1n,b5];rfl
   obtain⟨_,_,e',ek⟩:=Ac.at' (hR.mono ((al.trans l3).trans l4)) (j:=k) (e:=Bif y) (by simp[a8]);cases e';refine G.a X oa R.length xd k 2 oV<|G.f 70 X (oa+k*2) 0 0<|G.lU none X (oa+k*2+0) (.string (mkS y.1)) (ek.fld rfl rfl) ?_;by_cases a5:y.1=qs
   ·refine G.q y.1 qs a5<|G.drop PH.mt kV (PH.mt_le _) ?_;rw[if_pos ((List.take_subset_take_left _ (by omega:k+1<=i)) (by rw[a1];exact A1h.2 (.inr (A12.2 a5.symm)))),Bi8 fV]at d;exact G.r (.int .i64 9) ⟨rfl,by rw[n (by rw[d];decide),d]⟩
   refine G.w y.1 qs a5<|G.i k ?_;exact G.b (N (k+1) _ _ _ cV l4 ⟨oV,fun h=>by
    rw[a1]at h;rcases A1h.1 h with h|h
    ·exact K h
    exact a5 (A12.1 h).symm,rfl⟩ oV)
  obtain rfl:k=i:=oV;refine G.lF k k ?_;clear N;rw[if_neg K]at d;by_cases t:E = []
  ·refine G.eT' E.length 0 (by rw[t];rfl)<|G.drop PH.mt kV (PH.mt_le _) ?_;rw[Blw t]at d;exact G.r (.int .i64 7) ⟨rfl,by rw[n (by rw[d];decide),d]⟩
  have cc:0<E.length:=A4f.2 t;refine G.eF E.length 0<|G.l (ι:=Nat×List Bool) (fun j=>[(1,.p 0 0),(6,sV (some ⟨g,0,none⟩) T.length T.length),(8,.p 19003 0),(88,sV (some ⟨X,oa,none⟩) R.length xd),(89,iV R.length),(90,iV k),(118,sV qa E.length qc),(119,iV E.length),(120,iV j.1)])
   (fun _=>[(0,⟨27,[sV xa T.length P,sV (some ⟨X,oa,none⟩) R.length xd,sV xe F.length xf,iV lab]⟩),(19003,⟨70,[tV qs,sV qa E.length qc]⟩)])
   (fun j u' Z=>j.1<=E.length/\j.2.length=T.length/\(∀ q∈E.take j.1,0<=q/\q<T.length)/\(∀ q:Nat,q<T.length->(j.2[q]?=some true↔(∃ r∈R.take k,(q:Int)∈r.2.1)\/(q:Int)∈E.take j.1))/\Af PH.mt Z (.slice (some ⟨g,0,none⟩) T.length T.length) 4 1 (j.2.map Value.bool)) (fun j=>E.length-j.1) (0,L)
   ⟨mV,hL,mV,fun q hq=>by rw[a4 q hq];simp,aw⟩ ?_
  rintro J2 ⟨j,L2⟩ N u6 m6 l6 ⟨hj,b1,af,Y,ax⟩;simp only at hj b1 af Y ax N;have bu:=(l3.trans l4).trans l6;have ac:=bo.mono bu;by_cases ap:j<E.length
  ·refine G.lT j E.length ?_;obtain⟨p,b8⟩:∃ p,E[j]?=some p:=⟨_,A01 ap⟩;have bl:p∈E:=A1k b8;have ar:E.take (j+1)=E.take j++[p]:=by rw[A1n,b8];rfl
   obtain⟨bq,oq,rfl,eq⟩:=Ac.at' ac (j:=j) (e:=.int .i64 p) (by simp[Bgt,b8]);refine G.a bq oq E.length qc j 1 ap<|G.lU none bq (oq+j*1) (.int .i64 p) eq ?_;by_cases p0:p<0
   ·refine G.lT' p 0 p0<|G.drop PH.mt kV (PH.mt_le _) ?_;rw[Bhj t bl oV]at d;exact G.r (.int .i64 2) ⟨rfl,by rw[n (by rw[d];decide),d]⟩
   refine G.lF' p 0 p0 ?_;by_cases pn:p≥T.length
   ·refine G.hT' p T.length pn<|G.drop PH.mt kV (PH.mt_le _) ?_;rw[Bhj t bl oV]at d;exact G.r (.int .i64 2) ⟨rfl,by rw[n (by rw[d];decide),d]⟩
   refine G.hF' p T.length pn ?_;obtain⟨p,rfl⟩:∃ k:Nat,p=(k:Int):=⟨p.toNat,oV⟩;have c1:p<T.length:=oV;refine G.a g 0 T.length T.length p 1 c1<|G.storeA 1 PH.mt (L2.map Value.bool) g T.length T.length p (.bool true) kV ax (by rw[A03];omega) rfl rfl ?_;intro m7 bc;rw[Sd]at bc;refine G.i j ?_;exact G.b (N (j+1,L2.set p true) _ _ _ cV l6 ⟨dV,by simp[b1],by
    intro q hq;dsimp only at hq;rw[ar,A1h,A12]at hq;rcases hq with hq|rfl
    ·exact af q hq
    ·omega,by
    intro q hq;dsimp only;rw[ar,A1h,A12,A1z];by_cases e:p=q
    ·subst e;rw[if_pos rfl,if_pos oV];exact⟨fun _=>.inr (.inr rfl),fun _=>rfl⟩
    rw[if_neg e,Y q hq];constructor
    ·rintro (h|h)
     ·exact .inl h
     exact .inr (.inl h)
    rintro (h|h|h)
    ·exact .inl h
    ·exact .inr h
    omega,bc⟩ dV)
  obtain rfl:j=E.length:=oV;refine G.lF E.length E.length ?_;clear N;rw[A15]at af Y;refine G.l (ι:=Nat) (fun j=>[(1,.p 0 0),(6,sV (some ⟨g,0,none⟩) T.length T.length),(8,.p 19003 0),(12,iV (j+1:Nat)),(88,sV (some ⟨X,oa,none⟩) R.length xd),(89,iV R.length),(90,iV k)])
   (fun _=>[(0,⟨27,[sV xa T.length P,sV (some ⟨X,oa,none⟩) R.length xd,sV xe F.length xf,iV lab]⟩),(19003,⟨70,[tV qs,sV qa E.length qc]⟩)])
   (fun j u' Z=>j+1<=E.length/\(∀ k x y,k<j->E[k]?=some x->E[k+1]?=some y->x<y)/\Z=m6) (fun j=>E.length-j) 0
   ⟨oV,fun k x y hk=>oV,rfl⟩ ?_
  rintro J3 j bz u8 m8 l8 ⟨ca,an,rfl⟩;have ae:=ac.mono l8;by_cases aq:j+1<E.length
  ·refine G.lT (j+1:Nat) E.length ?_;obtain⟨m,b6⟩:∃ p,E[j]?=some p:=⟨_,A01 oV⟩;obtain⟨C,b7⟩:∃ p,E[j+1]?=some p:=⟨_,A01 aq⟩;obtain⟨bq,oq,rfl,bw⟩:=Ac.at' ae (j:=j+1) (e:=.int .i64 C) (by simp[Bgt,b7]);obtain⟨_,_,e',bv⟩:=Ac.at' ae (j:=j) (e:=.int .i64 m) (by simp[Bgt,b6]);cases e';refine G.a bq oq E.length qc (j+1) 1 aq<|G.lU none bq (oq+(j+1)*1) (.int .i64 C) bw<|G.s (j+1:Nat) 1 j<|G.a bq oq E.length qc j 1 oV<|G.lU none bq (oq+j*1) (.int .i64 m) bv ?_;by_cases V:m<C
   rotate_left
   ·refine G.kT C m<|G.drop PH.mt kV (PH.mt_le _) ?_;rw[Bjm t af b6 b7 V]at d;exact G.r (.int .i64 10) ⟨rfl,by rw[n (by rw[d];decide),d]⟩
   refine G.kF C m<|G.p (j+1:Nat) 1 (j+1+1:Nat) ?_;exact G.b (bz (j+1) _ _ _ cV l8 ⟨oV,fun a x y ha h1 h2=>by
    by_cases e:a=j
    ·subst e;rw[b6]at h1;rw[b7]at h2;cases h1;cases h2;exact V
    exact an a x y oV h1 h2,rfl⟩ oV)
  refine G.lF (j+1:Nat) E.length<|G.i k ?_;exact G.b (hJ (k+1,L2) _ _ _ cV ((l2.trans bu).trans l8) ⟨dV,b1,Q4 a6 (by
   rw[d];exact Bnh t af fun a x y h1 h2=>an a x y (by have:=(A05.1 h2).1;omega) h1 h2),by
   intro q hq;dsimp only;rw[Y q hq,bs];constructor
   ·rintro (⟨r,hr,h⟩|h)
    ·exact⟨r,A24 _ hr,h⟩
    exact⟨_,A6v _ (A12.2 rfl),h⟩
   rintro⟨r,hr,h⟩;rcases A1h.1 hr with hr|hr
   ·exact .inl ⟨r,hr,h⟩
   rw[A12.1 hr]at h;exact .inr h,ax⟩ dV)
 obtain rfl:i=R.length:=oV;refine G.lF R.length R.length ?_;clear hJ;rw[A15]at a4;refine G.l (ι:=Nat) (fun i=>[(1,.p 0 0),(6,sV (some ⟨g,0,none⟩) T.length T.length),(156,sV (some ⟨g,0,none⟩) T.length T.length),(157,iV T.length),(158,iV i)])
  (fun _=>[(0,⟨27,[sV xa T.length P,sV xb R.length xd,sV xe F.length xf,iV lab]⟩)])
  (fun i u' Z=>i<=T.length/\(∀ a:Nat,a<i->∃ r∈R,(a:Int)∈r.2.1)/\Z=m2) (fun i=>T.length-i) 0 ⟨oV,fun a ha=>oV,rfl⟩ ?_
 rintro J i hJ u3 m3 l3 ⟨c8,bt,rfl⟩;by_cases V:i<T.length
 ·refine G.lT i T.length ?_;have bf:L[i]?=some (L[i]'oV):=A01 oV;have aj:=a4 i V;rw[bf]at aj;refine G.a g 0 T.length T.length i 1 V ?_;have bi:ElP m3 g (0+i*1) (.bool (L[i]'oV)):=aw.el (by rw[A1a,bf];rfl);generalize L[i]'oV=lb at aj bi;refine G.lM none g (0+i*1) (.bool lb) bi ?_;cases lb with
  |false =>
   refine G.drop PH.mt kV (PH.mt_le _) ?_;exact G.r (.int .i64 7) ⟨rfl,by
    have e:Bg8 T.length R=7:=by
     rw[Bhx a6,if_neg];intro hh;have:=aj.2 (hh i V);cases this
    rw[Bjl a0 ag (by rw[e];decide),e]⟩
  |true =>
  refine G.i i ?_;exact G.b (hJ (i+1) _ _ _ cV l3 ⟨oV,fun a ha=>by
   by_cases e:a=i
   ·subst e;exact aj.1 rfl
   exact bt a oV,rfl⟩ oV)
 obtain rfl:i=T.length:=oV;have bd:Bg8 T.length R=0:=by rw[Bhx a6,if_pos bt]
 refine G.lF T.length T.length ?_;clear hJ;have c5:=al.trans l3;refine G.l (ι:=Nat) (fun i=>[(1,.p 0 0),(6,sV (some ⟨g,0,none⟩) T.length T.length),(166,sV xe F.length xf),(167,iV F.length),(168,iV i)])
  (fun _=>[(0,⟨27,[sV xa T.length P,sV xb R.length xd,sV xe F.length xf,iV lab]⟩)])
  (fun i u' Z=>i<=F.length/\F4 (Bhv T lab F) i=0/\Z=m3) (fun i=>F.length-i) 0 ⟨oV,rfl,rfl⟩ ?_
 rintro J i hJ u4 m4 l4 ⟨c9,az,rfl⟩;have am:=c5.trans l4;by_cases aa:i<F.length
 ·refine G.lT i F.length ?_;obtain⟨f,b0⟩:∃ f,F[i]?=some f:=⟨_,A01 aa⟩;have c6:=A1k b0;have d:Bhv T lab F i=Bar T lab (F.take i) f:=by unfold Bhv;rw[b0]
  have n:Bar T lab (F.take i) f≠0->P2 T R F lab=Bar T lab (F.take i) f:=fun t=>by
   have e:P1 T lab F=Bar T lab (F.take i) f:=by unfold P1;rw[H4 az aa (by rw[d];exact t),d]
   rw[Bkz a0 ag bd (by rw[e];exact t),e]
  obtain⟨fb,fo,rfl,ef⟩:=Ac.at' (hF.mono am) (j:=i) (e:=Sq f) (by simp[b0]);obtain⟨m,C,H⟩:=f;refine G.a fb fo F.length xf i 3 aa<|G.lU (some 3) fb (fo+i*3) (.agg #[.int .i64 m,.int .i64 C,.int .i64 H]) ef ?_;by_cases p0:m<0
  ·refine G.lT' m 0 p0<|G.drop PH.mt kV (PH.mt_le _) ?_;have e:Bar T lab (F.take i) (m,C,H)=2:=by unfold Bar;rw[if_pos dV]
   exact G.r (.int .i64 2) ⟨rfl,by rw[n (by rw[e];decide),e]⟩
  refine G.lF' m 0 p0 ?_;by_cases pn:m≥T.length
  ·refine G.hT' m T.length pn<|G.drop PH.mt kV (PH.mt_le _) ?_;have e:Bar T lab (F.take i) (m,C,H)=2:=by unfold Bar;rw[if_pos dV]
   exact G.r (.int .i64 2) ⟨rfl,by rw[n (by rw[e];decide),e]⟩
  refine G.hF' m T.length pn ?_;obtain⟨m,rfl⟩:∃ p:Nat,m=(p:Int):=⟨m.toNat,oV⟩;have a2:m<T.length:=oV;have hk:T[m]?=some T[m]:=A01 a2;have b2:T.getD ((m:Int)).toNat ([],0)=T[m]:=by rw[A23,A02,hk];rfl
  have I:Bar T lab (F.take i) ((m:Int),C,H)=(open Classical in if ¬ (Bit ((m:Int),C,H) T[m].2\/Bis ((m:Int),C,H) T[m].2) then 7 else if (m:Int)=lab\/∃ g∈F.take i,g.1=(m:Int) then 9 else 0):=by
   unfold Bar;rw[if_neg dV];dsimp only;rw[b2]
  obtain⟨Q,U,rfl,ea⟩:=Ac.at' (hT.mono am) (j:=m) (e:=Bgy T[m]) (by simp[hk]);generalize T[m]=q at ea I;have ea:=Bin ea;generalize q.2=fk at ea I;refine G.joinF (ι:=Unit) (fun st=>Ip prog (Ajn prog st [.bool false,.bool true,.bool true,undef,undef,undef,.bool true])) (fun _=>[(1,.p 0 0),(6,sV (some ⟨g,0,none⟩) T.length T.length),(15,iV i),(16,.p 50003 0),(166,sV (some ⟨fb,fo,none⟩) F.length xf),(167,iV F.length),(168,iV i)])
   (fun _=>[(0,⟨27,[sV (some ⟨Q,U,none⟩) T.length P,sV xb R.length xd,sV (some ⟨fb,fo,none⟩) F.length xf,iV lab]⟩),(50003,⟨75,[iV m,iV C,iV H]⟩)])
   (fun _ u' Z=>u'=u4/\Z=m4/\(Bit ((m:Int),C,H) fk\/Bis ((m:Int),C,H) fk)) (fun _=>kV) kV ?tail ?way
  case way =>
   intro a3;by_cases O:Bit ((m:Int),C,H) fk\/Bis ((m:Int),C,H) fk
   rotate_left
   ·have W:Value.int .i64 7=.int .i64 (P2 T R F lab):=by
     rw[if_pos O]at I;rw[n (by rw[I];decide),I]
    have bn:¬ Bit ((m:Int),C,H) fk:=fun h=>O (.inl h);have bm:¬ Bis ((m:Int),C,H) fk:=fun h=>O (.inr h);unfold Bit at bn;unfold Bis at bm;dsimp only at bn bm;by_cases f1:C=1
    ·refine G.eT' C 1 f1 ?_;by_cases m0:H=0
     ·exact G.eT' H 0 m0<|G.a Q U T.length P m 2 a2<|G.f 73 Q (U+m*2) 1 1<|G.lU none Q (U+m*2+1) (.int .i64 fk) ea<|G.eF fk 2<|G.eF C 2<|G.drop PH.mt kV (PH.mt_le _)<|G.r (.int .i64 7) ⟨rfl,W⟩
     refine G.eF' H 0 m0 ?_;by_cases m1:H=1
     ·exact G.eT' H 1 m1<|G.a Q U T.length P m 2 a2<|G.f 73 Q (U+m*2) 1 1<|G.lU none Q (U+m*2+1) (.int .i64 fk) ea<|G.eF fk 2<|G.eF C 2<|G.drop PH.mt kV (PH.mt_le _)<|G.r (.int .i64 7) ⟨rfl,W⟩
     exact G.eF' H 1 m1<|G.eF C 2<|G.drop PH.mt kV (PH.mt_le _)<|G.r (.int .i64 7) ⟨rfl,W⟩
    refine G.eF' C 1 f1 ?_;by_cases f3:C=2
    ·refine G.eT' C 2 f3 ?_;by_cases m0:H=0
     ·exact G.eT' H 0 m0<|G.a Q U T.length P m 2 a2<|G.f 73 Q (U+m*2) 1 1<|G.lU none Q (U+m*2+1) (.int .i64 fk) ea<|G.eF fk 3<|G.drop PH.mt kV (PH.mt_le _)<|G.r (.int .i64 7) ⟨rfl,W⟩
     exact G.eF' H 0 m0<|G.drop PH.mt kV (PH.mt_le _)<|G.r (.int .i64 7) ⟨rfl,W⟩
    exact G.eF' C 2 f3<|G.drop PH.mt kV (PH.mt_le _)<|G.r (.int .i64 7) ⟨rfl,W⟩
   have h3:(C=1/\fk=2/\H=0)\/(C=1/\fk=2/\H=1)\/(C=2/\fk=3/\H=0):=by
    unfold Bit Bis at O;dsimp only at O;omega
   rcases h3 with h3|h3|h3
   ·refine G.eT' C 1 h3.1<|G.eT' H 0 h3.2.2<|G.a Q U T.length P m 2 a2<|G.f 73 Q (U+m*2) 1 1<|G.lU none Q (U+m*2+1) (.int .i64 fk) ea<|G.eT' fk 2 h3.2.1<|G.eF C 2<|G.pastI ?_;exact a3 () _ _ _ kV cV (PH.le_refl _) ⟨rfl,rfl,O⟩
   ·refine G.eT' C 1 h3.1<|G.eF H 0<|G.eT' H 1 h3.2.2<|G.a Q U T.length P m 2 a2<|G.f 73 Q (U+m*2) 1 1<|G.lU none Q (U+m*2+1) (.int .i64 fk) ea<|G.eT' fk 2 h3.2.1<|G.eF C 2<|G.pastI ?_;exact a3 () _ _ _ kV cV (PH.le_refl _) ⟨rfl,rfl,O⟩
   refine G.eF C 1<|G.eT' C 2 h3.1<|G.eT' H 0 h3.2.2<|G.a Q U T.length P m 2 a2<|G.f 73 Q (U+m*2) 1 1<|G.lU none Q (U+m*2+1) (.int .i64 fk) ea<|G.eT' fk 3 h3.2.1<|G.pastI ?_;exact a3 () _ _ _ kV cV (PH.le_refl _) ⟨rfl,rfl,O⟩
  rintro _ u5 m5 _ ⟨rfl,rfl,O⟩;rw[if_neg (fun h=>h O)]at I;refine G.l (ι:=Nat) (fun k=>[(1,.p 0 0),(6,sV (some ⟨g,0,none⟩) T.length T.length),(15,iV i),(16,.p 50003 0),(19,iV k),(166,sV (some ⟨fb,fo,none⟩) F.length xf),(167,iV F.length),(168,iV i)])
   (fun _=>[(0,⟨27,[sV (some ⟨Q,U,none⟩) T.length P,sV xb R.length xd,sV (some ⟨fb,fo,none⟩) F.length xf,iV lab]⟩),(50003,⟨75,[iV m,iV C,iV H]⟩)])
   (fun k u' Z=>k<=i/\(¬ ∃ g∈F.take k,g.1=(m:Int))/\Z=m5) (fun k=>i-k) 0 ⟨oV,mV,rfl⟩ ?_
  rintro J2 k N u6 m6 l6 ⟨cb,K,rfl⟩;by_cases bj:k<i
  ·refine G.lT k i ?_;obtain⟨y,be⟩:∃ y,F[k]?=some y:=⟨_,A01 oV⟩;have a1:F.take (k+1)=F.take k++[y]:=by rw[A1n,be];rfl
   obtain⟨_,_,e',ek⟩:=Ac.at' (hF.mono (am.trans l6)) (j:=k) (e:=Sq y) (by simp[be]);cases e';refine G.a fb fo F.length xf k 3 oV<|G.f 75 fb (fo+k*3) 0 0<|G.lU none fb (fo+k*3+0) (.int .i64 y.1) (ek.fld rfl rfl) ?_;by_cases hy:y.1=(m:Int)
   ·refine G.eT' y.1 m hy<|G.drop PH.mt kV (PH.mt_le _) ?_;rw[if_pos (.inr ⟨y,(List.take_subset_take_left _ (by omega:k+1<=i)) (by rw[a1];exact A1h.2 (.inr (A12.2 rfl))),hy⟩)]at I;exact G.r (.int .i64 9) ⟨rfl,by rw[n (by rw[I];decide),I]⟩
   refine G.eF' y.1 m hy<|G.i k ?_;exact G.b (N (k+1) _ _ _ cV l6 ⟨oV,fun⟨z,hz,e⟩=>by
    rw[a1]at hz;rcases A1h.1 hz with hz|hz
    ·exact K ⟨z,hz,e⟩
    rw[A12.1 hz]at e;exact hy e,rfl⟩ oV)
  obtain rfl:k=i:=oV;refine G.lF k k ?_;by_cases ai:(m:Int)=lab
  ·refine G.eT' m lab ai<|G.drop PH.mt kV (PH.mt_le _) ?_;rw[if_pos (.inl ai)]at I;exact G.r (.int .i64 9) ⟨rfl,by rw[n (by rw[I];decide),I]⟩
  refine G.eF' m lab ai ?_;rw[if_neg (fun h=>h.elim ai K)]at I;exact G.i k<|G.b (hJ (k+1) _ _ _ cV (l4.trans l6) ⟨oV,Q4 az (by rw[d,I]),rfl⟩ oV)
 obtain rfl:i=F.length:=oV;have bx:P1 T lab F=0:=az;refine G.lF F.length F.length<|G.drop PH.mt kV (PH.mt_le _) ?_;rw[Bli a0 ag bd bx];unfold Bil;by_cases lo:lab < -1
 ·exact G.lT' lab (-1) lo<|G.r (.int .i64 2) ⟨rfl,by rw[if_pos (.inl lo)]⟩
 refine G.lF' lab (-1) lo ?_;by_cases hi:lab≥T.length
 ·exact G.hT' lab T.length hi<|G.r (.int .i64 2) ⟨rfl,by rw[if_pos (.inr hi)]⟩
 refine G.hF' lab T.length hi ?_;rw[if_neg oV];by_cases h0:0<=lab
 rotate_left
 ·exact G.hF' lab 0 h0<|G.r (.int .i64 0) ⟨rfl,by rw[if_neg (fun h=>h0 h.1)]⟩
 refine G.hT' lab 0 h0 ?_;obtain⟨l,rfl⟩:∃ l:Nat,lab=(l:Int):=⟨lab.toNat,oV⟩;have hk:T[l]?=some T[l]:=A01 oV;have b2:T.getD ((l:Int)).toNat ([],0)=T[l]:=by rw[A23,A02,hk];rfl
 rw[b2];obtain⟨bb,ob,rfl,eb⟩:=Ac.at' (hT.mono am) (j:=l) (e:=Bgy T[l]) (by simp[hk]);generalize T[l]=q at eb;refine G.a bb ob T.length P l 2 oV<|G.f 73 bb (ob+l*2) 1 1<|G.lU none bb (ob+l*2+1) (.int .i64 q.2) (Bin eb) ?_;by_cases ak:q.2=2
 ·exact G.nF' q.2 2 (fun h=>h ak)<|G.r (.int .i64 0) ⟨rfl,by rw[if_neg (fun h=>h.2 ak)]⟩
 exact G.nT' q.2 2 ak<|G.r (.int .i64 7) ⟨rfl,by rw[if_pos ⟨h0,ak⟩]⟩
section
variable {F:List C9}{R:List H2}{T:List Hv}{lab:Int}{ss:List (List UInt8)}{tv v:Value}{u:PH}
noncomputable def Bie (A:List Hv)(ss:List (List UInt8))(i:Nat):Int:=if Bhq (A.getD i ([],0)).2 (ss.getD i [])=true then 0 else 8
open Classical in
noncomputable def H1 (A:List Hv)(R:List H2)(F:List C9)(lab:Int)(ss:List (List UInt8)):Int :=
 if P2 A R F lab≠0 then P2 A R F lab else if ss.length≠A.length then 5 else F4 (Bie A ss) ss.length
def Bgz (Q:R0 u v T R F lab)(ok:Tq u T R)(I:Ac u tv 1 (ss.map nmV))(N:∀ s∈ss,s.length<=9223372036854775807)(a1:ss.length<=9223372036854775807) :
 Fn0 prog 24 [v,tv] u fun r _=>r=.int .i64 (H1 T R F lab ss):=by
 have L:=fun (V:PH) (l:PH.le u V)=>Bm7 (Q.mono l) (ok.mono l);obtain⟨xa,W,xb,xd,xe,xf,rfl,K,a0,Y⟩:=Q;obtain⟨ya,X,rfl⟩:=I.opn;rw[A03]at I⊢;refine Fn0.o func24<|G.c call39 (L u (PH.le_refl _)) ?_;rintro v1 u1 l1 rfl;by_cases n:P2 T R F lab=0
 rotate_left
 ·exact G.nT' (P2 T R F lab) 0 n<|G.r (.int .i64 (P2 T R F lab)) ⟨rfl,by unfold H1;rw[if_pos n]⟩
 refine G.nF (P2 T R F lab) 0 ?_;by_cases t:ss.length=T.length
 rotate_left
 ·exact G.nT ss.length T.length<|G.r (.int .i64 5) ⟨rfl,by unfold H1;rw[if_neg (fun h=>h n),if_pos t]⟩
 refine G.nF ss.length T.length ?_;have E:H1 T R F lab ss=F4 (Bie T ss) ss.length:=by unfold H1;rw[if_neg (fun h=>h n),if_neg (fun h=>h t)]
 refine G.l (ι:=Nat) (fun i=>[(2,.p 0 0),(19,sV ya ss.length X),(20,iV ss.length),(21,iV i)])
  (fun _=>[(0,⟨27,[sV xa T.length W,sV xb R.length xd,sV xe F.length xf,iV lab]⟩)])
  (fun i V m'=>i<=ss.length/\F4 (Bie T ss) i=0/\m'=PH.mt) (fun i=>ss.length-i) 0 ⟨oV,rfl,rfl⟩ ?_
 rintro J i Z u2 m2 l2 ⟨hi,z,rfl⟩;have H:=l1.trans l2;by_cases g:i<ss.length
 ·refine G.lT i ss.length ?_;obtain⟨b,off,rfl,e⟩:=M5 (I.mono H) g;refine G.a b off ss.length X i 1 g<|G.lU none b (off+i*1) (.string (mkS (ss.getD i []))) e ?_;have C:T[i]?=some T[i]:=A01 oV;have m:=N _ (A09 g);rw[show ss[i]=ss.getD i [] by simp[A02,A01 g]]at m;have d:Bie T ss i=if Bhq T[i].2 (ss.getD i [])=true then 0 else 8:=by unfold Bie;rw[show T.getD i ([],0)=T[i] by rw[A02,C];rfl]
  obtain⟨O,U,rfl,P⟩:=Ac.at' (K.mono H) (j:=i) (e:=Bgy T[i]) (by simp[C]);generalize T[i]=x at C d P;generalize ss.getD i []=s at e m d;refine G.a O U T.length W i 2 oV<|G.lU (some 2) O (U+i*2) (Bgy x) P<|G.c call59 (Brp x.1 s x.2 m) ?_;rintro v3 u3 l3 rfl;cases hb:Bhq x.2 s with
  |false =>
   rw[hb]at d;rw[if_neg mV]at d;exact G.r (.int .i64 8) ⟨rfl,by rw[E,H4 z g (by rw[d];decide),d]⟩
  |true =>
  rw[hb,if_pos rfl]at d;exact G.i i<|G.b (Z (i+1) _ _ _ cV (l2.trans l3) ⟨oV,Q4 z d,rfl⟩ oV)
 obtain rfl:i=ss.length:=oV;exact G.lF ss.length ss.length<|G.r (.int .i64 0) ⟨rfl,by rw[E,z]⟩
def Bg4 (Q:R0 u v T R F lab)(ok:Tq u T R)(I:Ac u tv 1 (ss.map nmV))(N:∀ s∈ss,s.length<=9223372036854775807)(a1:ss.length<=9223372036854775807) :
 Fn0 prog 25 [v,tv] u fun r _=>r=.int .i64 (H1 T R F lab ss):=by
 have L:=fun (V:PH) (l:PH.le u V)=>Bi0 (Q.mono l) (ok.mono l);obtain⟨xa,W,xb,xd,xe,xf,rfl,K,a0,Y⟩:=Q;obtain⟨ya,X,rfl⟩:=I.opn;rw[A03]at I⊢;refine Fn0.o func25<|G.c call47 (L u (PH.le_refl _)) ?_;rintro v1 u1 l1 rfl;by_cases n:P2 T R F lab=0
 rotate_left
 ·exact G.nT' (P2 T R F lab) 0 n<|G.r (.int .i64 (P2 T R F lab)) ⟨rfl,by unfold H1;rw[if_pos n]⟩
 refine G.nF (P2 T R F lab) 0 ?_;by_cases t:ss.length=T.length
 rotate_left
 ·exact G.nT ss.length T.length<|G.r (.int .i64 5) ⟨rfl,by unfold H1;rw[if_neg (fun h=>h n),if_pos t]⟩
 refine G.nF ss.length T.length ?_;have E:H1 T R F lab ss=F4 (Bie T ss) ss.length:=by unfold H1;rw[if_neg (fun h=>h n),if_neg (fun h=>h t)]
 refine G.l (ι:=Nat) (fun i=>[(2,.p 0 0),(19,sV ya ss.length X),(20,iV ss.length),(21,iV i)])
  (fun _=>[(0,⟨27,[sV xa T.length W,sV xb R.length xd,sV xe F.length xf,iV lab]⟩)])
  (fun i V m'=>i<=ss.length/\F4 (Bie T ss) i=0/\m'=PH.mt) (fun i=>ss.length-i) 0 ⟨oV,rfl,rfl⟩ ?_
 rintro J i Z u2 m2 l2 ⟨hi,z,rfl⟩;have H:=l1.trans l2;by_cases g:i<ss.length
 ·refine G.lT i ss.length ?_;obtain⟨b,off,rfl,e⟩:=M5 (I.mono H) g;refine G.a b off ss.length X i 1 g<|G.lU none b (off+i*1) (.string (mkS (ss.getD i []))) e ?_;have C:T[i]?=some T[i]:=A01 oV;have m:=N _ (A09 g);rw[show ss[i]=ss.getD i [] by simp[A02,A01 g]]at m;have d:Bie T ss i=if Bhq T[i].2 (ss.getD i [])=true then 0 else 8:=by unfold Bie;rw[show T.getD i ([],0)=T[i] by rw[A02,C];rfl]
  obtain⟨O,U,rfl,P⟩:=Ac.at' (K.mono H) (j:=i) (e:=Bgy T[i]) (by simp[C]);generalize T[i]=x at C d P;generalize ss.getD i []=s at e m d;refine G.a O U T.length W i 2 oV<|G.lU (some 2) O (U+i*2) (Bgy x) P<|G.c call60 (Boc x.1 s x.2 m) ?_;rintro v3 u3 l3 rfl;cases hb:Bhq x.2 s with
  |false =>
   rw[hb]at d;rw[if_neg mV]at d;exact G.r (.int .i64 8) ⟨rfl,by rw[E,H4 z g (by rw[d];decide),d]⟩
  |true =>
  rw[hb,if_pos rfl]at d;exact G.i i<|G.b (Z (i+1) _ _ _ cV (l2.trans l3) ⟨oV,Q4 z d,rfl⟩ oV)
 obtain rfl:i=ss.length:=oV;exact G.lF ss.length ss.length<|G.r (.int .i64 0) ⟨rfl,by rw[E,z]⟩
end
section
variable {A:List Hv}{F:List C9}{L:List (List UInt8)}{R:List H2}{l:List Int}{lab:Int}{n:Nat}
def Bmu (a:Hv):List UInt8×Nat:=(a.1,a.2.toNat)
def Boi (r:H2):Br:=(r.1,r.2.1.map Int.toNat,r.2.2)
def Bg2 (f:C9):Al:=(f.1.toNat,f.2.1.toNat,f.2.2.toNat)
def Bkc:∀ {L:List (List UInt8)},(∀ i (h:i<L.length),L[i]∉L.take i)->L.Nodup:=by
 intro L h;rw[List.Nodup,A3n];intro i j hi g d e;exact h j g (by rw[<-e];exact List.mem_take_iff_getElem.2 ⟨i,oV,rfl⟩)
def Bj5 {L:List Int}(h:∀ i (h:i<L.length),L[i]∉L.take i):L.Nodup:=by
 rw[List.Nodup,A3n];intro i j hi g d e;exact h j g (by rw[<-e];exact List.mem_take_iff_getElem.2 ⟨i,oV,rfl⟩)
def Bj2 {k:Nat}{x:List UInt8}(h:L4 L k x=0):Hn x=true/\x∉L.take k:=by
 unfold L4 at h;cases e:Hn x with
 |false=>rw[e]at h;cases h
 |true =>
  rw[e,if_neg mV]at h;by_cases d:x∈L.take k
  ·rw[if_pos d]at h;cases h
  exact⟨rfl,d⟩
def Bko (h:∀ i (hi:i<L.length),L4 L i L[i]=0):Rc L :=
 ⟨fun s d=>by
  obtain⟨i,hi,rfl⟩:=A2y d;exact (Bj2 (h i hi)).1,Bkc fun i hi=>(Bj2 (h i hi)).2⟩
def Brx (h:Bha A=0):(∀ a∈A,1<=a.2/\a.2<=3)/\Rc (A.map (·.1)):=by
 have m:=Bhm h;have key:∀ i (hi:i<A.length),L4 (A.map (·.1)) i A[i].1=0/\1<=A[i].2/\A[i].2<=3:=fun i hi=>by
  have:=m i hi;unfold Bhy at this;rw[A01 hi]at this;dsimp only at this;by_cases d:L4 (A.map (·.1)) i A[i].1=0
  ·rw[if_neg (fun e=>e d)]at this;by_cases g:1<=A[i].2/\A[i].2<=3
   ·exact⟨d,g⟩
   rw[if_neg g]at this;cases this
  rw[if_pos d]at this;exact absurd this d
 refine⟨fun a j=>?_,Bko fun i hi=>?_⟩
 ·obtain⟨i,hi,rfl⟩:=A2y j;exact (key i hi).2
 rw[A3v];exact (key i (by simpa using hi)).1
def Bp7 {e:Int}(h:Bib n e l=0):e=0/\l≠[]/\(∀ a∈l,0<=a/\a<n)/\Bpd l:=by
 unfold Bib at h;by_cases d:e=0
 ·rw[if_neg (fun x=>x d)]at h;by_cases g:l = []
  ·rw[if_pos g]at h;cases h
  rw[if_neg g]at h;by_cases j:∃ a∈l,¬ (0<=a/\a<n)
  ·rw[if_pos j]at h;cases h
  rw[if_neg j]at h;by_cases m:Bpd l
  ·exact⟨d,g,fun a t=>A3m fun u=>j ⟨a,t,u⟩,m⟩
  rw[if_neg m]at h;cases h
 rw[if_pos d]at h;exact absurd h d
def Brt (h:Bg8 n R=0):(∀ r∈R,r.2.1≠[]/\(∀ a∈r.2.1,0<=a/\a<n)/\Bpd r.2.1)/\Rc (R.map (·.1))/\∀ a:Nat,a<n->∃ r∈R,(a:Int)∈r.2.1:=by
 have h0:F4 (Bgx n R) R.length=0:=by
  unfold Bg8 at h;by_cases e:F4 (Bgx n R) R.length=0
  ·exact e
  rw[if_pos e]at h;exact h
 have g:=Bhm h0;have key:∀ i (hi:i<R.length),Bib n (L4 (R.map (·.1)) i R[i].1) R[i].2.1=0:=fun i hi=>by
  have:=g i hi;unfold Bgx at this;rw[A01 hi]at this;exact this
 refine⟨fun r d=>?_,Bko fun i hi=>?_,?_⟩
 ·obtain⟨i,hi,rfl⟩:=A2y d;exact (Bp7 (key i hi)).2
 ·rw[A3v];exact (Bp7 (key i (by simpa using hi))).1
 rw[Bhx h0]at h;by_cases e:∀ a:Nat,a<n->∃ r∈R,(a:Int)∈r.2.1
 ·exact e
 rw[if_neg e]at h;cases h
def Bq8 (h:P1 A lab F=0):(∀ f∈F,(0<=f.1/\f.1<A.length)/\(Bit f (A.getD f.1.toNat ([],0)).2\/Bis f (A.getD f.1.toNat ([],0)).2)/\f.1≠lab)/\(F.map (·.1)).Nodup:=by
 have z:=Bhm h;have key:∀ i (hi:i<F.length),((0<=F[i].1/\F[i].1<A.length)/\(Bit F[i] (A.getD F[i].1.toNat ([],0)).2\/Bis F[i] (A.getD F[i].1.toNat ([],0)).2)/\F[i].1≠lab)/\¬ ∃ g∈F.take i,g.1=F[i].1:=fun i hi=>by
  have:=z i hi;unfold Bhv at this;rw[A01 hi]at this;dsimp only at this;unfold Bar at this;by_cases d:0<=F[i].1/\F[i].1<A.length
  ·rw[if_neg (fun e=>e d)]at this;by_cases j:Bit F[i] (A.getD F[i].1.toNat ([],0)).2\/Bis F[i] (A.getD F[i].1.toNat ([],0)).2
   ·rw[if_neg (fun e=>e j)]at this;by_cases m:F[i].1=lab\/∃ g∈F.take i,g.1=F[i].1
    ·rw[if_pos m]at this;cases this
    exact⟨⟨d,j,fun e=>m (.inl e)⟩,fun e=>m (.inr e)⟩
   rw[if_pos j]at this;cases this
  rw[if_pos d]at this;cases this
 refine⟨fun f u=>?_,Bj5 fun i hi t=>?_⟩
 ·obtain⟨i,hi,rfl⟩:=A2y u;exact (key i hi).1
 rw[A3v,<-A5g]at t;obtain⟨g,v,e⟩:=A1b.1 t;exact (key i (by simpa using hi)).2 ⟨g,v,e⟩
def Br5 (h:P2 A R F lab=0):Bkd A R F/\Bha A=0/\Bg8 A.length R=0/\P1 A lab F=0/\Bil A lab=0:=by
 unfold P2 at h;by_cases h0:Bkd A R F
 ·rw[if_neg (fun e=>e h0)]at h;by_cases d:Bha A=0
  ·rw[if_neg (fun e=>e d)]at h;by_cases g:Bg8 A.length R=0
   ·rw[if_neg (fun e=>e g)]at h;by_cases j:P1 A lab F=0
    ·rw[if_neg (fun e=>e j)]at h;exact⟨h0,d,g,j,h⟩
    rw[if_pos j]at h;exact absurd h j
   rw[if_pos g]at h;exact absurd h g
  rw[if_pos d]at h;exact absurd h d
 rw[if_pos h0]at h;cases h
def Bn9 (h:∀ a∈l,0<=a):Bgt l=Ai (l.map Int.toNat):=by
 unfold Bgt Ai;rw[A9h];refine A41 fun a d=>?_;show Value.int .i64 a=.int .i64 (a.toNat:Nat);rw[Int.toNat_of_nonneg (h a d)]
def Bmv {u:PH}{v:Value}(h:R0 u v A R F lab)(ok:Tq u A R)(h0:P2 A R F lab=0) :
 H5 u v (A.map Bmu) (R.map Boi) (F.map Bg2) lab/\Bl u (A.map Bmu) (R.map Boi) (F.map Bg2) lab:=by
 obtain⟨⟨t1,t2,r1,r2,f2⟩,e1,e2,e3,J⟩:=Br5 h0;obtain⟨ak,an⟩:=Brx e1;obtain⟨V,rn,ra⟩:=Brt e2;obtain⟨X,fn⟩:=Bq8 e3;obtain⟨a,c,b,d,e,f,rfl,hT,hR,hF⟩:=h;have mA:(A.map Bmu).map D9=A.map Bgy:=by
  rw[A9h];refine A41 fun x C=>?_;show Value.agg #[.string (mkS x.1),.int .i64 (x.2.toNat:Nat)]=.agg #[.string (mkS x.1),.int .i64 x.2];rw[Int.toNat_of_nonneg (by have:=ak x C;omega)]
 have mR:(R.map Boi).map Hs=R.map Bif:=by
  rw[A9h];refine A41 fun x C=>?_;show Value.agg #[.string (mkS x.1),.slice x.2.2.1 (x.2.1.map Int.toNat).length x.2.2.2]=_;rw[A03];rfl
 have nf:∀ x∈F,0<=x.1/\0<=x.2.1/\0<=x.2.2:=fun x C=>by
  obtain⟨U,P,_⟩:=X x C;rcases P with ⟨w1,w2,w3⟩|⟨w1,w2,w3⟩<;>omega
 have mF:(F.map Bg2).map Cm=F.map Sq:=by
  rw[A9h];refine A41 fun x C=>?_;obtain⟨U,P,q3⟩:=nf x C;show Value.agg #[.int .i64 (x.1.toNat:Nat),.int .i64 (x.2.1.toNat:Nat),.int .i64 (x.2.2.toNat:Nat)]=.agg #[.int .i64 x.1,.int .i64 x.2.1,.int .i64 x.2.2];rw[Int.toNat_of_nonneg U,Int.toNat_of_nonneg P,Int.toNat_of_nonneg q3]
 have nA:(A.map Bmu).map (·.1)=A.map (·.1):=by rw[A9h];rfl
 have nR:(R.map Boi).map (·.1)=R.map (·.1):=by rw[A9h];rfl
 refine⟨⟨a,c,b,d,e,f,by simp only[A03],by rw[mA,A03];exact hT,by rw[mR,A03];exact hR,by rw[mF,A03];exact hF⟩,?_⟩;have E:(A.map Bmu).length=A.length:=A03 _;refine⟨⟨by rw[nA];exact an,fun x C=>?_⟩,⟨by rw[nR];exact rn,fun r I=>?_,fun r I x C=>?_,fun r I=>?_,fun r I k x y K O=>?_,fun x C=>?_,fun r I=>?_⟩,⟨fun g Y=>?_,?_⟩,by rw[E];omega,by rw[E];omega,by rw[A03];omega,by rw[A03];omega,by rw[A03];omega,?_,fun l T=>?_⟩
 ·obtain⟨Q,N,rfl⟩:=A1b.1 C;have:=ak Q N;show 1<=Q.2.toNat/\Q.2.toNat<=3;omega
 ·obtain⟨m,j,rfl⟩:=A1b.1 I;show m.2.1.map Int.toNat≠[];simpa using (V m j).1
 ·obtain⟨m,j,rfl⟩:=A1b.1 I;obtain⟨y,hy,rfl⟩:=A1b.1 (show x∈m.2.1.map Int.toNat from C);have:=(V m j).2.1 y hy;rw[E];omega
 ·obtain⟨m,j,rfl⟩:=A1b.1 I;show (m.2.1.map Int.toNat).length<=1000;rw[A03];exact (ok.rel m j).2.1
 ·obtain⟨m,j,rfl⟩:=A1b.1 I;have K:(m.2.1.map Int.toNat)[k]?=some x:=K;have O:(m.2.1.map Int.toNat)[k+1]?=some y:=O;rw[A1a]at K O;obtain⟨Q,N,rfl⟩:=A5n.1 K;obtain⟨y',a0,rfl⟩:=A5n.1 O;have q:=(V m j).2.2 k Q y' N a0;have U:=(V m j).2.1 Q (A1k N);omega
 ·rw[E]at C;obtain⟨r,I,W⟩:=ra x C;exact⟨Boi r,A1b.2 ⟨r,I,rfl⟩,A1b.2 ⟨(x:Int),W,mV⟩⟩
 ·obtain⟨m,j,rfl⟩:=A1b.1 I;have:=(ok.rel m j).2.2;rw[Bn9 fun z hz=>((V m j).2.1 z hz).1]at this;show Ac u (.slice m.2.2.1 (m.2.1.map Int.toNat).length m.2.2.2) 1 (Ai (m.2.1.map Int.toNat));rw[A03];exact this
 ·obtain⟨t,Z,rfl⟩:=A1b.1 Y;obtain⟨U,P,q3⟩:=X t Z;have T:t.1.toNat<A.length:=oV;have H:A[t.1.toNat]?=some A[t.1.toNat]:=A01 T;rw[show A.getD t.1.toNat ([],0)=A[t.1.toNat] by rw[A02,H];rfl]at P;refine⟨A[t.1.toNat].1,A[t.1.toNat].2.toNat,?_,?_,?_⟩
  ·show (A.map Bmu)[t.1.toNat]?=_;rw[A1a,H];rfl
  ·show (t.2.1.toNat=1/\A[t.1.toNat].2.toNat=2/\t.2.2.toNat<=1)\/(t.2.1.toNat=2/\A[t.1.toNat].2.toNat=3/\t.2.2.toNat=0);rcases P with ⟨w1,w2,w3⟩|⟨w1,w2,w3⟩
   ·exact .inl oV
   exact .inr oV
  show ((t.1.toNat:Nat):Int)≠lab;rw[Int.toNat_of_nonneg U.1];exact q3
 ·rw[A9h];have:(F.map ((·.1)∘Bg2))=(F.map (·.1)).map Int.toNat:=by rw[A9h];rfl
  rw[this];refine (Bay.2 ?_);have W:∀ z∈F.map (·.1),0<=z:=fun z hz=>by
   obtain⟨g,Y,rfl⟩:=A1b.1 hz;exact (X g Y).1.1
  exact fn.imp_of_mem fun {x y} C hy hne e=>hne (by have:=W x C;have:=W y hy;omega)
 ·unfold Bil at J;by_cases K:lab < -1\/lab≥A.length
  ·rw[if_pos K]at J;cases J
  omega
 unfold Bil at J;subst T;by_cases K:(l:Int) < -1\/(l:Int)≥A.length
 ·rw[if_pos K]at J;cases J
 rw[if_neg K]at J;have T:l<A.length:=oV;have H:A[l]?=some A[l]:=A01 T;rw[A23,show A.getD l ([],0)=A[l] by rw[A02,H];rfl]at J;by_cases O:0<=(l:Int)/\A[l].2≠2
 ·rw[if_pos O]at J;cases J
 refine⟨A[l].1,?_⟩;rw[A1a,H];show some (A[l].1,A[l].2.toNat)=_;rw[show A[l].2=2 from A3m fun e=>O ⟨oV,e⟩];rfl
end
section
variable {F:List Al}{R:List Br}{T:List (List UInt8×Nat)}{f:Al}{i:Nat}{lab:Int}{ss:List (List UInt8)}{tv v:Value}{u:PH}{x:Par×List UInt8}
structure Bni (T:List (List UInt8×Nat))(ss:List (List UInt8)):Prop where
 len:ss.length=T.length
 val:∀ (i:Nat) (x:List UInt8×Nat) (t:List UInt8),T[i]?=some x->ss[i]?=some t->Bla (x.2:Int) t
structure Bg3 (u:PH)(v tv:Value)(T:List (List UInt8×Nat))(R:List Br)(F:List Al)(lab:Int)(ss:List (List UInt8)):Prop where
 sch:H5 u v T R F lab
 ok:Bl u T R F lab
 lst:Ac u tv 1 (ss.map nmV)
 fit:Bni T ss
 raw:∃ A RR FF,R0 u v A RR FF lab/\Tq u A RR/\H1 A RR FF lab ss=0/\(∀ s∈ss,s.length<=9223372036854775807)
def Bg3.mono {u e:PH}{v tv:Value}{T:List (List UInt8×Nat)}{R:List Br}{F:List Al}{lab:Int}{ss:List (List UInt8)}(h:Bg3 u v tv T R F lab ss)(d:PH.le u e):Bg3 e v tv T R F lab ss:=by
 obtain⟨A,j,g,m,n,t⟩:=h.raw;exact⟨h.sch.mono d,h.ok.mono d,h.lst.mono d,h.fit,A,j,g,m.mono d,n.mono d,t⟩
def Bg3.lt (h:Bg3 u v tv T R F lab ss):∀ l:Nat,lab=(l:Int)->l<ss.length:=fun l d=>by
 obtain⟨n,e⟩:=h.ok.l2 l d;obtain⟨g,_⟩:=A05.1 e;have:=h.fit.len;omega
def Biq (hF:Da T F lab)(e:Bni T ss)(d:f∈F):f.1<ss.length:=by
 obtain⟨n,k,h,_⟩:=hF.ok f d;obtain⟨g,_⟩:=A05.1 h;have:=e.len;omega
def Bg3.small (h:Bg3 u v tv T R F lab ss):ss.length<=12:=by
 have:=h.fit.len;have:=h.ok.t2;omega
def Bhg (h:Bg3 u v tv T R F lab ss) :
 Fn0 prog 24 [v,tv] u fun r _=>r=.int .i64 0:=by
 have t:=h.small;obtain⟨A,n,m,d,e,g,j⟩:=h.raw;have:=Bgz d e h.lst j oV;rw[g]at this;exact this
def Bh7 (h:Bg3 u v tv T R F lab ss) :
 Fn0 prog 25 [v,tv] u fun r _=>r=.int .i64 0:=by
 have t:=h.small;obtain⟨A,n,m,d,e,g,j⟩:=h.raw;have:=Bg4 d e h.lst j oV;rw[g]at this;exact this
def Bg9 {A:List Hv}{R:List H2}{F:List C9}(h:R0 u v A R F lab)(ok:Tq u A R)(E:Ac u tv 1 (ss.map nmV))(m:∀ s∈ss,s.length<=9223372036854775807)(h0:H1 A R F lab ss=0) :
 Bg3 u v tv (A.map Bmu) (R.map Boi) (F.map Bg2) lab ss:=by
 have g:=h0;unfold H1 at h0;by_cases d:P2 A R F lab=0
 ·rw[if_neg (fun e=>e d)]at h0;by_cases j:ss.length=A.length
  ·rw[if_neg (fun e=>e j)]at h0;obtain⟨J,K⟩:=Bmv h ok d;have I:=Bhm h0;refine⟨J,K,E,⟨by rw[A03];exact j,fun i x t C n=>?_⟩,A,R,F,h,ok,g,m⟩;rw[A1a]at C;obtain⟨a,H,rfl⟩:=A5n.1 C;have hi:=(A05.1 n).1;have:=I i hi;unfold Bie at this;rw[show A.getD i ([],0)=a by rw[A02,H];rfl,show ss.getD i []=t by rw[A02,n];rfl]at this;have z:Bla a.2 t:=by
    by_cases e:Bla a.2 t
    ·exact e
    rw[Bg1 e,if_neg mV]at this;cases this
   have L:=z.1;show Bla ((a.2.toNat:Nat):Int) t;rw[Int.toNat_of_nonneg oV];exact z
  rw[if_pos j]at h0;cases h0
 rw[if_pos d]at h0;exact absurd h0 d
def E3 (x:Par×List UInt8):Value:=.agg #[.int .i64 x.1.1,.string (mkS x.1.2),.string (mkS x.2)]
def Bjw (x:Par×List UInt8):A9 3 [.agg #[.int .i64 x.1.1,.string (mkS x.1.2),.string (mkS x.2)]]:=fun e d=>by
 rw[A12.1 d];exact⟨rfl,A1o.1 rfl⟩
def X3 (ss:List (List UInt8))(i:Nat)(f:Al):Option (Par×List UInt8) :=
 if f.2.1=2 then some (((i:Int),ss.getD f.1 []),[49]) else if ss.getD f.1 [] = []\/ss.getD f.1 [] = [48] then none else some (((i:Int),[]),ss.getD f.1 [])
def B2 (F:List Al)(ss:List (List UInt8))(n:Nat):List (Par×List UInt8):=(F.zipIdx.take n).filterMap fun p=>X3 ss p.2 p.1
def Bm2 (F:List Al)(ss:List (List UInt8)):B2 F ss 0 = []:=rfl
def Bik (h:F[i]?=some f):B2 F ss (i+1)=B2 F ss i++(X3 ss i f).toList:=by
 unfold B2;rw[A1n,Aaj h,List.filterMap_append];cases e:X3 ss i f with
 |none=>simp[e]
 |some x=>simp[e]
def Bi7 {n:Nat}:x∈B2 F ss n↔∃ i f,i<n/\F[i]?=some f/\X3 ss i f=some x:=by
 unfold B2;rw[Baa];constructor
 ·rintro⟨⟨f,i⟩,hm,he⟩;obtain⟨j,e,d⟩:=A2y hm;rw[A1e]at e;rw[A7w,List.getElem_zipIdx]at d;cases d;refine⟨j,_,oV,A01 (by have:=e;simp at this;omega),?_⟩;simpa using he
 rintro⟨i,f,hi,hf,he⟩;refine⟨(f,i),?_,he⟩;have:(F.zipIdx.take n)[i]?=some (f,i):=by rw[A3y,if_pos hi,Aaj hf]
 exact A1k this
def Bh5 (h:X3 ss i f=some x):x.1.1=(i:Int):=by
 unfold X3 at h;split at h
 ·cases h;rfl
 split at h
 ·cases h
 cases h;rfl
def Bjd (F:List Al)(ss:List (List UInt8)):∀ n,n<=F.length->((B2 F ss n).map (·.1)).Nodup
 |0,_=>by rw[Bm2];simp
 |n+1,hn=>by
  rw[Bik (A01 (show n<F.length by omega)),A1i];rw[A4p];refine⟨Bjd F ss n oV,?_,fun a h b j e=>?_⟩
  ·cases X3 ss n F[n]<;>simp
  subst e;obtain⟨x,t,rfl⟩:=A1b.1 h;obtain⟨i,f,hi,_,m⟩:=Bi7.1 t;obtain⟨y,z,d⟩:=A1b.1 j;have g:X3 ss n F[n]=some y:=by simpa using z
  have:=Bh5 m;have:=Bh5 g;rw[d]at this;omega
def Bh9 (F:List Al)(ss:List (List UInt8))(n:Nat):(B2 F ss n).length<=F.length:=by
 unfold B2;refine A04 (List.length_filterMap_le ..) ?_;rw[A1e,List.length_zipIdx];omega
def Bms (h:Bg3 u v tv T R F lab ss) :
 Fn0 prog 26 [v,tv] u fun r _=>r=.bool (G4 F lab ss):=by
 have t:=Bhg h;have L:=h.lt;obtain⟨⟨xa,xc,xb,xd,xe,xf,rfl,V,U,H⟩,ok,C,hT,_⟩:=h;obtain⟨z,g,rfl⟩:=C.opn;rw[A03]at C t⊢;have f2:=ok.f2;refine Fn0.o func26<|G.c call24 t ?_;rintro v1 Q N rfl;refine G.nF 0 0 ?_;have d:∀ (m:PH) (b:Nat),ElP m b 0 (.slice z ss.length g)->∀ O,PH.le u O->FnK prog 61 [.slice xe F.length xf,.func (.func 62) #[] #[.pointer (some ⟨b,0,none⟩)]] O m fun v' _=>v'=.bool (F.any (Pp ss)):=fun m b W O l =>
  Aig (Pp ss) _ rfl (H.mono l) oV call62 fun f X Z Y=>Axg W (C.mono (l.trans Y)) (Biq ok.feat hT X)
 have j:∀ b:Nat,ElP (PH.mt.upd b (.cells [Value.slice z ss.length g].toArray 28 (0,0))) b 0 (.slice z ss.length g):=fun b=>My (xs:=[.slice z ss.length g]) (Ab _ _ _) rfl;unfold G4;by_cases P:lab<0
 ·refine G.hF lab 0<|G.pub 1 28 [.slice z ss.length g] kV kV ?_;intro b I J;refine G.callK _ _ kV call61 (d _ b (j b) Q N) ?_;rintro v2 u2 l2 rfl;rw[decide_eq_false oV];cases F.any (Pp ss) with
  |true =>
   exact G.drop PH.mt kV (PH.mt_le _)<|G.r (.bool false) ⟨rfl,rfl⟩
  |false =>
   exact G.drop PH.mt kV (PH.mt_le _)<|G.r (.bool true) ⟨rfl,rfl⟩
 obtain⟨l,rfl⟩:∃ l:Nat,lab=(l:Int):=⟨lab.toNat,oV⟩;have n:=L l rfl;rw[decide_eq_true oV,A23];refine G.hT l 0 ?_;obtain⟨E,off,rfl,e⟩:=M5 (C.mono N) n;refine G.a E off ss.length g l 1 n<|G.lU none E (off+l*1) (.string (mkS (ss.getD l []))) e ?_;by_cases h0:ss.getD l [] = []
 ·exact G.q (ss.getD l []) [] h0<|G.r (.bool false) ⟨rfl,by rw[h0];rfl⟩
 have K:(ss.getD l []).isEmpty=false:=by
  cases hx:ss.getD l [] with
  |nil=>exact absurd hx h0
  |cons x y=>rfl
 rw[K];refine G.w (ss.getD l []) [] h0<|G.pub 1 28 [.slice (some ⟨E,off,none⟩) ss.length g] kV kV ?_;intro b I J;refine G.callK _ _ kV call61 (d _ b (j b) Q N) ?_;rintro v2 u2 l2 rfl;cases F.any (Pp ss) with
 |true =>
  exact G.drop PH.mt kV (PH.mt_le _)<|G.r (.bool false) ⟨rfl,rfl⟩
 |false =>
  exact G.drop PH.mt kV (PH.mt_le _)<|G.r (.bool true) ⟨rfl,rfl⟩
def Bnz (h:Bg3 u v tv T R F lab ss) :
 Fn0 prog 21 [v,tv] u fun r _=>r=if lab<0\/ss.getD lab.toNat [] = [] then .tuple #[.string (mkS [48]),.bool false] else .tuple #[.string (mkS (ss.getD lab.toNat [])),.bool true]:=by
 have j:=Bhg h;have t:=h.lt;obtain⟨⟨L,O,N,P,Q,U,rfl,H,E,C⟩,ok,n,hT,_⟩:=h;obtain⟨V,z,rfl⟩:=n.opn;rw[A03]at n j⊢;refine Fn0.o func21<|G.c call24 j ?_;rintro K J I rfl;refine G.nF 0 0 ?_;by_cases g:lab<0
 ·exact G.lT lab 0<|G.r (.tuple #[.string (mkS [48]),.bool false]) ⟨rfl,by rw[if_pos (.inl g)]⟩
 obtain⟨l,rfl⟩:∃ l:Nat,lab=(l:Int):=⟨lab.toNat,oV⟩;have d:=t l rfl;rw[A23];refine G.lF l 0 ?_;obtain⟨m,off,rfl,e⟩:=M5 (n.mono I) d;refine G.a m off ss.length z l 1 d<|G.lU none m (off+l*1) (.string (mkS (ss.getD l []))) e ?_;by_cases h0:ss.getD l [] = []
 ·exact G.q (ss.getD l []) [] h0<|G.r (.tuple #[.string (mkS [48]),.bool false]) ⟨rfl,by rw[if_pos (.inr h0)]⟩
 exact G.w (ss.getD l []) [] h0<|G.a m off ss.length z l 1 d<|G.lU none m (off+l*1) (.string (mkS (ss.getD l []))) e<|G.r (.tuple #[.string (mkS (ss.getD l [])),.bool true]) ⟨rfl,by rw[if_neg (fun e=>e.elim oV h0)]⟩
def Bkq (h:Bg3 u v tv T R F lab ss) :
 Fn0 prog 51 [v,tv] u fun r m=>∃ d g,r=.func (.func 95) #[] #[.pointer (some ⟨d,0,none⟩),.pointer (some ⟨g,0,none⟩)]/\ElP m d 0 v/\ElP m g 0 tv:=by
 obtain⟨⟨n,z,t,C,E,H,rfl,V,Q,P⟩,ok,U,hT,_⟩:=h;obtain⟨I,J,rfl⟩:=U.opn;rw[A03];have W:Ag prog 51 [.agg #[.slice n T.length z,.slice t R.length C,.slice E F.length H,.int .i64 lab],.slice I ss.length J] u PH.mt (fun r m L=>∃ d g,r=.func (.func 95) #[] #[.pointer (some ⟨d,0,none⟩),.pointer (some ⟨g,0,none⟩)]/\ElP L d 0 (.agg #[.slice n T.length z,.slice t R.length C,.slice E F.length H,.int .i64 lab])/\ElP L g 0 (.slice I ss.length J)):=by
  refine Ag.o func51<|G.pastI<|G.pub 0 27 [.slice n T.length z,.slice t R.length C,.slice E F.length H,.int .i64 lab] kV kV ?_;intro d Y X;refine G.pub 1 28 [.slice I ss.length J] kV kV ?_;intro g Z j;have K:d≠g:=fun e=>by subst e;rw[Ab]at j;cases j
  exact G.r (.func (.func 95) #[] #[.pointer (some ⟨d,0,none⟩),.pointer (some ⟨g,0,none⟩)]) ⟨d,g,rfl,My (xs:=[.slice n T.length z,.slice t R.length C,.slice E F.length H,.int .i64 lab]) (by rw[Ad _ _ K,Ab]) rfl,My (xs:=[.slice I ss.length J]) (Ab _ _ _) rfl⟩
 refine Fn0.weak W.giveAll ?_;rintro r m ⟨u1,m1,_,l2,d,g,e,N,O⟩;exact⟨d,g,e,N.mono l2,O.mono l2⟩
def Bkr {u m:PH}{l b1 b2:Nat}{v tv:Value}{T:List (List UInt8×Nat)}{R:List Br}{F:List Al}{lab:Int}{ss:List (List UInt8)}(h:Bg3 u v tv T R F lab ss)(a5:ElP u b1 0 v)(W:ElP u b2 0 tv)(J:List (Par×List UInt8)->PH->PH->Prop)(D:PH->PH->Prop)
 (a6:∀ L t P C,PH.le t P->J L t C->J L P C)
 (hY:∀ (i:Nat) (x:Par×List UInt8) t C,i<F.length->PH.le u t->J (B2 F ss i) t C->x∈B2 F ss F.length->x.1.1=(i:Int)->Acq prog l [Ap x.1,.string (mkS x.2)] t C fun r P a3=>r=.bool true/\J (B2 F ss i++[x]) P a3\/r=.bool false/\D P a3)
 (h0:J [] u m):Ag prog 95 [.func (.yield l) #[] #[],.pointer (some ⟨b1,0,none⟩),.pointer (some ⟨b2,0,none⟩)] u m fun _ t C=>J (B2 F ss F.length) t C\/D t C:=by
 obtain⟨⟨xa,xc,xb,xd,xe,xf,rfl,a8,a7,a4⟩,ok,hS,hT,_⟩:=h;obtain⟨ya,yc,rfl⟩:=hS.opn;rw[A03]at hS W;have a9:=ok.f2;have X:=ok.feat;have e2:ElP u b1 (0+2) (.slice xe F.length xf):=a5.sub (k:=2) fun i y U=>by
  match i,U with
  |0,U=>simpa[Value.cells] using U
  |i+1,U=>simp[Value.cells]at U
 refine Ag.o func95<|G.f 27 b1 0 2 2<|G.lU none b1 (0+2) (.slice xe F.length xf) e2<|G.l (ι:=Nat) (fun i=>[(0,.v (.func (.yield l) #[] #[])),(2,.v (.pointer (some ⟨b2,0,none⟩))),(9,sV xe F.length xf),(10,iV F.length),(11,iV i)]) (fun _=>[])
  (fun i t C=>i<=F.length/\J (B2 F ss i) t C) (fun i=>F.length-i) 0 ⟨oV,h0⟩ ?_
 rintro Jl i hJ u1 m1 V ⟨hi,g⟩;by_cases I:i<F.length
 ·refine G.lT i F.length ?_;have Q:F[i]?=some F[i]:=A01 I;have a0:=A09 I;have H:=Biq X hT a0;have n:=Bik (ss:=ss) Q;have a1:∀ x,X3 ss i F[i]=some x->x∈B2 F ss F.length:=fun x hx=>Bi7.2 ⟨i,F[i],I,Q,hx⟩;obtain⟨fb,fo,rfl,ef⟩:=Ac.at' (a4.mono V) (j:=i) (e:=Cm F[i]) (by simp[Q]);have step:=fun (x:Par×List UInt8) (hx:X3 ss i F[i]=some x) (t C:PH) (hl:PH.le u1 t) (hj:J (B2 F ss i) t C)=>hY i x t C I (V.trans hl) hj (a1 x hx) (Bh5 hx);have O:X3 ss i F[i]=none->B2 F ss (i+1)=B2 F ss i:=fun e=>by rw[n,e];simp
  have E:∀ x,X3 ss i F[i]=some x->B2 F ss (i+1)=B2 F ss i++[x]:=fun x e=>by rw[n,e];simp
  clear n a1;generalize F[i]=f at Q a0 H ef step O E;obtain⟨z,f2,f3⟩:=f;simp only at H;refine G.a fb fo F.length xf i 3 I<|G.lU (some 3) fb (fo+i*3) (.agg #[.int .i64 z,.int .i64 f2,.int .i64 f3]) ef<|G.lU none b2 0 (.slice ya ss.length yc) (W.mono V) ?_;obtain⟨b,off,rfl,e⟩:=M5 (hS.mono V) H;refine G.a b off ss.length yc z 1 H<|G.lU none b (off+z*1) (.string (mkS (ss.getD z []))) e ?_;by_cases a2:f2=2
  ·subst a2;have hv:X3 ss i (z,2,f3)=some (((i:Int),ss.getD z []),[49]):=by unfold X3;rw[if_pos rfl]
   refine G.eT (2:Nat) 2<|G.lU none b2 0 (.slice (some ⟨b,off,none⟩) ss.length yc) (W.mono V)<|G.a b off ss.length yc z 1 H<|G.lU none b (off+z*1) (.string (mkS (ss.getD z []))) e<|G.yreg [0,1,2,3,4,5,6,7,8,9] 10 [11,12] kV ?_;intro Jy K N;refine G.x [49] [] mV<|G.x [49] [48] mV ?_;have U:=step _ hv u1 m1 (PH.le_refl _) g;refine G.b (N _ _ _ l _ _ kV U ?_);rintro v2 u2 m2 l2 (⟨rfl,hJ2⟩|⟨rfl,hD2⟩)
   case inr=>exact G.r (.tuple #[]) (.inr hD2)
   rw[<-E _ hv]at hJ2;exact G.i i<|G.b (hJ (i+1) _ _ _ cV (V.trans l2) ⟨oV,hJ2⟩ oV)
  refine G.eF f2 2 ?_;have d:X3 ss i (z,f2,f3)=if ss.getD z [] = []\/ss.getD z [] = [48] then none else some (((i:Int),[]),ss.getD z []):=by unfold X3;rw[if_neg a2]
  generalize ss.getD z []=w at d e;by_cases Y:w = []
  ·subst Y;rw[if_pos (.inl rfl)]at d;refine G.yreg [0,1,2,3,4,5,6,7,8,9] 10 [11,12] kV ?_;intro Jy K N;refine G.y [] [] rfl<|G.b (K _ _ _ kV ?_);rw[<-O d]at g;exact G.i i<|G.b (hJ (i+1) _ _ _ cV V ⟨oV,g⟩ oV)
  by_cases Z:w = [48]
  ·subst Z;rw[if_pos (.inr rfl)]at d;refine G.yreg [0,1,2,3,4,5,6,7,8,9] 10 [11,12] kV ?_;intro Jy K N;refine G.x [48] [] mV<|G.y [48] [48] rfl<|G.b (K _ _ _ kV ?_);rw[<-O d]at g;exact G.i i<|G.b (hJ (i+1) _ _ _ cV V ⟨oV,g⟩ oV)
  rw[if_neg (fun e=>e.elim Y Z)]at d;refine G.yreg [0,1,2,3,4,5,6,7,8,9] 10 [11,12] kV ?_;intro Jy K N;refine G.x w [] Y<|G.x w [48] Z ?_;have U:=step _ d u1 m1 (PH.le_refl _) g;refine G.b (N _ _ _ l _ _ kV U ?_);rintro v2 u2 m2 l2 (⟨rfl,hJ2⟩|⟨rfl,hD2⟩)
  case inr=>exact G.r (.tuple #[]) (.inr hD2)
  rw[<-E _ d]at hJ2;exact G.i i<|G.b (hJ (i+1) _ _ _ cV (V.trans l2) ⟨oV,hJ2⟩ oV)
 obtain rfl:i=F.length:=oV;exact G.lF F.length F.length<|G.r (.tuple #[]) (.inl g)
def Bn2 {u m:PH}{l E H:Nat}{v tv:Value}{T:List (List UInt8×Nat)}{R:List Br}{F:List Al}{lab:Int}{ss:List (List UInt8)}(h:Bg3 u v tv T R F lab ss)(t:ElP u E 0 v)(z:ElP u H 0 tv)(J:List (Par×List UInt8)->PH->PH->Prop)
 (n:∀ L d j g,PH.le d j->J L d g->J L j g)
 (X:∀ (i:Nat) (x:Par×List UInt8) d g,i<F.length->PH.le u d->J (B2 F ss i) d g->x∈B2 F ss F.length->x.1.1=(i:Int)->Acq prog l [Ap x.1,.string (mkS x.2)] d g fun r j C=>r=.bool true/\J (B2 F ss i++[x]) j C)
 (h0:J [] u m):Ag prog 95 [.func (.yield l) #[] #[],.pointer (some ⟨E,0,none⟩),.pointer (some ⟨H,0,none⟩)] u m fun _ d g=>J (B2 F ss F.length) d g:=fun w Y =>
 Calls.mono (Bkr h t z J (fun _ _=>False) n (fun i x d g P Q U V W=>(X i x d g P Q U V W).mono fun _ _ _ h=>.inl h) h0 w Y) fun e w' ⟨v,d,g,I,K,N,O⟩=>⟨v,d,g,I,K,N,O.resolve_right id⟩
end
def Beb {p:Al->Bool}{F:List Al}{i:Nat}{f:Al}(h:F[i]?=some f):(F.take (i+1)).any p=((F.take i).any p||p f):=by
 rw[A1n,h,List.any_append];simp
def Bee {l:List UInt8}(h:l≠[]):l.isEmpty=false:=by cases l with|nil=>exact absurd rfl h|cons _ _=>rfl
def Bdh {e x d b:Bool}(h:b=(e && !x)):(b && !d)=(e && !(x||d)):=by subst h;cases e<;>cases x<;>cases d<;>rfl
def Bdi (z:Int)(s w:List UInt8):A9 3 [.agg #[.int .i64 z,.string (mkS s),.string (mkS w)]]:=fun e d=>by
 obtain rfl:=A12.1 d;exact⟨rfl,A1o.1 rfl⟩
section
variable {F:List Al}{R:List Br}{T:List (List UInt8×Nat)}{lab:Int}{ss:List (List UInt8)}{tv v:Value}{u:PH}
def Bmn (h:Bg3 u v tv T R F lab ss) :
 Fn0 prog 27 [v,tv] u fun r _=>r=.bool (G4 F lab ss):=by
 have Q:=Bh7 h;have Z:=h.lt;obtain⟨⟨xa,xc,xb,xd,xe,xf,rfl,a3,a2,X⟩,ok,N,hT,_⟩:=h;obtain⟨ya,yc,rfl⟩:=N.opn;rw[A03]at N Q⊢;have f2:=ok.f2;refine Fn0.o func27<|G.c call25 Q ?_;rintro v1 u1 l1 rfl;refine G.nF 0 0 ?_;unfold G4;refine dite (lab<0) (fun z=>?A) (fun z=>?B)
 case' A =>
  refine G.lT' lab 0 z ?_;rw[decide_eq_false oV,Bool.false_and];obtain⟨g,d⟩:∃ g,true=g:=⟨_,rfl⟩;rw[show (!false)=g from d]
 case' B =>
  obtain⟨l,rfl⟩:∃ l:Nat,lab=(l:Int):=⟨lab.toNat,oV⟩;have P:=Z l rfl;rw[decide_eq_true oV,A23,Bool.true_and];refine G.lF l 0 ?_;obtain⟨U,off,a0,e⟩:=M5 (N.mono l1) P;subst a0;refine G.a U off ss.length yc l 1 P<|G.lU none U (off+l*1) (.string (mkS (ss.getD l []))) e ?_;refine dite (ss.getD l [] = []) (fun h0=>?C) (fun h0=>?D)
 case' C =>
  refine G.y (ss.getD l []) [] h0 ?_;rw[h0,show ([]:List UInt8).isEmpty=true from rfl];obtain⟨g,d⟩:∃ g,false=g:=⟨_,rfl⟩;rw[show (!true)=g from d]
 case' D =>
  refine G.x (ss.getD l []) [] h0 ?_;rw[Bee h0];obtain⟨g,d⟩:∃ g,true=g:=⟨_,rfl⟩;rw[show (!false)=g from d]
 case' C|D=>generalize (some ⟨U,off,none⟩:Option Addr)=ya at N⊢
 case A|C|D =>
  refine G.loop (ι:=Nat×Bool) (fun i=>[(1,sV ya ss.length yc),(5,bV i.2),(24,sV xe F.length xf),(25,iV F.length),(26,iV i.1)]) (fun _=>[])
   (fun i u' m'=>i.1<=F.length/\i.2=(g && !(F.take i.1).any (Pp ss))/\m'=PH.mt) (fun i=>F.length-i.1) (0,g) kV (fun _=>kV) (by subst d;exact cV) ⟨oV,mV,rfl⟩ ?_
  clear d;rintro J ⟨i,b⟩ L u2 m2 l2 ⟨hi,t,rfl⟩;simp only at hi t L;by_cases O:i<F.length
  ·refine G.lT i F.length ?_;obtain⟨f,Y⟩:∃ f,F[i]?=some f:=⟨_,A01 O⟩;obtain⟨ba,oa,rfl,ea⟩:=Ac.at' (X.mono (l1.trans l2)) (j:=i) (e:=Cm f) (by simp[Y]);refine G.a ba oa F.length xf i 3 O ?_;have K:=Biq ok.feat hT (A1k Y);have n:=Beb (p:=Pp ss) Y;obtain⟨m,E,H⟩:=f;simp only at K;refine G.lU (some 3) ba (oa+i*3) (.agg #[.int .i64 m,.int .i64 E,.int .i64 H]) ea ?_;cases b with
   |false =>
    exact G.i i<|G.b (L (i+1,false) _ _ _ cV l2 ⟨dV,by rw[n,<-Bdh t];rfl,rfl⟩ dV)
   |true =>
    by_cases V:E=1
    ·refine G.nF E 1 ?_;by_cases W:H=1
     ·refine G.nF H 1 ?_;obtain⟨bt,ot,a1,et⟩:=M5 (N.mono (l1.trans l2)) K;subst a1;refine G.a bt ot ss.length yc m 1 K<|G.lU none bt (ot+m*1) (.string (mkS (ss.getD m []))) et ?_;by_cases h0:ss.getD m [] = []
      ·refine G.y (ss.getD m []) [] h0 ?_;have I:Pp ss (m,E,H)=true:=by unfold Pp;simp only;rw[V,W,h0];rfl
       exact G.i i<|G.b (L (i+1,false) _ _ _ cV l2 ⟨dV,by rw[n,<-Bdh t,I];rfl,rfl⟩ dV)
      refine G.x (ss.getD m []) [] h0 ?_;have I:Pp ss (m,E,H)=false:=by unfold Pp;simp only;rw[V,W,Bee h0];rfl
      exact G.i i<|G.b (L (i+1,true) _ _ _ cV l2 ⟨dV,by rw[n,<-Bdh t,I];rfl,rfl⟩ dV)
     refine G.nT H 1 ?_;have I:Pp ss (m,E,H)=false:=by simp[Pp,W]
     exact G.i i<|G.b (L (i+1,true) _ _ _ cV l2 ⟨dV,by rw[n,<-Bdh t,I];rfl,rfl⟩ dV)
    refine G.nT E 1 ?_;have I:Pp ss (m,E,H)=false:=by simp[Pp,V]
    exact G.i i<|G.b (L (i+1,true) _ _ _ cV l2 ⟨dV,by rw[n,<-Bdh t,I];rfl,rfl⟩ dV)
  obtain rfl:i=F.length:=oV;refine G.lF F.length F.length ?_;rw[A15]at t;exact G.r (.bool b) ⟨rfl,by rw[t]⟩
def Bj4 (h:Bg3 u v tv T R F lab ss) :
 Fn0 prog 20 [v,tv] u fun r u'=>∃ lv,r=.tuple #[lv,.int .i64 0]/\Ac u' lv 3 ((B2 F ss F.length).map E3):=by
 have Q:=Bh7 h;obtain⟨⟨xa,xc,xb,xd,xe,xf,rfl,a5,a3,a0⟩,ok,hS,hT,_⟩:=h;obtain⟨ya,yc,rfl⟩:=hS.opn;rw[A03]at hS Q⊢;have f2:=ok.f2;refine Fn0.o func20<|G.c call25 Q ?_;rintro v1 u1 l1 rfl;refine G.nF 0 0<|G.l (ι:=Nat×Option Addr×Nat) (fun i=>[(1,sV ya ss.length yc),(7,sV i.2.1 (B2 F ss i.1).length i.2.2),(18,sV xe F.length xf),(19,iV F.length),(20,iV i.1)]) (fun _=>[])
  (fun i u' m'=>i.1<=F.length/\Af PH.mt m' (.slice i.2.1 (B2 F ss i.1).length i.2.2) 79 3 ((B2 F ss i.1).map E3)) (fun i=>F.length-i.1) (0,none,0) ⟨oV,Af.nil _ _ _⟩ ?_
 rintro J ⟨i,a,c⟩ hJ u2 m2 l2 ⟨hi,O⟩;simp only at hi O hJ;have W:=l1.trans l2;by_cases P:i<F.length
 ·refine G.lT i F.length ?_;obtain⟨f,hf⟩:∃ f,F[i]?=some f:=⟨_,A01 P⟩;have a1:=A1k hf;have I:=Biq ok.feat hT a1;have m:=Bik (ss:=ss) hf;have a2:=Bh9 F ss i;obtain⟨ba,oa,rfl,ea⟩:=Ac.at' (a0.mono W) (j:=i) (e:=Cm f) (by simp[hf]);refine G.a ba oa F.length xf i 3 P ?_;obtain⟨d,z,X⟩:=f;simp only at I;refine G.lU (some 3) ba (oa+i*3) (.agg #[.int .i64 d,.int .i64 z,.int .i64 X]) ea ?_;obtain⟨bt,ot,rfl,et⟩:=M5 (hS.mono W) I;refine G.a bt ot ss.length yc d 1 I<|G.lU none bt (ot+d*1) (.string (mkS (ss.getD d []))) et ?_;have V:X3 ss i (d,z,X)=none->B2 F ss (i+1)=B2 F ss i:=fun e=>by rw[m,e];simp
  have K:∀ x,X3 ss i (d,z,X)=some x->B2 F ss (i+1)=B2 F ss i++[x]:=fun x e=>by rw[m,e];simp
  refine dite (z=2) (fun h2=>?A) (fun h2=>?B)
  case' A =>
   refine G.eT z 2 ?_;have U:X3 ss i (d,z,X)=some (((i:Int),ss.getD d []),[49]):=by unfold X3;rw[if_pos h2]
   refine G.B 79 3 40 (.agg #[.int .i64 0,.string (mkS []),.string (mkS [])]) [.agg #[.int .i64 i,.string (mkS (ss.getD d [])),.string (mkS [49])]] (Bdi _ _ _) ?_;obtain⟨x,Y⟩:∃ x:Par×List UInt8,x=(((i:Int),ss.getD d []),[49]):=⟨_,rfl⟩;rw[<-Y]at U
  case' B =>
   refine G.eF z 2 ?_;have n:X3 ss i (d,z,X)=if ss.getD d [] = []\/ss.getD d [] = [48] then none else some (((i:Int),[]),ss.getD d []):=by unfold X3;rw[if_neg h2]
   generalize ss.getD d []=w at n et⊢;refine dite (w = []) (fun L=>?C) (fun L=>?D)
  case' C =>
   refine G.y w [] L ?_;rw[if_pos (.inl L)]at n
  case' D =>
   refine G.x w [] L ?_;refine dite (w = [48]) (fun N=>?E) (fun N=>?H)
  case' E =>
   refine G.y w [48] N ?_;rw[if_pos (.inr N)]at n
  case' H =>
   refine G.x w [48] N ?_;have U:=n;rw[if_neg (fun e=>e.elim L N)]at U;refine G.B 79 3 40 (.agg #[.int .i64 0,.string (mkS []),.string (mkS [])]) [.agg #[.int .i64 i,.string (mkS []),.string (mkS w)]] (Bdi _ _ _) ?_;obtain⟨x,Y⟩:∃ x:Par×List UInt8,x=(((i:Int),[]),w):=⟨_,rfl⟩;rw[<-Y]at U
  case C|E =>
   rw[<-V n]at O⊢;exact G.i i<|G.b (hJ (i+1,a,c) _ _ _ cV l2 ⟨dV,O⟩ dV)
  case A|H =>
   intro g u3 l3 Z;have hg:=K _ U;have Z:Hc u3 g 0 3 [E3 x]:=by subst Y;exact Z
   refine G.k 79 3 40 (.agg #[.int .i64 0,.string (mkS []),.string (mkS [])]) PH.mt ((B2 F ss i).map E3) [E3 x] _ g 0 1 1 O Z (Bjw _) ?_;intro v4 m4 t;rw[<-List.map_singleton (f:=E3),<-A1i,<-hg]at t;obtain⟨a4,c4,rfl⟩:=t.shape;rw[A03]at t⊢;exact G.i i<|G.b (hJ (i+1,a4,c4) _ _ _ cV (l2.trans l3) ⟨dV,t⟩ dV)
 obtain rfl:i=F.length:=oV;refine G.lF F.length F.length<|G.give _ _ _ kV O (fun g=>.inl rfl) ?_;intro u6 l6 hF;exact G.r (.tuple #[.slice a (B2 F ss F.length).length c,.int .i64 0]) ⟨rfl,_,rfl,hF⟩
end
section
def Bgk:Code->Bool
 |.ret=>true
 |_=>false
def RWr (P:Program)(l:Nat)(c:Code)(J:PH->PH->Prop)(s:S)(u m:PH):Prop :=
 ∀ (cx:Cx) (ρ:Nat->Nat) (a:Act) (w:World),Rel cx s u m ρ a w->c.wpIn (Fence.wide.inRound l) 0 P (fun e a w=>e=.ret/\∃ s u m ρ,Rel cx s u m ρ a w/\J u m) a w
section
variable {P:Program} {l:Nat} {J:PH->PH->Prop} {s:S} {u m:PH} {c:Code}
def RWr.ret' (d:Bgk c=true)(h:J u m):RWr P l c J s u m:=by
 cases c<;>first|exact fun g ρ a w e=>wpIn_ret ⟨rfl,s,u,m,ρ,e,h⟩|cases d
def RWr.seqN (t:Az5 c=true)(h:RW P l (A0q c) (fun s u m=>RWr P l (A0w c) J s u m) s u m):RWr P l c J s u m:=by
 cases c<;>first|exact fun d ρ a w v=>wpIn_seq (wpIn_mono (h d ρ a w v) fun e a w g=>by
  cases e with
  |normal=>obtain⟨s,u,m,ρ,j,n⟩:=g;exact n d ρ a w j
  |_=>exact g.elim)|cases t
def RWr.seqR (j:Az5 c=true)(h:RWr P l (A0q c) J s u m):RWr P l c J s u m:=by
 cases c<;>first|exact fun g ρ a w n=>wpIn_seq (wpIn_mono (h g ρ a w n) fun e a w d=>by
  obtain⟨rfl,d⟩:=d;exact⟨rfl,d⟩)|cases j
def RWr.block' (j:A0r c=true)(h:RWr P l (A0f c) J s u m):RWr P l c J s u m:=by
 cases c<;>first|exact fun g ρ a w n=>wpIn_block (wpIn_mono (h g ρ a w n) fun e a w d=>by
  obtain⟨rfl,d⟩:=d;exact⟨rfl,d⟩)|cases j
def RWr.condT {x:Operand}{y z:Code}(e:s.ev x=.v (.bool true))(h:RWr P l y J s u m):RWr P l (.cond x y z) J s u m:=fun g ρ a w d =>
 wpIn_cond_true (by rw[d.eval x (by rw[e];simp),e];rfl) (h g ρ a w d)
def RWr.condT' (d:cnB c=true)(e:s.ev (cnX c)=.v (.bool true))(h:RWr P l (cnY c) J s u m):RWr P l c J s u m:=by
 cases c<;>first|exact RWr.condT e h|cases d
end
theorem Bfv {P:Program}{l n:Nat}{r:Loop}{args:List Value}{T:List (Nat×Value)}{u m:PH}{K:PH->PH->Prop}(hm:m l=some (.loop r))(hr:r.state=.ready)(hs:args.length=r.params.size)
 (hn:r.tmps.size=n) (hT:∀ x∈T,((r.params.zip args.toArray).foldl (fun tmps (t,a)=>tmps.setIfInBounds t a) r.tmps)[x.1]?=some x.2)
 (h:RW P l r.assign (fun s X O=>O l=some (.loop r)/\RWr P l r.body (fun u2 z=>z l=some (.loop (Vg r))/\K u2 z) s X (O.upd l (.loop (Vg r)))) (S.ofT n T) u m) :
 Acq P l args u m fun v u' m'=>v=.bool false/\∃ z,m'=z.upd l (.loop { Vg r with state:=.done,pending:=some .ret })/\K u' z:=by
 intro w E;have hl:=E.pm l _ hm;have V:((r.params.zip args.toArray).foldl (fun tmps (t,a)=>tmps.setIfInBounds t a) r.tmps).size=n:=by
  rw[<-hn,<-A99];generalize (r.params.zip args.toArray).toList=L;generalize r.tmps=t0;induction L generalizing t0 with
  |nil=>rfl
  |cons x L ih=>grind
 refine⟨r.fn,_,r.assign,r.body,run_yield hl (by simpa using hs),roundIn_of_wpIn trivial ?_⟩;have g:=Rel.start (T:=T) E (tmps:=(r.params.zip args.toArray).foldl (fun tmps (t,a)=>tmps.setIfInBounds t a) r.tmps) hT;rw[V]at g;refine wpIn_mono (h _ _ _ _ g) fun e a1 w1 hq=>?_;cases e with
 |normal =>
  obtain⟨s1,X,O,ρ1,d,N,h2⟩:=hq;have Q:=d.gd.pm l _ N;have F:∀ k b,s1.hp k=some b->ρ1 k≠l:=fun k b C e=>by
   obtain⟨_,_,_,I⟩:=d.box k b C;rw[e,N]at I;cases I
  obtain⟨g1,g2⟩:=d.gd.putO (o':=.loop (Vg r)) N rfl;have r2:Rel ⟨w,u,m⟩ s1 X (O.upd l (.loop (Vg r))) ρ1 a1 (w1.putObj l (.loop (Vg r))):=by
   refine⟨d.sz,d.tm,d.df.of fun q e _ hu j=>?_,fun k b C=>?_,d.inj,d.lv,g1,d.gr.trans g2⟩
   ·have H:q≠l:=fun e'=>by rw[e',N]at j;cases j
    exact⟨by rw[World.putObj_heap_other H];exact e,hu,by rw[Ad _ _ H];exact j⟩
   obtain⟨e1,Y,e3,I⟩:=d.box k b C;exact⟨by rw[World.putObj_heap_other (F k b C)];exact e1,Y,e3,by rw[Ad _ _ (F k b C)];exact I⟩
  refine⟨_,run_beginRound Q hr,wpIn_mono (h2 _ _ _ _ r2) fun Y a2 w2 U=>?_⟩;obtain⟨rfl,s2,u2,z,ρ2,W,Z,h4⟩:=U;have R:=W.gd.pm l _ Z;refine⟨_,_,run_endRound (some .ret) R,?_⟩;obtain⟨g3,g4⟩:=W.gd.putO (o':=.loop { Vg r with state:=.done,pending:=some .ret }) Z rfl;exact⟨_,_,_,rfl,g3,W.gr.trans g4,rfl,z,rfl,h4⟩
 |_=>exact hq.elim
section
variable {P:Program} [A6 P] {fn:Func} {Post:Ce} {st:List KI×S} {u m:PH}
def Bgf (st:List KI×S):List KI×S:=match st.1 with
 |.code (.rangeFunc _ _ _ _)::k=>(.code .ret::k,st.2)
 |_=>st
theorem G.rangeX (g:Operand)(ps:Array Tmp)(x y:Code)(N:Nat)(cap:List Value)(a2 Z:PH->PH->Prop)(h:Azy (adv P st)=some (g,ps,x,y))(I:(adv P st).2.ev g=.v (.func (.func N) #[] cap.toArray))(hn:Bgr (Ais (adv P st)).1=true)
 (hc:∀ args w,(callFunc N args).run P w=.ok (.enter N args) w)
 (Q:∀ (l:Nat) (r:Loop),r.state=.ready->r.pending=none->r.params=ps->r.assign=x->r.body=y->r.tmps.size=(adv P st).2.n->(∀ d v,(adv P st).2.tm d=.v v->r.tmps[d]?=some v)->m l=none->u l=none ->
  Ag P N (.func (.yield l) #[] #[]::cap) u (m.upd l (.loop r)) fun _ U V=>∃ Y:Loop,Y.state≠.busy/\V l=some (.loop Y)/\∃ O,PH.le O V/\O l=none/\(Y.pending=none/\a2 U O\/Y.pending=some .ret/\Z U O))
 (k:∀ U V,PH.le u U->a2 U V->G P fn Post (Ais (adv P st)) U V) (kr:∀ U V,PH.le u U->Z U V->G P fn Post (Bgf (adv P st)) U V):G P fn Post st u m:=by
 refine G.stp ?_;generalize adv P st=st' at h I hn Q k kr;obtain⟨ks,s⟩:=st'
 match ks,h with
 |.code (.rangeFunc g' ps' x' y')::kk,h =>
  simp only[Azy,A1f,A2i]at h;obtain⟨rfl,rfl,rfl,rfl⟩:=h;simp only[Ais]at hn Q k;simp only[Bgf]at kr;refine⟨?_⟩;intro c ρ a w a8 L;show (Code.rangeFunc g' ps' x' y').wp P (It P fn Post c kk) a w;refine (wpIn_wide (n:=0)).1 (wpIn_rangeFunc fun fid _=>?_);obtain⟨C,F⟩:∃ C:Loop,C={ state:=.ready,pending:=none,fn:=fid,tmps:=a.tmps,params:=ps',assign:=x',body:=y',defers:=w.heap.size }:=⟨_,rfl⟩;have W:=run_enterLoop_outer (P:=P) (w:=w) fid a.tmps ps' x' y';rw[<-F]at W;obtain⟨E,H⟩:∃ E,E=w.alloc (.deferred (some [])):=⟨_,rfl⟩;rw[<-H]at W;have ac:E.heap.size=w.heap.size+1:=by rw[H,B6]
  rw[<-ac]at W;have a3:E.heap[w.heap.size]?=some (.deferred (some [])):=by rw[H];exact Cn _ _
  have ah:u w.heap.size=none:=L.gd.pu.none (A08 _);have ag:m w.heap.size=none:=L.gd.pm.none (A08 _);have a0:Bv u m E:=by
   refine⟨fun g o I=>?_,fun g o I=>?_,L.gd.ap,fun g cs t fr j z I hj=>?_⟩
   ·rw[H,Aq _ _ (L.gd.pu.lt I)];exact L.gd.pu g o I
   ·rw[H,Aq _ _ (L.gd.pm.lt I)];exact L.gd.pm g o I
   by_cases e:g=w.heap.size
   ·subst e;rw[a3]at I;simp at I
   have K:=Aw I;rw[ac]at K;rw[H,Aq _ _ oV]at I;exact L.gd.cl g cs t fr j z I hj
  have a5:B0 c.u0 c.m0 c.w0 u m E:=L.gr.trans ⟨oV,fun g I _=>by rw[H];exact Aq _ _ I,fun _ _=>rfl,fun _ _ h=>h,by rw[H];exact⟨rfl,rfl⟩,fun _=>by rw[H];exact⟨rfl,A08 _⟩⟩;have R:Rel c s u m ρ { a with defers:=Xm w.heap.size::a.defers } E:=by
   refine⟨L.sz,L.tm,?_,fun k b hb=>?_,L.inj,L.lv,a0,a5⟩
   ·obtain⟨ds,d1,d2,ad,d3⟩:=L.df;refine⟨w.heap.size::ds,A4j.2 ⟨fun a9=>?_,d1⟩,by rw[A2u,<-d2];rfl,by rw[<-ad];rfl,fun q hq=>?_⟩
    ·obtain⟨e,_⟩:=d3 _ a9;exact absurd (Aw e) oV
    rcases A1g.1 hq with rfl|hq
    ·exact⟨a3,L.gr.sz,ah,ag⟩
    obtain⟨e1,e2,e3,e4⟩:=d3 q hq;exact⟨by rw[H,Aq _ _ (Aw e1)];exact e1,e2,e3,e4⟩
   obtain⟨⟨cs,f1,f2,f3⟩,f4⟩:=L.box k b hb;exact⟨⟨cs,by rw[H,Aq _ _ (Aw f1)];exact f1,f2,f3⟩,f4⟩
  obtain⟨g1,g2,g3,g4⟩:=a0.newO (o:=.loop C) rfl;have T:Rel c s u (m.upd E.heap.size (.loop C)) ρ { a with defers:=Xm w.heap.size::a.defers } (E.alloc (.loop C)):=by
   refine⟨R.sz,R.tm,R.df.of fun q e _ hu X=>?_,fun k b hb=>?_,R.inj,R.lv,g1,R.gr.trans g2⟩
   ·have K:=Aw e;exact⟨by rw[Aq _ _ K];exact e,hu,by rw[Ad _ _ oV];exact X⟩
   obtain⟨⟨cs,f1,f2,f3⟩,f4,f5,f6⟩:=R.box k b hb;have K:=Aw f1;exact⟨⟨cs,by rw[Aq _ _ K];exact f1,f2,f3⟩,f4,f5,by rw[Ad _ _ oV];exact f6⟩
  have af:a.eval g'=.func (.func N) #[] cap.toArray:=by rw[L.eval g' (by rw[I];simp),I];rfl
  have ae:=Q E.heap.size C (by rw[F]) (by rw[F]) (by rw[F]) (by rw[F]) (by rw[F]) (by rw[F];exact L.sz) (fun d v hd=>by
   have:=L.tm d (by rw[hd];simp);rw[hd]at this;rw[F];exact this) g3 g4
  obtain⟨dd,a4⟩:∃ dd:Deferred,dd={ target:=.fn (.func N) cap.toArray,args:=#[.func (.yield E.heap.size) #[] #[]] }:=⟨_,rfl⟩;have ab:(resolve a.eval (rangeCall g' E.heap.size) 0).run P (E.alloc (.loop C))=.ok dd (E.alloc (.loop C)):=by
   rw[a4];simp only[resolve,af,Deferred.ofValue];simp[Act.eval]
  have a6:(invoke dd.target dd.args).run P (E.alloc (.loop C))=.ok (.enter N (.func (.yield E.heap.size) #[] #[]::cap).toArray) (E.alloc (.loop C)):=by
   rw[a4];simp[invoke,hc]
  refine⟨E.heap.size,[Xm w.heap.size],E.alloc (.loop C),dd,E.alloc (.loop C),N,(.func (.yield E.heap.size) #[] #[]::cap).toArray,E.alloc (.loop C),W,ab,fun _ _=>trivial,a6,(fun h=>by cases h),?_⟩;refine callsIn_wide.2 (Calls.mono (ae _ g1) fun e w3 he=>?_);obtain⟨v,U,V,rfl,k1,k2,Y,q1,q3,O,q4,q5,q6⟩:=he;have a7:=k1.pm _ _ q3;obtain⟨p1,p2⟩:=k1.putO (o':=.loop { Y with state:=.exhausted }) q3 rfl;have a1:PH.le O (V.upd E.heap.size (.loop { Y with state:=.exhausted })):=fun g o I=>by
   by_cases e:g=E.heap.size
   ·grind
   rw[Ad _ _ e];exact q4 g o I
  have aa:Rel c s U (V.upd E.heap.size (.loop { Y with state:=.exhausted })) ρ { a with defers:=Xm w.heap.size::a.defers } (w3.putObj E.heap.size (.loop { Y with state:=.exhausted })):=by
   have g5:=k2.trans p2;refine⟨T.sz,T.tm,T.df.of fun q e _ hu X=>⟨by rw[g5.old _ (Aw e) X];exact e,by rw[g5.us _ (Aw e)];exact hu,g5.ms _ (Aw e) X⟩,fun k b hb=>?_,T.inj,T.lv,p1,T.gr.trans g5⟩;obtain⟨e1,e2,e3,e4⟩:=T.box k b hb;have K:ρ k<(E.alloc (.loop C)).heap.size:=by obtain⟨cs,e,_⟩:=e1;exact Aw e
   refine⟨?_,e2,?_,?_⟩
   ·rw[g5.old _ K e4];exact e1
   ·rw[g5.us _ K];exact e3
   exact g5.ms _ K e4
  rcases q6 with ⟨q2,q6⟩|⟨q2,q6⟩
  ·refine⟨none,_,by rw[<-q2];exact run_endLoop a7 q1,?_⟩;have hk:=(k U O (k2.le g1.pu) q6).out;rw[Sym.ofNo hn]at hk;exact hk c ρ _ _ a8 (aa.less a1)
  refine⟨some .ret,_,by rw[<-q2];exact run_endLoop a7 q1,?_⟩;have hk:=(kr U O (k2.le g1.pu) q6).out;rw[Sym.ofNo rfl]at hk;exact (wpIn_wide (n:=0)).2 (hk c ρ _ _ a8 (aa.less a1))
end
end
section
variable {a:Act}{c:Cx}{s:S}{w:World}{y:PH}{ρ:Nat->Nat}
section
variable {P:Program} [A6 P] {fn:Func} {Post:Ce} {st:List KI×S} {u m:PH}
def Bff (e:Rel c s u m ρ a w)(z:Fj y w){r:ResultVar}{x:Value}(h:Asq P s y r x):(Ms a.tmps r).run P w=.ok x w:=by
 rcases h with h|⟨p,t,g,off,C,rfl,d,j,n,v⟩
 ·exact Ys e h
 have:=e.tm p (by rw[d];simp);rw[d]at this;simp[Ms,this,SV.den,asAddr,Kj j n v z]
def Be8 (g:Rel c s u m ρ a w)(j:Fj y w){l:List Value}(h:T6 P s y fn.results.toList l):(results fn a.tmps).run P w=.ok (Pc l) w:=by
 have key:∀ (d:List ResultVar) (l:List Value),T6 P s y d l->(d.mapM (Ms a.tmps)).run P w=.ok l w:=by
  intro d;induction d with
  |nil=>intro l h;cases l with|nil=>simp|cons=>exact h.elim
  |cons r d ih =>
   intro l h;cases l with
   |nil=>exact h.elim
   |cons x xs =>
    rw[A9p];simp only[Sem.run_bind,Bff g j h.1,Result.andThen_ok,ih xs h.2,Sem.run_pure]
 have e:results fn a.tmps=(do let vs <-fn.results.mapM (Ms a.tmps);pure (if h:vs.size=1 then vs[0] else .tuple vs)):=by
  unfold results;rfl
 rw[e,<-A5x (xs:=fn.results),A81];simp only[Sem.run_bind,Sem.run_map,key _ l h,Result.andThen_ok,Sem.run_pure]
 congr 1
 match l with
 |[]=>rfl
 |[x]=>rfl
 |x::y::l=>rfl
def G.retU (l:List Value)(h:Akf (adv P st)=true)(j:T6 P (adv P st).2 u fn.results.toList l)(hp:Post.post (Pc l) u m):G P fn Post st u m:=by
 refine G.stp ?_;generalize adv P st=st' at h j;obtain⟨n,s⟩:=st';unfold Akf at h;simp only at h;split at h
 ·refine⟨?_⟩;intro c ρ a w g d;exact wp_ret (Bg7 (d.ends fun w' e=>⟨Be8 (a:=⟨a.tmps,[]⟩) e e.gd.pu j,_,_,_,rfl,e.gd,e.gr,hp⟩).1 _)
 ·refine⟨?_⟩;intro c ρ a w g d;exact (d.ends fun w' e=>⟨Be8 (a:=⟨a.tmps,[]⟩) e e.gd.pu j,_,_,_,rfl,e.gd,e.gr,hp⟩).2
 cases h
end
def Bf7 {u:PH}{v:Value}{L:List Par}{p:Par}(h:Ac u v 2 (L.map Ap))(H:p∉L)(K:L.length<=1000000) :
 Fn0 prog 52 [v,Ap p] u fun r _=>r=.int .i64 (-1):=by
 obtain⟨a,c,rfl⟩:=h.opn;rw[A03]at h⊢;refine Fn0.o func52<|G.l (ι:=Nat) (fun i=>[(0,sV a L.length c),(3,.p 0 0),(7,iV L.length),(8,iV i)]) (fun _=>[(0,⟨77,[iV p.1,tV p.2]⟩)])
  (fun i O I=>i<=L.length/\I=PH.mt) (fun i=>L.length-i) 0 ⟨oV,rfl⟩ ?_
 rintro J i E Q N t ⟨hi,rfl⟩;by_cases d:i<L.length
 ·refine G.lT i L.length ?_;have g:L[i]?=some L[i]:=A01 d;obtain⟨n,z,rfl,C⟩:=Ac.at' (h.mono t) (j:=i) (e:=Ap L[i]) (by simp[g]);refine G.a n z L.length c i 2 d<|G.lU (some 2) n (z+i*2) (.agg #[.int .i64 L[i].1,.string (mkS L[i].2)]) C ?_;have F:p≠L[i]:=fun e=>H (by rw[e];exact A09 d);exact G.eqAgg 77 #[.int .i64 p.1,.string (mkS p.2)] #[.int .i64 L[i].1,.string (mkS L[i].2)] false kV kV kV (fun w=>by rw[<-decide_eq_false F];exact Bq.eq p L[i] w)<|G.i i<|G.b (E (i+1) _ _ _ cV t ⟨oV,rfl⟩ oV)
 exact G.lF i L.length<|G.r (.int .i64 (-1)) ⟨rfl,rfl⟩
end
section
variable {Q:List Par}
def Bh1 {κ:Type}[DecidableEq κ](a:κ):List (κ×List UInt8)->List UInt8
 |[]=>[48]
 |(b,q)::l=>if a=b then q else Bh1 a l
def Bng (h:∀ j (d:j+1<Q.length),Bk (Q[j]'oV) Q[j+1]<0):Hb Bk Q:=by
 unfold Hb;rw[A3n];intro i j hi d g;induction j with
 |zero=>omega
 |succ j ih =>
  by_cases e:i=j
  ·subst e;exact h i d
  exact Et.trans _ _ _ (ih oV oV) (h j d)
def H0 (P:List Par)(L:List (Par×List UInt8)):List (List UInt8):=[49]::P.map fun p=>Bh1 p L
def Bh8 (P:List Par)(L:List (Par×List UInt8)):(H0 P L).length=P.length+1:=by unfold H0;simp
def Bkw (P:List Par):H0 P [] = [49]::List.replicate P.length [48]:=by
 unfold H0
 congr 1
 have:(fun p:Par=>Bh1 p [])=fun _=>[48]:=by funext p;unfold Bh1;rfl
 rw[this,List.map_const']
def Bj1 {κ:Type}[DecidableEq κ]{a:κ}{x:κ×List UInt8}:∀ {L:List (κ×List UInt8)},x.1∉L.map (·.1)->Bh1 a (L++[x])=if a=x.1 then x.2 else Bh1 a L
 |[],_=>by obtain⟨b,q⟩:=x;simp[Bh1]
 |(b,q)::L,h=>by
  rw[A2u,A1g,not_or]at h;rw[A4x];unfold Bh1;by_cases e:a=b
  ·rw[if_pos e,if_neg (fun d=>h.1 (by rw[<-d,e]))];simp[e]
  rw[if_neg e,Bj1 h.2];simp[e]
def Bjs {P:List Par}{L:List (Par×List UInt8)}{x:Par×List UInt8}{k:Nat}(h:P[k]?=some x.1)(t:P.Nodup)(u:x.1∉L.map (·.1)):(H0 P L).set (k+1) x.2=H0 P (L++[x]):=by
 unfold H0;rw[A2j]
 congr 1
 obtain⟨n,d⟩:=A05.1 h;refine List.ext_getElem mV fun j g v=>?_;rw[List.getElem_set];simp only[A3v];rw[Bj1 u];by_cases e:k=j
 ·subst e;rw[if_pos rfl,if_pos d]
 rw[if_neg e,if_neg];intro m;simp at g;exact e (Yu t h (by rw[A01 (by simpa using g),m]))
def Bo4 {u:PH}{v pv tv:Value}{T:List (List UInt8×Nat)}{R:List Br}{F:List Al}{lab:Int}{ss:List (List UInt8)}(h:Bg3 u v tv T R F lab ss)(hQ:Ac u pv 2 (Q.map Ap))(hl:Q.length<=100000) :
 Fn0 prog 16 [v,pv,tv] u fun r u'=>Hb Bk Q/\((∀ x∈B2 F ss F.length,x.1∈Q)/\(∃ lv,r=.tuple #[lv,.int .i64 0]/\Ac u' lv 1 ((H0 Q (B2 F ss F.length)).map nmV))\/(∃ x∈B2 F ss F.length,x.1∉Q)/\r=.tuple #[.slice none 0 0,.int .i64 16])\/¬ Hb Bk Q/\r=.tuple #[.slice none 0 0,.int .i64 10]:=by
 have bb:=Bhg h;have ay:=fun (u':PH) (l:PH.le u u')=>Bkq (h.mono l);have b4:=h;have ca:=h.ok.f2;obtain⟨⟨xa,xc,xb,xd,xe,xf,rfl,c8,c7,c4⟩,ok,hS,hT,_⟩:=h;obtain⟨ya,yc,rfl⟩:=hS.opn;obtain⟨pa,pc,rfl⟩:=hQ.opn;rw[A03]at hS bb ay b4 hQ⊢;rw[A03]at⊢;refine Fn0.o func16<|G.c call24 bb ?_;rintro v1 u1 l1 rfl;refine G.nF 0 0<|G.l (ι:=Nat) (fun i=>[(2,sV ya ss.length yc),(3,.p 0 0),(4,.p 1 0),(6,.p 2 0),(7,.p 3 0),(9,iV i)])
  (fun _=>[(0,⟨27,[sV xa T.length xc,sV xb R.length xd,sV xe F.length xf,iV lab]⟩),(1,⟨34,[sV pa Q.length pc]⟩),(2,⟨54,[sV none 0 0]⟩),(3,⟨43,[iV 0]⟩)])
  (fun i u' C=>1<=i/\(∀ j (hj:j+1<Q.length),j+1<i->Bk (Q[j]'oV) Q[j+1]<0)/\C=PH.mt) (fun i=>Q.length-i) 1 ⟨oV,fun j hj h=>oV,rfl⟩ ?_
 rintro J i X u2 m2 l2 ⟨hi,b8,rfl⟩;by_cases ao:i<Q.length
 ·refine G.lT i Q.length ?_;have ax:=hQ.mono (l1.trans l2);have bh:Q[i]?=some Q[i]:=A01 ao;have bi:Q[i-1]?=some (Q[i-1]'oV):=A01 oV;obtain⟨ba,oa,e0,ea⟩:=Ac.at' ax (j:=i) (e:=Ap Q[i]) (by simp[bh]);obtain⟨c2,cd,au,eb⟩:=Ac.at' ax (j:=i-1) (e:=Ap (Q[i-1]'oV)) (by simp[bi]);rw[e0]at au;cases au;subst e0;refine G.s i 1 (i-1:Nat)<|G.a ba oa Q.length pc (i-1) 2 oV<|G.lU (some 2) ba (oa+(i-1)*2) (Ap (Q[i-1]'oV)) eb<|G.a ba oa Q.length pc i 2 ao<|G.lU (some 2) ba (oa+i*2) (Ap Q[i]) ea ?_;by_cases aa:Bk (Q[i-1]'oV) Q[i]<0
  rotate_left
  ·refine G.c call49 (Re _ _ false (decide_eq_false aa)) ?_;rintro v3 u3 l3 rfl;exact G.r (.tuple #[.slice none 0 0,.int .i64 10]) ⟨rfl,.inr ⟨fun hs=>aa (A3n.1 hs (i-1) i oV ao oV),rfl⟩⟩
  refine G.c call49 (Re _ _ true (decide_eq_true aa)) ?_;rintro v3 u3 l3 rfl;refine G.i i ?_;exact G.b (X (i+1) _ _ _ cV (l2.trans l3) ⟨oV,fun j hj h=>by
   by_cases e:j+1=i
   ·subst e;exact aa
   exact b8 j hj oV,rfl⟩ oV)
 refine G.lF i Q.length ?_;have ar:Hb Bk Q:=Bng fun j hj=>b8 j hj oV;have b3:=ar.nodup Et;clear X;refine G.pub 1 34 [.slice pa Q.length pc] kV kV ?_;intro bp bz c0;refine G.pub 2 54 [.slice none 0 0] kV kV ?_;intro O _ U;refine G.pub 3 43 [.int .i64 0] kV kV ?_;intro N _ E;obtain⟨I,a9⟩:∃ I,I=((PH.mt.upd bp (.cells [Value.slice pa Q.length pc].toArray 34 (0,0))).upd O (.cells [Value.slice none 0 0].toArray 54 (0,0))).upd N (.cells [Value.int .i64 0].toArray 43 (0,0)):=⟨_,rfl⟩;rw[<-a9];have P:N≠O:=fun e=>by subst e;rw[Ab]at E;cases E
 have bd:N≠bp:=fun e=>by subst e;rw[Ad _ _ P,Ab]at E;cases E
 have bc:O≠bp:=fun e=>by subst e;rw[Ab]at U;cases U
 have a8:I bp=some (.cells [Value.slice pa Q.length pc].toArray 34 (0,0)):=by rw[a9,Ad _ _ bd.symm,Ad _ _ bc.symm,Ab]
 have V:I O=some (.cells [Value.slice none 0 0].toArray 54 (0,0)):=by rw[a9,Ad _ _ P.symm,Ab]
 have Z:I N=some (.cells [Value.int .i64 0].toArray 43 (0,0)):=by rw[a9,Ab]
 clear U E a9;refine G.buildM 29 1 16 (.string (mkS [])) [.string (mkS [49])] kV (Gc [[49]]) rfl oV mV mV ?_;intro g3 m3 av;refine G.B 29 1 16 (.string (mkS [])) [.string (mkS [48])] (Gc [[48]]) ?_;intro g4 u4 l4 e4;have bg:Ac u4 (.slice (some ⟨g4,0,none⟩) 1 1) 1 [.string (mkS [48])]:=⟨_,1,rfl,A08 _,fun j e hj=>⟨g4,0,rfl,e4 j e hj⟩⟩;refine G.lM none bp 0 (.slice pa Q.length pc) (My (xs:=[.slice pa Q.length pc]) (av.see a8) rfl)<|G.c call50 (Ao2 (n:=Q.length) bg (Gc [[48]]) oV) ?_;intro v5 u5 l5 k5;obtain⟨a5,c5,rfl⟩:=Ac.opn k5;have bk:(H0 Q []).map nmV = [Value.string (mkS [49])]++List.replicate Q.length (Value.string (mkS [48])):=by
  rw[Bkw,A2u,A8z];rfl
 refine G.appendL 29 1 16 (.string (mkS [])) _ [.string (mkS [49])] (List.replicate Q.length (.string (mkS [48]))) _ a5 _ c5 kV rfl rfl oV av k5 ((Gc [[48]]).replicate _) gV gV ?_;intro v6 m6 a0;rw[<-bk]at a0;obtain⟨a6,c6,rfl⟩:=a0.shape;refine G.pub 9006 54 [.slice a6 ((H0 Q []).map nmV).length c6] kV kV ?_;intro b c9 an;have m:∀ {k o},I k=some o->b≠k:=fun h e=>by subst e;rw[a0.see h]at an;cases an
 have be:=a0.fresh (o:=.cells [Value.slice a6 ((H0 Q []).map nmV).length c6].toArray 54 (0,0)) an;have ac:PH.le u u5:=(((l1.trans l2).trans l4).trans l5);refine G.c call51 (ay u5 ac) ?_;rintro v8 u8 l8 ⟨b1,b2,rfl,e1,e2⟩;have bf:Y4 54 29 1 b I ((H0 Q []).map nmV) (m6.upd b (.cells [Value.slice a6 ((H0 Q []).map nmV).length c6].toArray 54 (0,0))):=⟨a6,c6,be⟩;refine G.rangeX (rfG Tryz.f16) (A0v Tryz.f16) (rfX Tryz.f16) (rfY Tryz.f16) 95 [.pointer (some ⟨b1,0,none⟩),.pointer (some ⟨b2,0,none⟩)] (fun u' C=>(∀ x∈B2 F ss F.length,x.1∈Q)/\Y4 54 29 1 b I ((H0 Q (B2 F ss F.length)).map nmV) C) (fun u' C=>(∃ x∈B2 F ss F.length,x.1∉Q)/\C O=some (.cells [Value.slice none 0 0].toArray 54 (0,0))/\C N=some (.cells [Value.int .i64 16].toArray 43 (0,0))) kV kV kV call95 ?_ ?_ ?_
 ·intro l r r1 r2 r3 r4 r5 r6 r7 a2 az;have H:b≠l:=fun e=>by subst e;rw[Ab]at a2;cases a2
  have W:∀ {k o},I k=some o->k≠l:=fun h e=>by subst e;rw[Ad _ _ (m h).symm,a0.see h]at a2;cases a2
  have b0:I l=none:=by
   cases e:I l with
   |none=>rfl
   |some o=>exact absurd rfl (W e)
  have ap:r.params = #[46,47]:=r3.trans kV;have hn:r.tmps.size=59:=r6.trans kV;have br:r.tmps[4]?=some (.pointer (some ⟨bp,0,none⟩)):=r7 4 _ kV;have bs:r.tmps[6]?=some (.pointer (some ⟨O,0,none⟩)):=r7 6 _ kV;have bt:r.tmps[7]?=some (.pointer (some ⟨N,0,none⟩)):=r7 7 _ kV;have b9:r.tmps[10]?=some (.pointer (some ⟨b,0,none⟩)):=r7 10 _ kV;have a4:∀ {es:List Value} {C:PH},Y4 54 29 1 b (I.upd l (.loop r)) es C->C l=some (.loop r):=fun h=>h.see H (Ab _ _ _);refine Ag.weak (Bkr (b4.mono (ac.trans l8)) e1 e2 (fun L u' C=>PH.le u8 u'/\(∀ x∈L,x.1∈Q)/\Y4 54 29 1 b (I.upd l (.loop r)) ((H0 Q L).map nmV) C)
   (fun u' C=>∃ m2:PH,C=m2.upd l (.loop { Vg r with state:=.done,pending:=some .ret })/\(∃ x∈B2 F ss F.length,x.1∉Q)/\m2 O=some (.cells [Value.slice none 0 0].toArray 54 (0,0))/\m2 N=some (.cells [Value.int .i64 16].toArray 43 (0,0))) (fun _ _ _ _ hl h=>⟨h.1.trans hl,h.2⟩) (fun i x u' C hi hl X hx cb=>?_) ?_) ?_
  ·obtain⟨am,al,X⟩:=X;have af:∀ y∈([(4,.pointer (some ⟨bp,0,none⟩)),(6,.pointer (some ⟨O,0,none⟩)),(7,.pointer (some ⟨N,0,none⟩)),(10,.pointer (some ⟨b,0,none⟩)),(46,Ap x.1),(47,.string (mkS x.2))]:List (Nat×Value)),((r.params.zip [Ap x.1,.string (mkS x.2)].toArray).foldl (fun tmps (t,a)=>tmps.setIfInBounds t a) r.tmps)[y.1]?=some y.2:=fun y z=>by
    rw[ap,Aje];simp only[A1g,A11,or_false]at z;rcases z with rfl|rfl|rfl|rfl|rfl|rfl
    ·rw[A2m mV,A2m mV];exact br
    ·rw[A2m mV,A2m mV];exact bs
    ·rw[A2m mV,A2m mV];exact bt
    ·rw[A2m mV,A2m mV];exact b9
    ·rw[A2m mV];simp[hn]
    simp[hn]
   by_cases ab:x.1∈Q
   case neg =>
    refine Acq.mono (Bfv (n:=59) (K:=fun u2 m2=>(∃ x∈B2 F ss F.length,x.1∉Q)/\m2 O=some (.cells [Value.slice none 0 0].toArray 54 (0,0))/\m2 N=some (.cells [Value.int .i64 16].toArray 43 (0,0))) (a4 X) r1 (by rw[ap];rfl) hn af ?_) fun _ _ _ ⟨h1,m2,h2,h3⟩=>.inr ⟨h1,m2,h2,h3⟩;rw[r4,r5];refine RW.seq' kV (RW.reg' Tryz.f16 kV fun d J' ag=>?_);refine G.b (ag _ _ _ (RW.reg' Tryz.f16 kV fun d J2 ah=>?_));have Y:=X.base (o:=.loop (Vg r)) H (by rw[Ab];simp);rw[Dp]at Y;have aq:∀ {k o},I k=some o->(C.upd l (.loop (Vg r))) k=some o:=fun h=>Y.see (m h) (by rw[Ad _ _ (W h)];exact h);refine G.b (ah _ _ _ ⟨a4 X,RWr.block' kV (RWr.seqN kV (RW.reg' Tryz.f16 kV fun d J3 ai=>?_))⟩);refine G.lM none bp 0 (.slice pa Q.length pc) (My (xs:=[.slice pa Q.length pc]) (aq a8) rfl)<|G.c call52 (Bf7 (hQ.mono ((ac.trans l8).trans am)) ab oV) ?_;rintro v9 u9 l9 rfl;refine G.b (ai _ _ _ (RWr.seqR kV (RWr.seqN kV (RW.reg' Tryz.f16 kV fun d J4 aj=>?_))));refine G.lT (-1) 0<|G.b (aj _ _ _ (RWr.condT' kV kV (RWr.seqN kV (RW.reg' Tryz.f16 kV fun d J5 ak=>?_))));refine G.storeM 1 O 0 54 [.slice none 0 0] (.slice none 0 0) kV (aq V) (fun y z=>by simp at z;subst z;rfl) mV rfl rfl<|G.storeM 1 N 0 43 [.int .i64 0] (.int .i64 16) kV (by rw[Ad _ _ P];exact aq Z) (fun y z=>by simp at z;subst z;rfl) mV rfl rfl<|G.b (ak _ _ _ (RWr.ret' kV ⟨?_,⟨x,hx,ab⟩,?_,?_⟩))
    ·rw[Ad _ _ (W Z).symm,Ad _ _ (W V).symm,Ab]
    ·rw[Ad _ _ P.symm,Ab];rfl
    rw[Ab];rfl
   refine Acq.mono ?_ fun _ _ _ h=>.inl h;obtain⟨k,hk,bo⟩:=A2y ab;have a1:Q[k]?=some x.1:=by rw[A01 hk,bo]
   have bu:x.1∉(B2 F ss i).map (·.1):=fun hm=>by
    obtain⟨y,z,bv⟩:=A1b.1 hm;obtain⟨j,f,hj,_,hv⟩:=Bi7.1 z;have:=Bh5 hv;rw[bv]at this;omega
   refine Amn (n:=59) (a4 X) r1 r2 (by rw[ap];rfl) hn af ?_;rw[r4,r5];refine RW.seq' kV (RW.reg' Tryz.f16 kV fun d J' ag=>?_);refine G.b (ag _ _ _ (RW.reg' Tryz.f16 kV fun d J2 ah=>?_));have Y:=X.base (o:=.loop (Vg r)) H (by rw[Ab];simp);rw[Dp]at Y;have bq:(C.upd l (.loop (Vg r))) bp=some (.cells [Value.slice pa Q.length pc].toArray 34 (0,0)):=Y.see (m a8) (by rw[Ad _ _ (W a8)];exact a8);obtain⟨a,c,hA⟩:=Y;have bj:∀ {n c':Nat} {a':Option Addr},((I.upd l (.loop (Vg r))).upd b (.cells #[.slice a' n c'] 54 (0,0))) b=some (.cells [Value.slice a' n c'].toArray 54 (0,0)):=Ab _ _ _;refine G.b (ah _ _ _ ⟨a4 X,RW.block' kV (RW.seq' kV (RW.reg' Tryz.f16 kV fun d J3 ai=>?_))⟩);refine G.lM none bp 0 (.slice pa Q.length pc) (My (xs:=[.slice pa Q.length pc]) bq rfl)<|G.c call52 (Aue (hQ.mono ((ac.trans l8).trans am)) a1 (fun j hj bn=>?_) oV) ?_
   ·have:=Yu b3 bn a1;omega
   rintro v9 u9 l9 rfl;refine G.b (ai _ _ _ (RW.seq' kV (RW.seq' kV (RW.reg' Tryz.f16 kV fun d J4 aj=>?_))));refine G.lF k 0<|G.b (aj _ _ _ (RW.condF' kV kV (RW.skip' kV ?_)));refine RW.reg' Tryz.f16 kV fun d J5 ak=>?_;refine G.lM none b 0 (.slice a ((H0 Q (B2 F ss i)).map nmV).length c) (My (xs:=[.slice a ((H0 Q (B2 F ss i)).map nmV).length c]) (hA.see bj) rfl) ?_;obtain⟨g,c',bl⟩:=hA.ptr (by unfold H0;simp);cases bl;refine G.i k ?_;have c1:((H0 Q (B2 F ss i)).map nmV).length=Q.length+1:=by rw[A03,Bh8]
   refine G.a g 0 ((H0 Q (B2 F ss i)).map nmV).length c (k+1) 1 oV<|G.storeA 1 _ ((H0 Q (B2 F ss i)).map nmV) g ((H0 Q (B2 F ss i)).map nmV).length c (k+1) (.string (mkS x.2)) kV hA oV rfl rfl ?_;intro bw ad;have b5:((H0 Q (B2 F ss i)).map nmV).set (k+1) (.string (mkS x.2))=(H0 Q (B2 F ss i++[x])).map nmV:=by
    rw[<-Bjs a1 b3 bu,A2g];rfl
   have az:((H0 Q (B2 F ss i)).map nmV).length=((H0 Q (B2 F ss i++[x])).map nmV).length:=by simp[Bh8]
   rw[b5,az]at ad;have hB:Y4 54 29 1 b (I.upd l (.loop (Vg r))) ((H0 Q (B2 F ss i++[x])).map nmV) bw:=⟨_,_,ad⟩;refine G.b (ak _ _ _ ⟨hB.see H (Ab _ _ _),am.trans l9,fun y z=>(A1h.1 z).elim (al y) fun e=>by rw[A12.1 e];exact ab,?_⟩);have aw:=hB.base (o:=.loop r) H (by rw[Ab];simp);rw[Dp]at aw;exact aw
  ·refine⟨PH.le_refl _,fun y z=>by simp at z,?_⟩;obtain⟨a,c,h⟩:=bf;refine⟨a,c,?_⟩;rw[Iq _ _ _ (fun e=>H e.symm)];exact h.fresh a2
  rintro v' u' C (⟨_,al,X⟩|⟨m2,rfl,hx,h6,h7⟩)
  ·refine⟨r,by rw[r1];simp,a4 X,C.del l,Ap6 _ _,Axu _ _,.inl ⟨r2,al,?_⟩⟩;obtain⟨a,c,hA⟩:=X;have:=hA.del (l:=l) (by rw[Ad _ _ (fun e=>H e.symm),Ab];simp);rw[Alu H,Rk b0]at this;exact⟨a,c,this⟩
  have hd:∀ {k},k≠l->((m2.upd l (.loop { Vg r with state:=.done,pending:=some .ret })).del l) k=m2 k:=fun h=>by
   show (if _ then _ else _)=_;rw[if_neg h,Ad _ _ h]
  exact⟨_,mV,Ab _ _ _,_,Ap6 _ _,Axu _ _,.inr ⟨rfl,hx,by rw[hd (W V)];exact h6,by rw[hd (W Z)];exact h7⟩⟩
 ·rintro u9 m9 l9 ⟨bm,hB⟩;have U:=m V;have E:=m Z;have hs:∀ {k o},I k=some o->m9 k=some o:=fun h=>hB.see (m h) h;have c3:=(hB.base (o:=.cells [Value.slice none 0 0].toArray 54 (0,0)) U (by rw[V];simp));obtain⟨a,c,hA⟩:=hB;have ae:m9 b=some (.cells [Value.slice a ((H0 Q (B2 F ss F.length)).map nmV).length c].toArray 54 (0,0)):=hA.see (Ab _ _ _);refine G.lM none b 0 (.slice a ((H0 Q (B2 F ss F.length)).map nmV).length c) (My (xs:=[.slice a ((H0 Q (B2 F ss F.length)).map nmV).length c]) ae rfl)<|G.storeM 1 O 0 54 [.slice none 0 0] (.slice a ((H0 Q (B2 F ss F.length)).map nmV).length c) kV (hs V) (fun y z=>by simp at z;subst z;rfl) mV rfl rfl<|G.storeM 1 N 0 43 [.int .i64 0] (.int .i64 0) kV (by rw[Ad _ _ P];exact hs Z) (fun y z=>by simp at z;subst z;rfl) mV rfl rfl ?_;obtain⟨mm,a7⟩:∃ mm,mm=(m9.upd O (.cells ([Value.slice none 0 0].take 0++(Value.slice a ((H0 Q (B2 F ss F.length)).map nmV).length c).cells.toList++[Value.slice none 0 0].drop (0+1)).toArray 54 (0,0))).upd N (.cells ([Value.int .i64 0].take 0++(Value.int .i64 0).cells.toList++[Value.int .i64 0].drop (0+1)).toArray 43 (0,0)):=⟨_,rfl⟩;rw[<-a7];refine G.giveP (ma:=mm) (sm:=PH.mt) kV (by funext g;unfold PH.or;cases mm g<;>rfl) (fun g=>.inr rfl) (fun g=>.inl rfl) ?_
  intro bx cc a3;have h6:mm O=some (.cells [Value.slice a ((H0 Q (B2 F ss F.length)).map nmV).length c].toArray 54 (0,0)):=by rw[a7,Ad _ _ P.symm,Ab];rfl
  have h7:mm N=some (.cells [Value.int .i64 0].toArray 43 (0,0)):=by rw[a7,Ab];rfl
  have hL:Ac bx (.slice a ((H0 Q (B2 F ss F.length)).map nmV).length c) 1 ((H0 Q (B2 F ss F.length)).map nmV):=by
   have h1:=Y4.base (o:=.cells ([Value.slice none 0 0].take 0++(Value.slice a ((H0 Q (B2 F ss F.length)).map nmV).length c).cells.toList++[Value.slice none 0 0].drop (0+1)).toArray 54 (0,0)) ⟨a,c,hA⟩ U (by rw[V];simp);have h2:=h1.base (l:=N) (o:=.cells ([Value.int .i64 0].take 0++(Value.int .i64 0).cells.toList++[Value.int .i64 0].drop (0+1)).toArray 43 (0,0)) E (by rw[Ad _ _ P,Z];simp);rw[<-a7]at h2;obtain⟨a',c',h3⟩:=h2;have e:=h3.see (Ab _ _ _);rw[a7,Ad _ _ E,Ad _ _ U,ae]at e;simp only[A1f,Obj.cells.injEq,List.toArray_inj,A5j,A3g,Value.slice.injEq,and_true,true_and]at e;obtain⟨rfl,rfl⟩:=e;exact h3.list a3
  exact G.retU [.slice a ((H0 Q (B2 F ss F.length)).map nmV).length c,.int .i64 0] kV ⟨.inr ⟨6,_,O,0,none,rfl,kV,kV,rfl,(My (xs:=[.slice a ((H0 Q (B2 F ss F.length)).map nmV).length c]) h6 rfl).mono a3⟩,.inr ⟨7,_,N,0,none,rfl,kV,kV,rfl,(My (xs:=[.int .i64 0]) h7 rfl).mono a3⟩,trivial⟩ ⟨rfl,.inl ⟨ar,.inl ⟨bm,_,rfl,hL⟩⟩⟩
 rintro u9 m9 l9 ⟨hx,h6,h7⟩;exact G.retM [.slice none 0 0,.int .i64 16] PH.mt kV ⟨.inr ⟨6,_,O,0,none,rfl,kV,kV,rfl,My (xs:=[.slice none 0 0]) h6 rfl⟩,.inr ⟨7,_,N,0,none,rfl,kV,kV,rfl,My (xs:=[.int .i64 16]) h7 rfl⟩,trivial⟩ (PH.mt_le _) ⟨rfl,.inl ⟨ar,.inr ⟨hx,rfl⟩⟩⟩
end
section
variable {p q:Par}
def Auh (h:p.1<q.1):Bk p q<0:=by
 have e:Q1 p.1 q.1 = -1:=by unfold Q1;rw[if_pos h]
 unfold Bk;rw[e,if_pos fV];decide
def At8 (h:¬ p.1<q.1)(d:p.1≠q.1):¬ Bk p q<0:=by
 have e:Q1 p.1 q.1=1:=by unfold Q1;rw[if_neg h,if_pos oV]
 unfold Bk;rw[e,if_pos fV];decide
def Au3 (h:p.1=q.1):decide (Bk p q<0)=Op.bytesLess p.2 q.2:=by
 have e:Q1 p.1 q.1=0:=by unfold Q1;rw[if_neg oV,if_neg oV]
 unfold Bk;rw[e,if_neg fV];unfold Vj;cases Op.bytesLess p.2 q.2 with
 |true=>rfl
 |false =>
  simp only[A4z,if_false];split<;>rfl
def Fp {u:PH}(p q:Par)(r:Bool)(h:decide (Bk p q<0)=r):Fn0 prog 68 [Ap p,Ap q] u fun v _=>v=.bool r:=by
 refine Fn0.o func68 ?_;by_cases d:p.1<q.1
 ·refine G.lT' p.1 q.1 d ?_;rw[decide_eq_true (Auh d)]at h;subst h;exact G.r (.bool true) ⟨rfl,rfl⟩
 refine G.lF' p.1 q.1 d ?_;by_cases e:p.1=q.1
 ·rw[Au3 e]at h;refine G.eT' p.1 q.1 e<|G.ltS p.2 q.2 r kV h ?_;cases r with
  |true=>exact G.r (.bool true) ⟨rfl,rfl⟩
  |false=>exact G.r (.bool false) ⟨rfl,rfl⟩
 rw[decide_eq_false (At8 d e)]at h;subst h;exact G.eF' p.1 q.1 e<|G.r (.bool false) ⟨rfl,rfl⟩
end
def Bd3 {α:Type}{l:List α}{i:Nat}{x:α}(h:l[i]?=some x):l.take (i+1)=l.take i++[x]:=by rw[A1n,h];rfl
def Bdo {u:PH}{v:Value}{L:List Par}{p:Par}{k:Nat}(h:Ac u v 2 (L.map Ap))(z:L[k]?=some p)(K:L.Nodup)(O:L.length<=1000000) :
 Fn0 prog 54 [v,Ap p] u fun r _=>r=.int .i64 k:=by
 obtain⟨a,c,rfl⟩:=h.opn;rw[A03]at h⊢;obtain⟨I,n⟩:=A05.1 z;refine Fn0.o func54<|G.l (ι:=Nat) (fun i=>[(3,.p 0 0),(7,sV a L.length c),(8,iV L.length),(9,iV i)]) (fun _=>[(0,⟨77,[iV p.1,tV p.2]⟩)])
  (fun i Q N=>i<=k/\N=PH.mt) (fun i=>k+1-i) 0 ⟨oV,rfl⟩ ?_
 rintro J i H R P C ⟨hi,rfl⟩;refine G.lT i L.length ?_;have d:L[i]?=some L[i]:=A01 oV;obtain⟨t,E,rfl,F⟩:=Ac.at' (h.mono C) (j:=i) (e:=Ap L[i]) (by simp[d]);refine G.a t E L.length c i 2 oV<|G.lU (some 2) t (E+i*2) (.agg #[.int .i64 L[i].1,.string (mkS L[i].2)]) F ?_;by_cases m:L[i]=p
 ·have g:i=k:=Yu K (by rw[d,m]) z;exact G.eqAgg 77 #[.int .i64 L[i].1,.string (mkS L[i].2)] #[.int .i64 p.1,.string (mkS p.2)] true kV kV kV (fun w=>by rw[<-decide_eq_true m];exact Bq.eq L[i] p w)<|G.r (.int .i64 i) ⟨rfl,by rw[g]⟩
 have g:i≠k:=fun e=>by subst e;exact m n
 exact G.eqAgg 77 #[.int .i64 L[i].1,.string (mkS L[i].2)] #[.int .i64 p.1,.string (mkS p.2)] false kV kV kV (fun w=>by rw[<-decide_eq_false m];exact Bq.eq L[i] p w)<|G.i i<|G.b (H (i+1) _ _ _ cV C ⟨oV,rfl⟩ oV)
def Bdq (s:Value)(i:Nat):s::List.replicate i (Value.string (mkS [48]))++[Value.string (mkS [48])]=s::List.replicate (i+1) (Value.string (mkS [48])):=by
 rw[A4x,A90]
section
variable {P:List Par}{pv v:Value}{u:PH}
def Bq4 (h:Ac u pv 2 (P.map Ap))(W:P.length<=1000000):Fn0 prog 53 [pv] u fun r _=>Hb Bk P/\r=.bool true\/¬ Hb Bk P/\r=.bool false:=by
 obtain⟨a,c,rfl⟩:=h.opn;rw[A03]at h⊢;refine Fn0.o func53<|G.l (ι:=Nat) (fun i=>[(0,sV a P.length c),(3,iV i)]) (fun _=>[])
  (fun i Y R=>1<=i/\(∀ j (n:j+1<P.length),j+1<i->Bk (P[j]'oV) P[j+1]<0)/\R=PH.mt) (fun i=>P.length-i) 1 ⟨oV,fun j n h=>oV,rfl⟩ ?_
 rintro J i O Z X l2 ⟨hi,t,rfl⟩;by_cases g:i<P.length
 ·refine G.lT i P.length ?_;have E:P[i]?=some P[i]:=A01 g;have F:P[i-1]?=some (P[i-1]'oV):=A01 oV;obtain⟨z,C,H,L⟩:=Ac.at' (h.mono l2) (j:=i) (e:=Ap P[i]) (by simp[E]);obtain⟨K,T,m,N⟩:=Ac.at' (h.mono l2) (j:=i-1) (e:=Ap (P[i-1]'oV)) (by simp[F]);rw[H]at m;cases m;subst H;refine G.s i 1 (i-1:Nat)<|G.a z C P.length c (i-1) 2 oV<|G.lU (some 2) z (C+(i-1)*2) (Ap (P[i-1]'oV)) N<|G.a z C P.length c i 2 g<|G.lU (some 2) z (C+i*2) (Ap P[i]) L ?_;by_cases d:Bk (P[i-1]'oV) P[i]<0
  rotate_left
  ·refine G.c call68 (Fp _ _ false (decide_eq_false d)) ?_;rintro V U I rfl;exact G.r (.bool false) ⟨rfl,.inr ⟨fun Q=>d (A3n.1 Q (i-1) i oV g oV),rfl⟩⟩
  refine G.c call68 (Fp _ _ true (decide_eq_true d)) ?_;rintro V U I rfl;refine G.i i ?_;exact G.b (O (i+1) _ _ _ cV (l2.trans I) ⟨oV,fun j n h=>by
   by_cases e:j+1=i
   ·subst e;exact d
   exact t j n oV,rfl⟩ oV)
 exact G.lF i P.length<|G.r (.bool true) ⟨rfl,.inl ⟨Bng fun j n=>t j n oV,rfl⟩⟩
def Bov {L:List Par}{p:Par}(h:Ac u v 2 (L.map Ap))(F:p∉L)(I:L.length<=1000000) :
 Fn0 prog 54 [v,Ap p] u fun r _=>r=.int .i64 (-1):=by
 obtain⟨a,c,rfl⟩:=h.opn;rw[A03]at h⊢;refine Fn0.o func54<|G.l (ι:=Nat) (fun i=>[(3,.p 0 0),(7,sV a L.length c),(8,iV L.length),(9,iV i)]) (fun _=>[(0,⟨77,[iV p.1,tV p.2]⟩)])
  (fun i N H=>i<=L.length/\H=PH.mt) (fun i=>L.length-i) 0 ⟨oV,rfl⟩ ?_
 rintro J i C O K n ⟨hi,rfl⟩;by_cases g:i<L.length
 rotate_left
 ·exact G.lF i L.length<|G.r (.int .i64 (-1)) ⟨rfl,rfl⟩
 refine G.lT i L.length ?_;have d:L[i]?=some L[i]:=A01 oV;obtain⟨m,t,rfl,z⟩:=Ac.at' (h.mono n) (j:=i) (e:=Ap L[i]) (by simp[d]);refine G.a m t L.length c i 2 oV<|G.lU (some 2) m (t+i*2) (.agg #[.int .i64 L[i].1,.string (mkS L[i].2)]) z ?_;have E:L[i]≠p:=fun e=>F (e▸A09 g);exact G.eqAgg 77 #[.int .i64 L[i].1,.string (mkS L[i].2)] #[.int .i64 p.1,.string (mkS p.2)] false kV kV kV (fun w=>by rw[<-decide_eq_false E];exact Bq.eq L[i] p w)<|G.i i<|G.b (C (i+1) _ _ _ cV n ⟨oV,rfl⟩ oV)
def Boe {v pv tv:Value}{T:List (List UInt8×Nat)}{R:List Br}{F:List Al}{lab:Int}{ss:List (List UInt8)}(h:Bg3 u v tv T R F lab ss)(U:Ac u pv 2 (P.map Ap))(hl:P.length<=10000) :
 Fn0 prog 17 [v,pv,tv] u fun r u'=>Hb Bk P/\((∀ x∈B2 F ss F.length,x.1∈P)/\(∃ lv,r=.tuple #[lv,.int .i64 0]/\Ac u' lv 1 ((H0 P (B2 F ss F.length)).map nmV))\/(∃ x∈B2 F ss F.length,x.1∉P)/\r=.tuple #[.slice none 0 0,.int .i64 16])\/¬ Hb Bk P/\r=.tuple #[.slice none 0 0,.int .i64 10]:=by
 have Z:=Bj4 h;have a5:=Bjd F ss F.length (A08 _);have ad:=Bh9 F ss F.length;have ac:=h.ok.f2;obtain⟨⟨xa,xc,xb,xd,xe,xf,rfl,_⟩,_,hS,_,_⟩:=h;obtain⟨ya,yc,rfl⟩:=hS.opn;obtain⟨pa,pc,rfl⟩:=U.opn;rw[A03]at U hS Z⊢;rw[A03];refine Fn0.o func17<|G.c call20 Z ?_;rintro v1 u1 l1 ⟨lv,rfl,hM⟩;generalize B2 F ss F.length=M at *
 obtain⟨a,c,rfl⟩:=hM.opn;rw[A03]at hM⊢;refine G.nF 0 0<|G.c call53 (Bq4 (U.mono l1) oV) ?_;rintro v2 u2 l2 (⟨hs,rfl⟩|⟨hs,rfl⟩)
 case inr=>exact G.r (.tuple #[.slice none 0 0,.int .i64 10]) ⟨rfl,.inr ⟨hs,rfl⟩⟩
 have V:=hs.nodup Et;have a8:=l1.trans l2;refine G.buildM 29 1 16 (.string (mkS [])) [.string (mkS [49])] kV (Gc [[49]]) rfl oV mV mV ?_;intro g5 m5 O;have K:∀ i,(Value.string (mkS [49])::List.replicate i (Value.string (mkS [48]))).length=i+1:=fun i=>mV;refine G.l (ι:=Nat×(Nat×Nat)) (fun i=>[(1,sV pa P.length pc),(8,sV a M.length c),(10,sV (some ⟨i.2.1,0,none⟩) (i.1+1) i.2.2),(28,iV P.length),(29,iV i.1)]) (fun _=>[])
  (fun i u' m'=>i.1<=P.length/\Af PH.mt m' (.slice (some ⟨i.2.1,0,none⟩) (i.1+1) i.2.2) 29 1 (.string (mkS [49])::List.replicate i.1 (.string (mkS [48])))) (fun i=>P.length-i.1) (0,g5,1) ⟨A1t _,O⟩ ?_
 clear O;rintro J2 ⟨i,g,N⟩ H u6 m6 l6 ⟨hi,d⟩;simp only at hi d H;have a9:=a8.trans l6;by_cases J:i<P.length
 ·refine G.lT i P.length<|G.B 29 1 16 (.string (mkS [])) [.string (mkS [48])] (Gc [[48]]) ?_;intro g7 u7 l7 e7;refine G.append 29 1 16 (.string (mkS [])) PH.mt _ [.string (mkS [48])] (.slice (some ⟨g,0,none⟩) (i+1) N) g7 0 1 1 kV rfl rfl oV d e7 (Gc [[48]]) rfl oV (by rw[K];omega) (by rw[K];omega) ?_;intro v8 m8 m;rw[Bdq]at m;obtain⟨g8,c8,rfl⟩:=m.ptr mV;rw[K]at m⊢;exact G.i i<|G.b (H (i+1,g8,c8) _ _ _ cV (l6.trans l7) ⟨dV,m⟩ dV)
 obtain rfl:i=P.length:=oV;refine G.lF P.length P.length ?_;have a3:(H0 P []).map nmV=Value.string (mkS [49])::List.replicate P.length (Value.string (mkS [48])):=by
  rw[Bkw,A2u,A8z];rfl
 rw[<-a3]at d;clear H;refine G.l (ι:=Nat) (fun i=>[(1,sV pa P.length pc),(10,sV (some ⟨g,0,none⟩) (P.length+1) N),(35,sV a M.length c),(36,iV M.length),(37,iV i)]) (fun _=>[])
  (fun i u' m'=>i<=M.length/\(∀ x∈M.take i,x.1∈P)/\Af PH.mt m' (.slice (some ⟨g,0,none⟩) (P.length+1) N) 29 1 ((H0 P (M.take i)).map nmV)) (fun i=>M.length-i) 0 ⟨A1t _,mV,d⟩ ?_
 clear d;rintro J3 i a2 u9 m9 l9 ⟨hi,I,d⟩;have a1:=a9.trans l9;by_cases J:i<M.length
 ·refine G.lT i M.length ?_;obtain⟨x,n⟩:∃ x,M[i]?=some x:=⟨_,A01 J⟩;have a6:=A1k n;have Y:=Bd3 n;have W:x.1∉(M.take i).map (·.1):=by
   intro hm;obtain⟨y,E,a7⟩:=A1b.1 hm;obtain⟨j,hj,rfl⟩:=A2y E;rw[A1e]at hj;have:=Yu a5 (i:=j) (j:=i) (x:=x.1) (by rw[A1a,A01 oV];simp only[A4c];rw[<-a7,A7w]) (by rw[A1a,n];rfl);omega
  obtain⟨ba,oa,rfl,ea⟩:=Ac.at' (hM.mono (l2.trans (l6.trans l9))) (j:=i) (e:=E3 x) (by simp[n]);refine G.a ba oa M.length c i 3 J<|G.lU (some 3) ba (oa+i*3) (.agg #[.int .i64 x.1.1,.string (mkS x.1.2),.string (mkS x.2)]) ea ?_;by_cases t:x.1∈P
  rotate_left
  ·refine G.c call54 (Bov (p:=x.1) (U.mono a1) t oV) ?_;rintro ab aa a0 rfl;exact G.lT (-1) 0<|G.drop PH.mt kV (PH.mt_le _)<|G.r (.tuple #[.slice none 0 0,.int .i64 16]) ⟨rfl,.inl ⟨hs,.inr ⟨⟨x,a6,t⟩,rfl⟩⟩⟩
  obtain⟨k,hk,a4⟩:=A2y t;have C:P[k]?=some x.1:=by rw[A01 hk,a4]
  have X:=Bjs (L:=M.take i) C V W;refine G.c call54 (Bdo (p:=x.1) (U.mono a1) C V oV) ?_;rintro ab aa a0 rfl;refine G.lF k 0<|G.i k<|G.a g 0 (P.length+1) N (k+1) 1 oV<|G.storeA 1 PH.mt _ g (P.length+1) N (k+1) (.string (mkS x.2)) kV d (by rw[A03,Bh8];omega) rfl rfl ?_;intro af z;rw[show Value.string (mkS x.2)=nmV x.2 from rfl,<-A2g,X,<-Y]at z;refine G.i i ?_;exact G.b (a2 (i+1) _ _ _ cV (l9.trans a0) ⟨oV,fun y E=>by
   rw[Y]at E;rcases A1h.1 E with E|E
   ·exact I y E
   rw[A12.1 E];exact t,z⟩ oV)
 obtain rfl:i=M.length:=oV;refine G.lF M.length M.length ?_;rw[A15]at d I;refine G.give PH.mt _ _ kV d (fun _=>.inl rfl) ?_;intro ag ae Q;exact G.r (.tuple #[.slice (some ⟨g,0,none⟩) (P.length+1) N,.int .i64 0]) ⟨rfl,.inl ⟨hs,.inl ⟨I,_,rfl,Q⟩⟩⟩
end
end Go.Proofs.YtnjlhkppabfebaaGreatDoor
