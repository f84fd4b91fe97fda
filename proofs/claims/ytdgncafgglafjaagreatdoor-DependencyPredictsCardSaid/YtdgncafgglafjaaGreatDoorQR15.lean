/- Parts of one proof, joined by a program. -/
import Derived.Test.YtdgncafgglafjaaGreatDoorQ14
set_option linter.defProp false
set_option linter.unusedVariables false
set_option linter.unusedSimpArgs false
set_option linter.unusedSectionVars false
set_option maxHeartbeats 16000000
namespace Go.Proofs.YtdgncafgglafjaaGreatDoor
open Go.Proofs.Tryz
open Go.RowKit Go.MapKept
section
variable {F:List Ao}{P:List Par}{R:List Bw}{T:List (List UInt8×Nat)}{lab:Int}{mv v:Value}{ss:List (List UInt8)}{u:PH}
def Bcp {b e:Nat}{z:Int}{s w:List UInt8}(h:ElP u b e (.agg #[.int .i64 z,.string (mkS s),.string (mkS w)])):ElP u b (e+0) (.agg #[.int .i64 z,.string (mkS s)]):=h.sub fun i y d=>by
 match i,d with
 |0,d=>exact d
 |1,d=>exact d
 |i+2,d=>simp[Value.cells]at d
def Bck {m0:Rat}{M:List (Par×Rat)}(hX:Ic u v T R F lab)(ok:B2 u T R F lab)(h:Of u mv m0 M)(K:Q6 P m0 M)(hP:P.length<=10000)(L:∀ p∈P,Akf F p) :
 Fn0 prog 56 [v,mv] u fun r _=>r=.bool true:=by
 have a0:=S8 hX ok;obtain⟨xa,xc,xb,xd,xe,xf,rfl,a4,a3,Y⟩:=hX;obtain⟨a,c,rfl,hM⟩:=h.val;have a5:=K.len;refine Fn0.o func56<|G.c call53 a0 ?_;rintro v1 u1 l1 rfl;refine G.nF 0 0<|G.c call86 (D9 K.c) ?_;rintro v2 u2 l2 rfl;refine G.l (ι:=Nat) (fun i=>[(2,.p 0 0),(3,.p 1 0),(18,sV a M.length c),(19,iV M.length),(20,iV i)])
  (fun _=>[(0,⟨28,[sV xa T.length xc,sV xb R.length xd,sV xe F.length xf,iV lab]⟩),(1,⟨55,[tV (Ag m0),sV a M.length c]⟩)])
  (fun i u' m'=>i<=M.length/\m'=PH.mt) (fun i=>M.length-i) 0 ⟨oV,rfl⟩ ?_
 rintro J i hJ u3 m3 l3 ⟨hi,rfl⟩;by_cases d:i<M.length
 ·refine G.lT i M.length ?_;have n:=(l1.trans l2).trans l3;have H:M[i]?=some M[i]:=A0i d;have g:=A0y d;have m:i>0->Bf (M[i-1]'oV).1 M[i].1<0:=fun hp=>by
   have:=A3c.1 K.srt (i-1) i gV (by simpa using d) oV;simpa using this
  have I:i>0->M[i-1]?=some (M[i-1]'oV):=fun hp=>A0i oV;generalize a2:M[i-1]'oV=pe at m I;have ht:=K.t _ g;obtain⟨k,f,hk,hf,X⟩:=L _ (K.sub _ g);obtain⟨E,O,rfl,ea⟩:=Ab.at' (hM.mono n) (j:=i) (e:=As M[i]) (by simp[H]);have Z:=hM.mono n;clear a2;generalize M[i]=x at H g m ht hk X ea;obtain⟨⟨x1,Q⟩,q⟩:=x;simp only at hk X;subst hk;obtain⟨a1,_⟩:=A0o.1 hf;refine G.a E O M.length c i 3 d<|G.lU (some 3) E (O+i*3) (.agg #[.int .i64 k,.string (mkS Q),.string (mkS (Ag q))]) ea<|G.lF k 0<|G.hF k F.length<|G.c call86 (D9 ht) ?_;rintro v4 u4 l4 rfl;refine dite (i>0) (fun hp=>?A) (fun hp=>?B)
  case' A =>
   refine G.gT i 0 ?_;obtain⟨⟨y1,y2⟩,yq⟩:=pe;refine G.s i 1 (i-1:Nat)<|G.a E O M.length c (i-1) 3 oV ?_;obtain⟨bb,ob,e0,eb⟩:=Ab.at' (Z.mono l4) (j:=i-1) (e:=As ((y1,y2),yq)) (by simp[I hp]);cases e0;refine G.f 80 E (O+(i-1)*3) 0 0<|G.lU (some 2) E (O+(i-1)*3+0) (.agg #[.int .i64 y1,.string (mkS y2)]) (Bcp eb)<|G.c call125 (Ev (y1,y2) ((k:Int),Q) true (decide_eq_true (m hp))) ?_;rintro v5 u5 N rfl
  case' B =>
   refine G.gF i 0 ?_;have N:=PH.le_refl u4
  case A|B =>
   refine dite (Q = []) (fun h0=>?C) (fun h0=>?D)
   case' C=>refine G.y Q [] h0 ?_
   case' D =>
    refine G.x Q [] h0 ?_;obtain⟨h2,hw⟩:=X.resolve_left h0;obtain⟨U,z,rfl,ef⟩:=Ab.at' (Y.mono ((n.trans l4).trans N)) (j:=k) (e:=C4 f) (by simp[hf]);obtain⟨f1,W,f3⟩:=f;simp only at h2;refine G.a U z F.length xf k 3 a1<|G.f 98 U (z+k*3) 1 1<|G.lU none U (z+k*3+1) (.int .i64 W) (ef.fld (j:=1) (xs:=#[.int .i64 f1,.int .i64 W,.int .i64 f3]) rfl rfl)<|G.eF W 1<|G.c call123 (R6 hw) ?_;rintro v6 u6 l6 rfl;have N:=N.trans l6
   case C|D =>
    exact G.i i<|G.b (hJ (i+1) _ _ _ cV ((l3.trans l4).trans N) ⟨oV,rfl⟩ oV)
 obtain rfl:i=M.length:=oV;exact G.lF M.length M.length<|G.r (.bool true) ⟨rfl,rfl⟩
abbrev FV:Type:=Bool×(Option Addr×Nat×Nat)×(Option Addr×Nat×Nat)
def fvV (x:FV):Value:=.agg #[.bool x.1,.slice x.2.1.1 x.2.1.2.1 x.2.1.2.2,.bool false,.slice x.2.2.1 x.2.2.2.1 x.2.2.2.2]
def QP.fv {q:Rat}(h:QP u v q):∃ x:FV,v=fvV x:=by
 obtain⟨b,a,n,c,d,j,g,e,_⟩:=h.opn;exact⟨(b,(a,n,c),(d,j,g)),e⟩
def Bcb (V M:List (Par×Rat))(m0:Rat)(i:Nat):Rat:=m0+Ap (fun t=>t.2*B8 t.1 M) (V.take i)
def Bcm {V:List (Par×Rat)}(n:(V.map (·.1)).Nodup){j:Nat}{x:Par×Rat}(m:V[j]?=some x)(p:Par):B8 p (V.take (j+1))=if x.1=p then x.2 else B8 p (V.take j):=by
 have e:V.take (j+1)=V.take j++[x]:=by rw[A0t,m];rfl
 have d:x.1∉(V.take j).map (·.1):=by
  intro z;obtain⟨y,C,g⟩:=A0r.1 z;obtain⟨i,t,rfl⟩:=A2a C;rw[A0q]at t;have:=Apy n (i:=i) (j:=j) (x:=x.1) (by rw[A0n,A0i oV];simp only[A3g];rw[<-g,A7p]) (by rw[A0n,m];rfl);omega
 rw[e,Ahm d];by_cases h:p=x.1
 ·rw[if_pos h,if_pos h.symm]
 rw[if_neg h,if_neg (fun e=>h e.symm)]
section
variable {V M:List (Par×Rat)} {m0:Rat}
def Bcn (d:∀ x∈M,Tx x.2)(p:Par):Sz (B8 p M) 400:=by
 by_cases hp:p∈M.map (·.1)
 ·induction M with
  |nil=>simp at hp
  |cons y l ih =>
   obtain⟨b,q⟩:=y;unfold B8;split
   ·exact (d (b,q) mV).sz
   rename_i hne;refine ih (fun x e=>d x (by simp[e])) ?_;simp at hp;rcases hp with h|⟨r,h⟩
   ·exact absurd h hne
   exact A0r.2 ⟨_,h,rfl⟩
 rw[L9 hp];exact Qu.mono oV
theorem Bcf (h0:Tx m0)(d:∀ x∈M,Tx x.2)(g:∀ x∈V,SmW x.2):∀ i,Sz (Bcb V M m0 i) (500*(i+1))
 |0=>by
  unfold Bcb;rw[A5y];have:m0+Ap (fun t:Par×Rat=>t.2*B8 t.1 M) []=m0:=by rw[show Ap (fun t:Par×Rat=>t.2*B8 t.1 M) []=0 from rfl];grind
  rw[this];exact h0.sz.mono oV
 |i+1=>by
  have j:=Bcf h0 d g i;by_cases h:i<V.length
  ·have e:Bcb V M m0 (i+1)=Bcb V M m0 i+V[i].2*B8 V[i].1 M:=by
    unfold Bcb;rw[A0t,A0i h];simp only[A4j];rw[Sw];grind
   rw[e];exact (Alu j (Kp (g _ (A0y h)).sz (Bcn d _))).mono oV
  have e:Bcb V M m0 (i+1)=Bcb V M m0 i:=by
   unfold Bcb;rw[A00 oV,A00 oV]
  rw[e];exact j.mono oV
end
def Bci {mv vv:Value}{m0:Rat}{M V:List (Par×Rat)}(h:Of u mv m0 M)(hv:Ab u vv 3 (V.map As))(h0:Tx m0)(L:∀ x∈M,Tx x.2)(N:∀ x∈V,SmW x.2)(hn:(M.map (·.1)).Nodup)(h8:V.length<=8)(a5:M.length<=10000) :
 Fn0 prog 57 [mv,vv] u fun r X=>QP X r (Aom m0 M V):=by
 obtain⟨a,c,rfl,hM⟩:=h.val;obtain⟨va,Y,rfl⟩:=hv.opn;rw[A0k]at hv⊢;refine Fn0.o func57<|G.c call26 (H9 h0) ?_;intro v1 u1 l1 k1;obtain⟨y,rfl⟩:=k1.fv;refine G.l (ι:=Nat×FV) (fun i=>[(1,sV va V.length Y),(2,.p 0 0),(4,.p 1 0),(5,.p 1003 0),(13,sV va V.length Y),(14,iV V.length),(15,iV i.1)])
  (fun i=>[(0,⟨55,[tV (Ag m0),sV a M.length c]⟩),(1,⟨84,[bV false,sV none 0 0,bV false,sV none 0 0]⟩),
   (1003,⟨84,[.v (.bool i.2.1),.v (.slice i.2.2.1.1 i.2.2.1.2.1 i.2.2.1.2.2),.v (.bool false),.v (.slice i.2.2.2.1 i.2.2.2.2.1 i.2.2.2.2.2)]⟩)])
  (fun i X m'=>i.1<=V.length/\QP X (fvV i.2) (Bcb V M m0 i.1)/\m'=PH.mt) (fun i=>V.length-i.1) (0,y) ⟨oV,by unfold Bcb;simpa[Ap,A5k] using k1,rfl⟩ ?_
 rintro J ⟨i,z⟩ hJ u2 m2 l2 ⟨hi,hz,rfl⟩;simp only at hi hz hJ;by_cases U:i<V.length
 ·refine G.lT i V.length ?_;obtain⟨t,ht⟩:∃ t,V[i]?=some t:=⟨_,A0i U⟩;have a3:=Amy ht;have n:=N t (A0w ht);obtain⟨Z,oa,rfl,ea⟩:=Ab.at' (hv.mono (l1.trans l2)) (j:=i) (e:=As t) (by simp[ht]);refine G.a Z oa V.length Y i 3 U ?_;obtain⟨⟨d,g⟩,q⟩:=t;refine G.lU (some 3) Z (oa+i*3) (.agg #[.int .i64 d,.string (mkS g),.string (mkS (Ag q))]) ea<|G.l (ι:=Nat×FV) (fun j=>[(1,sV (some ⟨Z,oa,none⟩) V.length Y),(2,.p 0 0),(4,.p 1 0),(5,.p 1003 0),(7,.p 4002 0),(13,sV (some ⟨Z,oa,none⟩) V.length Y),(14,iV V.length),(15,iV i),(20,sV a M.length c),(21,iV M.length),(22,iV j.1)])
   (fun j=>[(0,⟨55,[tV (Ag m0),sV a M.length c]⟩),(1,⟨84,[bV false,sV none 0 0,bV false,sV none 0 0]⟩),
    (1003,⟨84,[.v (.bool j.2.1),.v (.slice j.2.2.1.1 j.2.2.1.2.1 j.2.2.1.2.2),.v (.bool false),.v (.slice j.2.2.2.1 j.2.2.2.2.1 j.2.2.2.2.2)]⟩),
    (4002,⟨80,[.v (.int .i64 d),.v (.string (mkS g)),.v (.string (mkS (Ag q)))]⟩)])
   (fun j X m'=>j.1<=M.length/\QP X (fvV j.2) (Bcb V M m0 i+q*B8 (d,g) (M.take j.1))/\m'=PH.mt) (fun j=>M.length-j.1) (0,z)
   ⟨oV,by simpa[B8,A7g,A5k] using hz,rfl⟩ ?_
  rintro J2 ⟨j,w⟩ E u3 m3 l3 ⟨hj,H,rfl⟩;simp only at hj H E;by_cases Q:j<M.length
  ·refine G.lT j M.length ?_;obtain⟨x,hx⟩:∃ x,M[j]?=some x:=⟨_,A0i Q⟩;have C:=L x (A0w hx);have m:=Bcm hn hx (d,g);obtain⟨bm,om,rfl,em⟩:=Ab.at' (hM.mono ((l1.trans l2).trans l3)) (j:=j) (e:=As x) (by simp[hx]);refine G.a bm om M.length c j 3 Q ?_;obtain⟨⟨I,K⟩,r⟩:=x;refine G.lU (some 3) bm (om+j*3) (.agg #[.int .i64 I,.string (mkS K),.string (mkS (Ag r))]) em ?_;simp only at m C n;by_cases O:((I,K):Par)=(d,g)
   ·refine G.eqAgg 78 #[.int .i64 I,.string (mkS K)] #[.int .i64 d,.string (mkS g)] true kV kV kV (fun w=>by rw[<-decide_eq_true O];exact Bo.eq (I,K) (d,g) w) ?_;rw[if_pos O]at m;have a1:B8 (d,g) (M.take j)=0:=L9 fun hm=>by
     obtain⟨y,hy,a4⟩:=A0r.1 hm;obtain⟨jj,a0,W⟩:=A2a hy;have h1:jj<j:=by rw[A0q]at a0;omega
     have h2:(M.map (·.1))[jj]?=some (d,g):=by
      rw[A7p]at W;simp[A0i (show jj<M.length by omega),W,a4]
     have h3:(M.map (·.1))[j]?=some (d,g):=by simp[hx,O]
     have:=Apy hn h2 h3;omega
    rw[a1,A7g,A5k]at H;refine G.c call26 (H9 C) ?_;intro v4 u4 l4 k4;obtain⟨y4,rfl⟩:=k4.fv;refine G.c call26 (H9 n.tx) ?_;intro v5 u5 l5 k5;obtain⟨y5,rfl⟩:=k5.fv;refine G.c call127 (D7 (k4.mono l5) k5 (C.sz.mono oV) (n.sz.mono oV)) ?_;intro v6 u6 l6 k6;obtain⟨y6,rfl⟩:=k6.fv;have a2:=Bcf h0 L N i;refine G.c call25 (Oo (H.mono ((l4.trans l5).trans l6)) k6 (a2.mono oV) ((Kp C.sz n.sz).mono oV)) ?_;intro v7 u7 l7 k7;obtain⟨y7,rfl⟩:=k7.fv;exact G.i j<|G.b (E (j+1,y7) _ _ _ cV (l3.trans (((l4.trans l5).trans l6).trans l7)) ⟨dV,by dsimp only;rw[m,Rat.mul_comm q r];exact k7,rfl⟩ dV)
   refine G.eqAgg 78 #[.int .i64 I,.string (mkS K)] #[.int .i64 d,.string (mkS g)] false kV kV kV (fun w=>by rw[<-decide_eq_false O];exact Bo.eq (I,K) (d,g) w) ?_;rw[if_neg O]at m;exact G.i j<|G.b (E (j+1,w) _ _ _ cV l3 ⟨dV,by dsimp only;rw[m];exact H,rfl⟩ dV)
  obtain rfl:j=M.length:=oV;refine G.lF M.length M.length ?_;rw[A05]at H;refine G.i i<|G.b (hJ (i+1,w) _ _ _ cV (l2.trans l3) ⟨dV,?_,rfl⟩ dV);have:Bcb V M m0 (i+1)=Bcb V M m0 i+q*B8 (d,g) M:=by unfold Bcb;rw[a3,Sw,Rat.add_assoc]
  dsimp only;rw[this];exact H
 obtain rfl:i=V.length:=oV;refine G.lF V.length V.length ?_;have e:Bcb V M m0 V.length=Aom m0 M V:=by unfold Bcb Aom;rw[A05]
 rw[e]at hz;exact G.r (fvV z) ⟨rfl,hz⟩
def Bcl (hF:Ej T F lab)(h:Bp T ss):∀ x∈J9 F ss F.length,SmW x.2:=fun x m=>by
 obtain⟨j,f,n,g,d⟩:=N0.1 m;unfold Bcc at d;split at d
 ·cases d;exact O3
 rename_i h2;split at d
 ·cases d
 rename_i h0;cases d;exact (Xq hF h (A0w g) h2 (fun e=>h0 (.inl e))).1
def Bcd {v K mv:Value}{m0:Rat}{M:List (Par×Rat)}(h:Y9 u v K T R F lab ss)(z:Of u mv m0 M)(g:Q6 P m0 M)(O:P.length<=10000)(j:∀ p∈P,Akf F p)(m:Tx (Aom m0 M (J9 F ss F.length))) :
 Fn0 prog 21 [v,mv,K] u fun r _=>r=.tuple #[.string (mkS (Ag (Aom m0 M (J9 F ss F.length)))),.int .i64 0]:=by
 have n:=Ayk h;have H:=fun (Y:PH) (l:PH.le u Y)=>Bck (h.sch.mono l) (h.ok.mono l) (z.mono l) g O j;have f2:=h.ok.f2;have d:=h.ok.feat;have e:=h.fit;have hl:=Aqt F ss F.length;have C:∀ x∈J9 F ss F.length,SmW x.2:=Bcl d e;obtain⟨⟨xa,xc,xb,xd,xe,xf,rfl,W,Q,L⟩,ok,U,hT⟩:=h;obtain⟨ya,yc,rfl⟩:=U.opn;obtain⟨a,c,rfl,N⟩:=id z.val;rw[A0k]at n⊢;refine Fn0.o func21<|G.c call55 n ?_;rintro _ Z J ⟨lv,rfl,E⟩;obtain⟨la,lc,rfl⟩:=Ab.opn E;rw[A0k]at E⊢;refine G.nF 0 0<|G.c call56 (H Z J) ?_;rintro v2 u2 l2 rfl;have X:=g.len;refine G.c call57 (Bci (z.mono (J.trans l2)) (E.mono l2) g.c g.t C (g.srt.nodup Dl) oV oV) ?_;intro v3 u3 l3 I;obtain⟨y3,rfl⟩:=I.fv;refine G.c call28 (Nh I m) ?_;rintro v4 u4 l4 rfl;exact G.r (.tuple #[.string (mkS (Ag (Aom m0 M (J9 F ss F.length)))),.int .i64 0]) ⟨rfl,rfl⟩
end
section
variable {M V:List (Par×Rat)}
theorem Bch (g:(M.map (·.1)).Nodup)(h:(V.map (·.1)).Nodup):Ap (fun m=>m.2*B8 m.1 V) M=Ap (fun t=>t.2*B8 t.1 M) V:=by
 have d:(M.map (·.1)++(V.map (·.1)).filter fun p=>decide (p∉M.map (·.1))).Nodup:=by grind
 rw[<-Ay1 d g (fun x e=>A3d _ (A0r.2 ⟨x,e,rfl⟩)) (fun p=>B8 p V),
  <-Ay1 d h (fun x e=>?_) (fun p=>B8 p M)]
 ·grind
 grind
def Bce {P:List Par}(j:P.Nodup){m0:Rat}(d:Q6 P m0 M)(n:(V.map (·.1)).Nodup){s:Par->Rat}(u:∀ p∈P,s p=B8 p V):Sv (cfE m0 M) P s=Aom m0 M V:=by
 have e:=d.srt.nodup Dl;show m0+Ap (fun p=>B8 p M*s p) P=m0+Ap (fun t=>t.2*B8 t.1 M) V;rw[Ay1 j e d.sub,<-Bch e n,Aj (g:=fun m=>m.2*B8 m.1 V) fun m h=>by rw[u m.1 (d.sub m h)]]
end
section
def Bcq {P:List Par}{g:Int}{x:List UInt8}(h:x∈A2 P g):(Au P g).length<P.length:=by
 have n:=Qv.1 h;refine Nat.lt_of_le_of_ne R8 fun e=>?_;have d:=List.filter_eq_self.1 (List.filter_sublist.eq_of_length e) _ n;simp at d
def Bco {P Q:List Par}{m0:Rat}{M:List (Par×Rat)}(h:Q6 Q m0 M)(e:∀ p∈Q,p∈P)(d:Q.length<=P.length):Q6 P m0 M:=⟨h.c,h.t,h.srt,fun x g=>e _ (h.sub x g),A0l h.len d⟩
def Bcj {P:List Par}{b b':Option Par->Rat}{s:Par->Rat}(h:∀ e∈Ae P,b e=b' e):Sv b P s=Sv b' P s:=by
 unfold Sv;rw[h none (by unfold Ae;simp),Aj fun p hp=>by rw[h _ (Nr hp)]]
section
variable {u:PH} {T:List (List UInt8×Nat)} {R:List Bw} {F:List Ao} {lab:Int} {ss:List (List UInt8)} {P:List Par} {C:CF} {i j a m a' m':Nat} {tg:List UInt8->List UInt8} {c0 q:Rat} {qs:List Rat} {y:Nat->Rat}
def Bcr (d:Dep P C (i:Int) (j:Int) tg)(ok:B2 u T R F lab)(J:Bp T ss)(hl:∀ l:Nat,lab=(l:Int)->l<ss.length)(W:Df F lab ss=true)(hi:F[i]?=some (a,2,m))(hj:F[j]?=some (a',2,m'))(Q:tg (ss.getD a [])=ss.getD a' [])(L:((i:Int),ss.getD a [])∈P)(E:∀ p∈P,Akf F p)
 (X:qs.length=(Au P (j:Int)).length) (hM:Q6 (Au P (j:Int)) c0 ((Au P (j:Int)).zip qs)) (hs:Aq7 P C q (i:Int) (j:Int) tg y (cfE c0 ((Au P (j:Int)).zip qs)))
 (K:Q6 P c0 (P.zip (P.map fun p=>Fv P (i:Int) (j:Int) tg (cfE c0 ((Au P (j:Int)).zip qs)) (some p)))) :
 Aom c0 ((Au P (j:Int)).zip qs) (J9 F ss F.length)=Aom c0 (P.zip (P.map fun p=>Fv P (i:Int) (j:Int) tg (cfE c0 ((Au P (j:Int)).zip qs)) (some p))) (J9 F ss F.length)/\Tx (Aom c0 (P.zip (P.map fun p=>Fv P (i:Int) (j:Int) tg (cfE c0 ((Au P (j:Int)).zip qs)) (some p))) (J9 F ss F.length)):=by
 have N:=J.len;have H:∀ p∈P,(cfT F lab ss).s p=B8 p (J9 F ss F.length):=fun p O=>As5 ok.feat J ok.l1 hl W (by obtain⟨k,_,e,_⟩:=E p O;omega);have U:=Bcs F ss F.length (A0s _);have n:=d.nd;have z:=Azx ok J W hi hj Q n L;have t:=Alq (f:=Fv P (i:Int) (j:Int) tg (cfE c0 ((Au P (j:Int)).zip qs))) (c0:=c0) n rfl;refine⟨?_,?_⟩
 ·rw[<-Bce n (Bco hM (fun p hp=>(F0.1 hp).1) R8) U H,<-Bce n K U H,<-Bcj t];refine Azv d z fun p hp hg=>?_;show B8 p _=0;refine L9 fun h=>?_;rw[A6u oV]at h;exact (F0.1 h).2 hg
 obtain⟨D,h0,hD,Y,V⟩:=hs.com;have I:∀ p,IsZ (B8 p (P.zip (P.map fun p=>Fv P (i:Int) (j:Int) tg (cfE c0 ((Au P (j:Int)).zip qs)) (some p)))*(D:Rat))/\(-100000000000000:Rat)<=B8 p (P.zip (P.map fun p=>Fv P (i:Int) (j:Int) tg (cfE c0 ((Au P (j:Int)).zip qs)) (some p)))/\B8 p (P.zip (P.map fun p=>Fv P (i:Int) (j:Int) tg (cfE c0 ((Au P (j:Int)).zip qs)) (some p)))<=100000000000000:=fun p=>by
  by_cases hp:p∈P
  ·have Z:=t _ (Nr hp);rw[show B8 p _=Fv P (i:Int) (j:Int) tg (cfE c0 ((Au P (j:Int)).zip qs)) (some p) from Z.symm];exact⟨Y _ (Nr hp),V _ (Nr hp)⟩
  rw[L9 fun h=>hp (by rw[A6u mV]at h;exact h)];exact⟨⟨0,by rw[A32];rfl⟩,jV,jV⟩
 have g:(none:Option Par)∈Ae P:=by unfold Ae;simp
 have f2:=ok.f2;have a0:=Aqt F ss F.length;exact Azy h0 hD (Y none g) (V none g) (fun x _=>(I x.1).1) (fun x _=>(I x.1).2) (Bcl ok.feat J) oV
end
def Bcg {u:PH}{v:Value}{ts:List Int}(ht:Ls u)(hv:Ab u v 1 (Er ts))(al:∀ t∈ts,-9223372036854775808<=t)(aj:∀ t∈ts,t<=9223372036854775807) :
 Fn0 prog 5 [v] u fun v' _=>v'=.bool true:=by
 obtain⟨a,c,rfl⟩:=hv.opn;rw[Ch]at hv⊢;refine Fn0.o func5 ?_;by_cases au:400<ts.length
 ·refine G.gT ts.length 400<|G.c call7 (Ac9 ht) ?_;rintro v1 u1 l1 rfl;exact G.r (.bool true) ⟨rfl,rfl⟩
 refine G.gF ts.length 400<|G.callO _ _ kV call9 (Ajf hv oV al aj) ?_;rintro v1 u1 m1 l1 ⟨s,rfl,rfl,hs⟩ _;rw[Cm];refine G.A call8 (Aj6 hs (A1c _)) ?_;rintro v2 u2 m2 l2 ⟨b,z,R,L,xv,lv,cv,k2,rfl,w,ak,rfl⟩ _;rw[Cm];obtain⟨k,N,P,g⟩:=w.deps;have an:=ht.mono (l1.trans l2);obtain⟨la,lc,Q⟩:=w.rows.opn;have ah:=w.rows;have ag:(L.map Fy).length=L.length:=A0k ..;rw[ag]at Q;subst Q;have hW:=w.wok;have h6:=w.l6;have aa:∀ y∈L,y.1.length=(t18 b).length:=fun y O=>(w.tup y O).1.len;have aw:3<=(t18 b).length:=by cases b<;>decide
 have ax:=Alr b;clear w;obtain⟨xa,xc,xb,xd,xe,xf,rfl,_⟩:=id g.w.sch;obtain⟨a1,n1,c1,a2,n2,c2,rfl⟩:=id g.w.cof.opn;refine G.A call13 (Aef (hs.mono l2) ak) ?_;rintro v3 u3 m3 l3 ⟨q,k3,rfl,hq,b0,rfl⟩ _;rw[Cm];have a6:=g.mono l3;have U:=an.mono l3;refine G.c call18 (Ue U a6.m01 a6.n0 hq) ?_;rintro v4 u4 l4 (⟨hd,rfl⟩|⟨hd,h00,rfl⟩|⟨hdet,h0,P1,mv,d0,qs,hPL,hql,rfl,hmv,hok,hrs⟩)
 ·unfold Xl;refine G.nT 16 0<|G.drop PH.mt kV (PH.mt_le _)<|G.eT' 16 16 rfl<|G.c call7 (Ac9 (U.mono l4)) ?_;rintro v5 u5 l5 rfl;exact G.r (.bool true) ⟨rfl,rfl⟩
 ·unfold Xl;refine G.nT 12 0<|G.drop PH.mt kV (PH.mt_le _)<|G.eF 12 16<|G.eT' 12 12 rfl<|G.c call7 (Ac9 (U.mono l4)) ?_;rintro v5 u5 l5 rfl;exact G.r (.bool true) ⟨rfl,rfl⟩
 obtain rfl:=hPL.eq g.prm;obtain⟨ma,mc,Q,_⟩:=id hmv.val;subst Q;refine G.nF 0 0<|G.drop PH.mt kV (PH.mt_le _) ?_;have W:=a6.mono l4;have ac:=U.mono l4;have a5:∀ p∈P1,Tx (Fv P1 ((0:Nat):Int) ((1:Nat):Int) (tgL (Ax (f18 z b) 2 L) P1 ((0:Nat):Int) ((1:Nat):Int)) (cfE d0 ((Au P1 ((1:Nat):Int)).zip qs)) (some p)):=fun p hp=>(hrs.full _ (Nr hp)).tx oV oV oV oV;refine G.c call19 (Uk ac W.m01 W.n0 hdet h0 W.prm hql hmv hok a5) ?_;rintro v5 u5 l5 ⟨b3,rfl,E⟩;have av:=g.p10;have b2:=g.prm.1.nodup Dl;have a3:=Au8 (m0:=d0) (qs:=P1.map fun p=>Fv P1 ((0:Nat):Int) ((1:Nat):Int) (tgL (Ax (f18 z b) 2 L) P1 ((0:Nat):Int) ((1:Nat):Int)) (cfE d0 ((Au P1 ((1:Nat):Int)).zip qs)) (some p)) g.prm.1 mV hok.c (fun x hx=>by
  obtain⟨p,hp,rfl⟩:=A0r.1 hx;exact a5 p hp)
 obtain⟨na,nc,Q,_⟩:=id E.val;subst Q;have h:=W.mono l5;refine G.c call20 (Wb h.w.sch h.w.ok h.w.cof h.w.sC h.w.vC h.w.K h.w.bel) ?_;intro v6 u6 l6 hp;obtain⟨ps,d,rfl,af,_,a9⟩:=hp.resolve_left fun⟨_,L',h1,a8⟩=>by have:=h.w.p24 L' a8;omega
 obtain rfl:=a9.eq g.prm;obtain⟨pa,pc,Q⟩:=af.opn;have am:(d.map An).length=d.length:=A0k ..;rw[am]at Q;subst Q;have ap:(d.zip (d.map fun p=>Fv d ((0:Nat):Int) ((1:Nat):Int) (tgL (Ax (f18 z b) 2 L) d ((0:Nat):Int) ((1:Nat):Int)) (cfE d0 ((Au d ((1:Nat):Int)).zip qs)) (some p))).length=d.length:=mV
 have ad:((Au d ((1:Nat):Int)).zip qs).length=(Au d ((1:Nat):Int)).length:=by rw[A6j];omega
 have b1:(Au d ((1:Nat):Int)).length<d.length:=by
  obtain⟨x,hx⟩:=h.m10.some h0 g.prm;exact Bcq hx
 have hd:=h.m01.dep g.prm hdet;have ao:=Adx g.w.ok g.tup g.prm (T0 z b) (Yc z b) hdet;have ai:=fun (y:Cr) (O:y∈L) (hc:Df (f18 z b) 2 y.1=true)=>Qv.1 ((Fz g.w.ok g.tup g.prm (T0 z b) (x:=y.1.getD 0 [])).2 ⟨y,O,hc,rfl⟩);have I:=Ayy g.prm g.w.vC;have ae:=fun (y:Cr) (O:y∈L) (hc:Df (f18 z b) 2 y.1=true)=>Bcr hd g.w.ok (g.tup y O).1 (fun l hl=>by have:=aa y O;omega) hc (T0 z b) (Yc z b) (ao y O hc) (ai y O hc) I hql hok hrs a3;have a0:=hmv.mono (l5.trans l6);have H:=E.mono l6;clear hrs a5 hmv E;generalize ay:(d.zip (d.map fun p=>Fv d ((0:Nat):Int) ((1:Nat):Int) (tgL (Ax (f18 z b) 2 L) d ((0:Nat):Int) ((1:Nat):Int)) (cfE d0 ((Au d ((1:Nat):Int)).zip qs)) (some p)))=M' at *
 generalize az:(Au d ((1:Nat):Int)).zip qs=M0 at *
 rw[ap]at H⊢;rw[ad]at a0⊢;refine G.nF 0 0<|G.nF d.length d.length<|G.hF ((Au d ((1:Nat):Int)).length:Int) (d.length:Int) ?_;have ar:=(l4.trans l5).trans l6;refine G.l (ι:=Nat) (fun n=>[(4,.p 4006 0),(8,.p 6009 0),(10,.p 9008 0),(89,sV la L.length lc),(90,iV L.length),(91,iV n)])
  (fun _=>[(4006,⟨28,[sV xa (t18 b).length xc,sV xb R.length xd,sV xe (f18 z b).length xf,iV 2]⟩),(6009,⟨55,[tV (Ag d0),sV ma (Au d ((1:Nat):Int)).length mc]⟩),(9008,⟨55,[tV (Ag d0),sV na d.length nc]⟩)])
  (fun n u' m'=>n<=L.length/\m'=PH.mt) (fun n=>L.length-n) 0 ⟨oV,rfl⟩ ?_
 rintro J n hJ u7 m7 l7 ⟨hn,rfl⟩;have X:=ar.trans l7;by_cases Z:n<L.length
 rotate_left
 ·obtain rfl:n=L.length:=oV
  refine G.lF L.length L.length<|G.c call7 (Ac9 (ac.mono ((l5.trans l6).trans l7))) ?_;rintro v8 u8 l8 rfl;exact G.r (.bool true) ⟨rfl,rfl⟩
 refine G.lT n L.length ?_;obtain⟨y,O⟩:∃ y,L[n]?=some y:=⟨_,A0i Z⟩;have a7:=A0w O;have Y:=ae y a7;have V:∀ (u':PH),PH.le u7 u'->Y9 u' (.agg #[.slice xa (t18 b).length xc,.slice xb R.length xd,.slice xe (f18 z b).length xf,.int .i64 2]) (.slice y.2.2.1 y.1.length y.2.2.2) (t18 b) R (f18 z b) 2 y.1:=fun u' l=>⟨(g.mono ((l3.trans X).trans l)).w.sch,(g.mono ((l3.trans X).trans l)).w.ok,((hW y a7).1).mono ((l3.trans X).trans l),(g.tup y a7).1⟩;obtain⟨bl,ol,rfl,el⟩:=Ab.at' (ah.mono (l3.trans X)) (j:=n) (e:=Fy y) (by simp[O]);obtain⟨ys,yw,ya,yc⟩:=y;simp only at Y V;refine G.a bl ol L.length lc n 2 Z<|G.lU (some 2) bl (ol+n*2) (.agg #[.slice ya ys.length yc,.int .i64 yw]) el<|G.c call10 (Ags (V u7 (PH.le_refl _))) ?_;rintro v8 u8 l8 rfl;cases hcy:Df (f18 z b) 2 ys with
 |false =>
  exact G.i n<|G.b (hJ (n+1) _ _ _ cV (l7.trans l8) ⟨oV,rfl⟩ oV)
 |true =>
  obtain⟨ab,a4⟩:=Y hcy;refine G.c call21 (Bcd (V u8 l8) (a0.mono (l7.trans l8)) hok oV (fun p hp=>I p (F0.1 hp).1) (by rw[ab];exact a4)) ?_;rintro v9 u9 l9 rfl;refine G.c call21 (Bcd (V u9 (l8.trans l9)) (H.mono ((l7.trans l8).trans l9)) a3 oV I a4) ?_;rintro b5 b4 aq rfl;exact G.nF 0 0<|G.nF 0 0<|G.y _ _ (congrArg Ag ab)<|G.i n<|G.b (hJ (n+1) _ _ _ cV (((l7.trans l8).trans l9).trans aq) ⟨oV,rfl⟩ oV)
end
end Go.Proofs.YtdgncafgglafjaaGreatDoor
