/- Parts of one proof, joined by a program. -/
import Derived.Test.YtijchbjkdllolaaGreatDoorP11
set_option linter.defProp false
set_option linter.unusedVariables false
set_option linter.unusedSimpArgs false
set_option linter.unusedSectionVars false
set_option maxHeartbeats 16000000
namespace Go.Proofs.YtijchbjkdllolaaGreatDoor
open Go.Proofs.Tryz
open Go.RowKit Go.MapKept
def A6z:=@List.map_map
def A72:=@Rat.intCast_sub
def A08:=@Rat.intCast_le_intCast
def Azv:=@Rat.mul_nonneg
def A9k:=@Rat.le_refl
def A5s:=@Rat.le_total
def A4f:=@Rat.le_of_lt
def A2w:=@Rat.mul_eq_zero
def A7w:=@Rat.mul_zero
def A2r:=@Rat.natCast_le_natCast
def A60:=@Rat.not_lt
def A9l:=@Rat.mul_pos
section
variable {M:List (Par×Rat)}{P:List Par}{m0:Rat}{u:PH}{v:Value}{x:Par×Rat}
structure M5 (u:PH)(v:Value)(m0:Rat)(M:List (Par×Rat)):Prop where
 val:∃ a c,v=.agg #[.string (mkS (Ae m0)),.slice a M.length c]/\Ac u (.slice a M.length c) 3 (M.map As)
def M5.mono {u u':PH}{v:Value}{m0:Rat}{M:List (Par×Rat)}(h:M5 u v m0 M)(hl:PH.le u u'):M5 u' v m0 M:=by
 obtain⟨a,c,e,h1⟩:=h.val;exact⟨a,c,e,h1.mono hl⟩
structure H7 (P:List Par)(m0:Rat)(M:List (Par×Rat)):Prop where
 c:Tx m0
 t:∀ x∈M,Tx x.2
 srt:Ez Bf (M.map (·.1))
 sub:∀ x∈M,x.1∈P
 len:M.length<=P.length
def cfE (m0:Rat)(M:List (Par×Rat)):Option Par->Rat
 |none=>m0
 |some p=>Ap p M
def Ut (C:Ac u v 2 (P.map Aq))(R:Ez Bf P)(X:P.length<=1000000) :
 Fn0 prog 91 [v] u fun r _=>r=.bool true:=by
 obtain⟨W,I,rfl⟩:=C.opn;rw[Ayt]at C⊢;refine Fn0.o func91<|G.l (ι:=Nat) (fun i=>[(0,sV W P.length I),(3,iV i)]) (fun _=>[])
  (fun i Z U=>1<=i/\U=PH.mt) (fun i=>P.length-i) 1 ⟨oV,rfl⟩ ?_
 rintro J i Q u2 Y l2 ⟨hi,rfl⟩;by_cases g:i<P.length
 ·refine G.lT i P.length ?_;have m:=C.mono l2;have E:P[i]?=some P[i]:=Ayr g;have F:P[i-1]?=some (P[i-1]'oV):=Ayr oV;have H:Bf (P[i-1]'oV) P[i]<0:=A02.1 R (i-1) i oV g oV;obtain⟨n,t,K,N⟩:=Ac.at' m (j:=i) (e:=Aq P[i]) (by simp[E]);obtain⟨L,V,h,O⟩:=Ac.at' m (j:=i-1) (e:=Aq (P[i-1]'oV)) (by simp[F]);rw[K]at h;cases h;subst K;refine G.s i 1 (i-1:Nat)<|G.a n t P.length I (i-1) 2 oV<|G.lU (some 2) n (t+(i-1)*2) (Aq (P[i-1]'oV)) O<|G.a n t P.length I i 2 g<|G.lU (some 2) n (t+i*2) (Aq P[i]) N<|G.c call164 (Ts _ _ true (decide_eq_true H)) ?_;rintro v3 u3 T rfl;exact G.i i<|G.b (Q (i+1) _ _ _ cV (l2.trans T) ⟨oV,rfl⟩ oV)
 exact G.lF i P.length<|G.r (.bool true) ⟨rfl,rfl⟩
def Wb (h:M5 u v m0 M)(hl:M.length<=100000) :
 Fn0 prog 88 [v] u fun r K=>Ac K r 2 ((M.map (·.1)).map Aq):=by
 obtain⟨a,c,rfl,U⟩:=h.val;refine Fn0.o func88<|G.l (ι:=Nat×(Option Addr×Nat)) (fun i=>[(3,sV i.2.1 (M.take i.1).length i.2.2),(7,sV a M.length c),(8,iV M.length),(9,iV i.1)]) (fun _=>[])
  (fun i K X=>i.1<=M.length/\Af PH.mt X (.slice i.2.1 (M.take i.1).length i.2.2) 63 2 (((M.take i.1).map (·.1)).map Aq)) (fun i=>M.length-i.1) (0,(none,0)) ⟨oV,Af.nil _ _ _⟩ ?_
 rintro J ⟨i,⟨Y,Z⟩⟩ H u2 m2 l2 ⟨hi,C⟩;simp only at hi C H;by_cases t:i<M.length
 ·refine G.lT i M.length ?_;obtain⟨x,n⟩:∃ x,M[i]?=some x:=⟨_,Ayr t⟩;have E:=Da n;have V:(M.take i).length=i:=by rw[Ay1];omega
  obtain⟨F,I,rfl,Q⟩:=Ac.at' (U.mono l2) (j:=i) (e:=As x) (by simp[n]);refine G.a F I M.length c i 3 t<|G.lU (some 3) F (I+i*3) (.agg #[.int .i64 x.1.1,.string (mkS x.1.2),.string (mkS (Ae x.2))]) Q<|G.B 63 2 24 (.agg #[.int .i64 0,.string (mkS [])]) [.agg #[.int .i64 x.1.1,.string (mkS x.1.2)]] (Ht x.1) ?_;intro R u6 W O;refine G.k 63 2 24 (.agg #[.int .i64 0,.string (mkS [])]) PH.mt (((M.take i).map (·.1)).map Aq) [Aq x.1] _ R 0 1 1 C O (Ht x.1) ?_;intro v7 m7 m;rw[show ((M.take i).map (·.1)).map Aq++[Aq x.1]=((M.take (i+1)).map (·.1)).map Aq by rw[E];simp]at m;obtain⟨L,N,rfl⟩:=m.shape;rw[Ayt,Ayt]at m⊢;exact G.i i<|G.b (H (i+1,(L,N)) _ _ _ cV (l2.trans W) ⟨dV,m⟩ dV)
 obtain rfl:i=M.length:=oV;refine G.lF M.length M.length ?_;rw[Azj]at C⊢;refine G.give _ _ _ kV C (fun g=>.inl rfl) ?_;intro u3 l3 T;exact G.r (.slice Y M.length Z) ⟨rfl,T⟩
def Apc (h:Tx x.2):Fn0 prog 163 [As x] u fun r _=>r=.bool false:=by
 refine Fn0.o func163<|G.c call143 (Eo h) ?_;rintro j g e rfl;exact G.r (.bool false) ⟨rfl,rfl⟩
def To (h:M5 u v m0 M)(n:M.length<=100000)(h0:Tx m0)(g:∀ x∈M,Tx x.2) :
 Fn0 prog 90 [v] u fun r _=>r=.bool true:=by
 obtain⟨a,c,rfl,e⟩:=h.val;refine Fn0.o func90<|G.c call143 (Eo h0) ?_;rintro F C m rfl;refine G.c call162 (Wh (e.mono m) oV call163 fun x j t _=>Apc (g x j)) ?_;rintro H E l2 rfl;exact G.r (.bool true) ⟨rfl,rfl⟩
def cfL (m0:Rat)(P:List Par)(L:List (Par×Rat)):List (List UInt8):=Ae m0::P.map fun p=>Ae (Ap p L)
def Abl (m0:Rat)(P:List Par)(L:List (Par×Rat)):(cfL m0 P L).length=P.length+1:=by unfold cfL;simp
def Ac7 {L:List (Par×Rat)}{k:Nat}(e:P[k]?=some x.1)(g:P.Nodup)(h:x.1∉L.map (·.1)):(cfL m0 P L).set (k+1) (Ae x.2)=cfL m0 P (L++[x]):=by
 have:=Al3 e g h;unfold Afe at this;rw[A0i]at this;unfold cfL;rw[A0i,(A4n this).2]
def Ain (m0:Rat)(P:List Par)(M:List (Par×Rat)):cfL m0 P M=((Ah P).map (cfE m0 M)).map Ae:=by
 unfold cfL Ah;rw[Azu,Azu,A6z,A6z];rfl
def H7.tx (h:H7 P m0 M):Tx m0/\∀ x∈M,Tx x.2:=⟨h.c,h.t⟩
def Aoi {pv v:Value}(hP:Ac u pv 2 (P.map Aq))(hs:Ez Bf P)(hl:P.length<=10000)(h:M5 u v m0 M)(ok:H7 P m0 M) :
 Fn0 prog 105 [pv,v] u fun r K=>∃ lv,r=.tuple #[lv,.int .i64 0]/\Dc K lv (((Ah P).map (cfE m0 M)).map Ae):=by
 have ah:=ok.len;have N:=fun (K:PH) (l:PH.le u K)=>Ut (hP.mono l) hs oV;have a0:=fun (K:PH) (l:PH.le u K)=>To (h.mono l) oV ok.tx.1 ok.tx.2;have a1:=fun (K:PH) (l:PH.le u K)=>Wb (h.mono l) oV;have Y:=hs.nodup Dl;have aa:=ok.srt.nodup Dl;obtain⟨pa,pc,rfl⟩:=hP.opn;obtain⟨a,c,rfl,hM⟩:=h.val;rw[Ayt]at hP N⊢;refine Fn0.o func105<|G.c call91 (N u (PH.le_refl _)) ?_;rintro v1 u1 l1 rfl;refine G.c call90 (a0 u1 l1) ?_;rintro v2 u2 l2 rfl;have a4:=l1.trans l2;refine G.c call88 (a1 u2 a4) ?_;intro v3 u3 l3 k3;obtain⟨a3,c3,rfl⟩:=Ac.opn k3;refine G.c call91 (Ut k3 ok.srt (by rw[Ayt];omega)) ?_;rintro v4 u4 l4 rfl;have af:=(a4.trans l3).trans l4;have R:(cfL m0 P []).map nmV = [Value.string (mkS (Ae m0))]++List.replicate P.length (Value.string (mkS [48])):=by
  have:=Ady P;unfold Afe at this;unfold cfL;rw[(A4n this).2,Azu,A4v];rfl
 have Q:((cfL m0 P []).map nmV).length=P.length+1:=by rw[Ayt,Abl]
 have T:(cfL m0 P []).map nmV≠[]:=by unfold cfL;simp
 refine G.joinF (ι:=Nat×Nat) (fun st=>Acz prog (Nr prog [0,1,4,5] [2,3,6,7,8] (adv prog st)) [undef,undef,undef,undef]) (fun i=>[(0,sV pa P.length pc),(3,.p 0 0),(6,sV (some ⟨i.1,0,none⟩) (P.length+1) i.2)]) (fun _=>[(0,⟨44,[tV (Ae m0),sV a M.length c]⟩)])
  (fun i K m'=>Af PH.mt m' (.slice (some ⟨i.1,0,none⟩) (P.length+1) i.2) 32 1 ((cfL m0 P []).map nmV)) (fun _=>kV) kV ?tail ?way
 case way =>
  intro t;refine G.three [0,1,4,5] 2 3 6 [7,8] 32 1 16 (.string (mkS [])) [.string (mkS [48])] kV kV (Ci [[48]]) rfl oV mV mV ?_ ?_
  ·refine G.buildM 32 1 16 (.string (mkS [])) [.string (mkS (Ae m0))] kV (Ci [Ae m0]) rfl oV mV mV ?_;intro g5 m5 F;refine G.B 32 1 16 (.string (mkS [])) [.string (mkS [48])] (Ci [[48]]) ?_;intro g6 u6 l6 e6;refine G.c call169 (Xd (n:=P.length) e6.listP (Ci [[48]]) oV) ?_;intro v7 u7 U O;obtain⟨V,W,rfl⟩:=Ac.opn O;refine G.appendL 32 1 16 (.string (mkS [])) PH.mt [.string (mkS (Ae m0))] (List.replicate P.length (.string (mkS [48]))) _ V _ W kV rfl rfl oV F O ((Ci [[48]]).replicate _) gV gV ?_;intro v8 m8 m;rw[<-R]at m;obtain⟨C,E,rfl⟩:=m.ptr T;rw[Q]at m⊢;exact t (C,E) _ _ _ kV cV (l6.trans U) m
  intro g6 u6 l6 e6;refine⟨?_,?_⟩
  ·refine G.buildM 32 1 16 (.string (mkS [])) [.string (mkS (Ae m0))] kV (Ci [Ae m0]) rfl oV mV mV ?_;intro g5 m5 F;refine G.c call169 (Xd (n:=P.length) e6.listP (Ci [[48]]) oV) ?_;intro v7 u7 U O;obtain⟨V,W,rfl⟩:=Ac.opn O;refine G.appendL 32 1 16 (.string (mkS [])) PH.mt [.string (mkS (Ae m0))] (List.replicate P.length (.string (mkS [48]))) _ V _ W kV rfl rfl oV F O ((Ci [[48]]).replicate _) gV gV ?_;intro v8 m8 m;rw[<-R]at m;obtain⟨C,E,rfl⟩:=m.ptr T;rw[Q]at m⊢;exact t (C,E) _ _ _ kV cV (l6.trans U) m
  refine G.c call169 (Xd (n:=P.length) e6.listP (Ci [[48]]) oV) ?_;intro v7 u7 U O;obtain⟨V,W,rfl⟩:=Ac.opn O;refine G.buildM 32 1 16 (.string (mkS [])) [.string (mkS (Ae m0))] kV (Ci [Ae m0]) rfl oV mV mV ?_;intro g5 m5 F;refine G.appendL 32 1 16 (.string (mkS [])) PH.mt [.string (mkS (Ae m0))] (List.replicate P.length (.string (mkS [48]))) _ V _ W kV rfl rfl oV F O ((Ci [[48]]).replicate _) gV gV ?_;intro v8 m8 m;rw[<-R]at m;obtain⟨C,E,rfl⟩:=m.ptr T;rw[Q]at m⊢;exact t (C,E) _ _ _ kV cV (l6.trans U) m
 rintro⟨C,E⟩ u7 m8 U m;simp only at m;have ag:=af.trans U;refine G.l (ι:=Nat) (fun i=>[(0,sV pa P.length pc),(6,sV (some ⟨C,0,none⟩) (P.length+1) E),(32,sV a M.length c),(33,iV M.length),(34,iV i)]) (fun _=>[])
  (fun i K m'=>i<=M.length/\Af PH.mt m' (.slice (some ⟨C,0,none⟩) (P.length+1) E) 32 1 ((cfL m0 P (M.take i)).map nmV)) (fun i=>M.length-i) 0 ⟨oV,m⟩ ?_
 rintro J i hJ u9 m9 l9 ⟨hi,hA⟩;have a5:=ag.trans l9;by_cases X:i<M.length
 ·refine G.lT i M.length ?_;obtain⟨x,I⟩:∃ x,M[i]?=some x:=⟨_,Ayr X⟩;have ad:=Ay9 I;have ac:=Da I;obtain⟨k,hk,ab⟩:=Az9 (ok.sub x ad);have H:P[k]?=some x.1:=by rw[Ayr hk,ab]
  have Z:x.1∉(M.take i).map (·.1):=by
   intro hm;obtain⟨y,hy,ae⟩:=Ayx.1 hm;obtain⟨j,hj,rfl⟩:=Az9 hy;rw[Ay1]at hj;have:=Ia aa (i:=j) (j:=i) (x:=x.1) (by rw[Ayy,Ayr oV];simp only[A1n];rw[<-ae,A2t]) (by rw[Ayy,I];rfl);omega
  obtain⟨ba,oa,rfl,ea⟩:=Ac.at' (hM.mono a5) (j:=i) (e:=As x) (by simp[I]);refine G.a ba oa M.length c i 3 X<|G.lU (some 3) ba (oa+i*3) (.agg #[.int .i64 x.1.1,.string (mkS x.1.2),.string (mkS (Ae x.2))]) ea<|G.c call170 (Arf (p:=x.1) (hP.mono a5) H (fun j hj e=>by have:=Ia Y e H;omega) oV) ?_;rintro aj a6 a2 rfl;refine G.hT k 0<|G.i k<|G.a C 0 (P.length+1) E (k+1) 1 oV<|G.storeA 1 PH.mt _ C (P.length+1) E (k+1) (.string (mkS (Ae x.2))) kV hA (by rw[Ayt,Abl];omega) rfl (by simp[Value.cells,Az]) ?_;intro ai L;have a8:((cfL m0 P (M.take i)).map nmV).set (k+1) (.string (mkS (Ae x.2)))=(cfL m0 P (M.take (i+1))).map nmV:=by
   rw[ac,<-Ac7 H Y Z,A1d];rfl
  rw[a8]at L;exact G.i i<|G.b (hJ (i+1) _ _ _ cV (l9.trans a2) ⟨oV,L⟩ oV)
 obtain rfl:i=M.length:=oV;refine G.lF M.length M.length ?_;rw[Azj]at hA;refine G.give _ _ _ kV hA (fun g=>.inl rfl) ?_;intro a6 a2 hL;have a9:Dc a6 (.slice (some ⟨C,0,none⟩) (P.length+1) E) (((Ah P).map (cfE m0 M)).map Ae):=by
  rw[<-Ain];exact hL
 exact G.r (.tuple #[.slice (some ⟨C,0,none⟩) (P.length+1) E,.int .i64 0]) ⟨rfl,_,rfl,a9⟩
end
section
variable {F:List Am}{R:List Bu}{T:List (List UInt8×Nat)}{lab:Int}{p:Par}{u:PH}{v:Value}
def Yy (F:List Am)(p:Par):Prop:=∃ (k:Nat) (f:Am),p.1=(k:Int)/\F[k]?=some f/\(p.2 = []\/(f.2.1=2/\Ha p.2=true))
def Alt (P:G8 u v T R F lab)(ok:Bt u T R F lab)(hp:Yy F p) :
 Fn0 prog 94 [v,Aq p] u fun r _=>r=.bool true:=by
 obtain⟨xa,xc,xb,xd,xe,W,rfl,O,N,n⟩:=P;have Q:=ok.f2;obtain⟨k,f,H,I,m⟩:=hp;obtain⟨Z,E⟩:=p;simp only at H m;subst H;have U:=(Ayu.1 I).1;obtain⟨g,C,rfl,J⟩:=Ac.at' n (j:=k) (e:=Ch f) (by simp[I]);obtain⟨K,h,L⟩:=f;simp only at m;refine Fn0.o func94<|G.lF k 0<|G.hF k F.length ?_;by_cases t:E = []
 ·exact G.q E [] t<|G.r (.bool true) ⟨rfl,rfl⟩
 obtain⟨X,V⟩:=m.resolve_left t;refine G.w E [] t<|G.a g C F.length W k 3 U<|G.f 105 g (C+k*3) 1 1<|G.lU none g (C+k*3+1) (.int .i64 h) (J.fld (j:=1) (xs:=#[.int .i64 K,.int .i64 h,.int .i64 L]) rfl rfl)<|G.eT h 2<|G.c call166 (Aju V) ?_;rintro v1 u1 Y rfl;exact G.r (.bool true) ⟨rfl,rfl⟩
def Ar6 {u m:PH}{b:Nat}(t:ElP m b 0 v)(g:G8 u v T R F lab)(ok:Bt u T R F lab)(hp:Yy F p) :
 FnK prog 93 [Aq p,.pointer (some ⟨b,0,none⟩)] u m fun v _=>v=.bool false:=by
 have e:=Alt g ok hp;obtain⟨C,H,E,I,J,K,rfl,n,j,h⟩:=g;refine FnK.of func93 kV kV<|G.lM (some 4) b 0 (.agg #[.slice C T.length H,.slice E R.length I,.slice J F.length K,.int .i64 lab]) t<|G.c call94 e ?_;rintro O N L rfl;exact G.r (.bool false) ⟨rfl,rfl⟩
def Anj {u m:PH}{v cap:Value}{P:List Par}{fid:Nat}(h:Ac u v 2 (P.map Aq))(V:P.length<=1000000)
 (g:∀ args w,(callFunc fid args).run prog w=.ok (.enter fid args) w) (N:∀ p∈P,∀ E,PH.le u E->FnK prog fid [Aq p,cap] E m fun v _=>v=.bool false) :
 FnK prog 165 [v,.func (.func fid) #[] #[cap]] u m fun U _=>U=.int .i64 (-1):=by
 obtain⟨a,c,rfl⟩:=h.opn;rw[Ayt]at h⊢;refine FnK.of func165 kV kV<|G.l (ι:=Nat) (fun i=>[(0,sV a P.length c),(1,.v (.func (.func fid) #[] #[cap])),(7,iV P.length),(8,iV i)]) (fun _=>[])
  (fun i E O=>i<=P.length/\O=m) (fun i=>P.length-i) 0 ⟨oV,rfl⟩ ?_
 rintro J i L Q W C ⟨hi,rfl⟩;by_cases n:i<P.length
 ·refine G.lT i P.length ?_;have t:P[i]?=some P[i]:=Ayr n;obtain⟨H,I,rfl,K⟩:=Ac.at' (h.mono C) (j:=i) (e:=Aq P[i]) (by simp[t]);refine G.a H I P.length c i 2 oV<|G.lU (some 2) H (I+i*2) (Aq P[i]) K<|G.callK fid [Aq P[i],cap] kV g (N P[i] (Ay8 n) Q C) ?_;rintro Y X l2 rfl;exact G.i i<|G.b (L (i+1) _ _ _ cV (C.trans l2) ⟨oV,rfl⟩ oV)
 obtain rfl:i=P.length:=oV;exact G.lF P.length P.length<|G.r (.int .i64 (-1)) ⟨rfl,rfl⟩
def Ac2 {u m:PH}{v cap:Value}{P:List Par}{fid:Nat}(h:Ac u v 2 (P.map Aq))(n:P.length<=1000000)
 (e:∀ args w,(callFunc fid args).run prog w=.ok (.enter fid args) w) (j:∀ p∈P,∀ g,PH.le u g->FnK prog fid [Aq p,cap] g m fun v _=>v=.bool false) :
 FnK prog 92 [v,.func (.func fid) #[] #[cap]] u m fun t _=>t=.bool false:=by
 obtain⟨a,c,rfl⟩:=h.opn;refine FnK.of func92 kV kV<|G.callK _ _ kV call165 (Anj h n e j) ?_;rintro H E C rfl;exact G.hF (-1) 0<|G.r (.bool false) ⟨rfl,rfl⟩
def Sh {v Y:Value}{P:List Par}{m0:Rat}{M:List (Par×Rat)}(N:G8 u v T R F lab)(ok:Bt u T R F lab)(h:M5 u Y m0 M)(j:H7 P m0 M)(hP:P.length<=10000)(n:∀ p∈P,Yy F p) :
 Fn0 prog 42 [v,Y] u fun r _=>r=.bool true:=by
 have a0:=j.len;have O:=fun (e:PH) (l:PH.le u e)=>Acb (N.mono l) (ok.mono l);have m:=fun (e:PH) (l:PH.le u e)=>To (h.mono l) oV j.tx.1 j.tx.2;have t:=fun (e:PH) (l:PH.le u e)=>Wb (h.mono l) oV;obtain⟨E,I,H,J,K,L,rfl,a3,a2,Z⟩:=id N;obtain⟨a,c,rfl,hM⟩:=h.val;refine Fn0.o func42<|G.c call88 (t u (PH.le_refl _)) ?_;intro v1 u1 U Q;obtain⟨a1,c1,rfl⟩:=Ac.opn Q;refine G.pub 0 30 [.slice E T.length I,.slice H R.length J,.slice K F.length L,.int .i64 lab] kV kV ?_;intro b a4 a5;have g:ElP (PH.mt.upd b (.cells [Value.slice E T.length I,.slice H R.length J,.slice K F.length L,.int .i64 lab].toArray 30 (0,0))) b 0 (.agg #[.slice E T.length I,.slice H R.length J,.slice K F.length L,.int .i64 lab]):=Qe (xs:=[.slice E T.length I,.slice H R.length J,.slice K F.length L,.int .i64 lab]) (Ab _ _ _) rfl;refine G.lM (some 4) b 0 (.agg #[.slice E T.length I,.slice H R.length J,.slice K F.length L,.int .i64 lab]) g<|G.c call89 (O u1 U) ?_;rintro v2 u2 l2 rfl;refine G.eT' 0 0 rfl<|G.c call90 (m u2 (U.trans l2)) ?_;rintro v3 u3 V rfl;refine G.c call91 (Ut ((Q.mono l2).mono V) j.srt (by rw[Ayt];omega)) ?_;rintro v4 u4 X rfl;have C:=((U.trans l2).trans V).trans X;refine G.callK _ _ kV call92 (Ac2 (cap:=.pointer (some ⟨b,0,none⟩)) (((Q.mono l2).mono V).mono X) (by rw[Ayt];omega) call93 fun p hp e W=>Ar6 g (N.mono (C.trans W)) (ok.mono (C.trans W)) (n p (by
  obtain⟨x,hx,rfl⟩:=Ayx.1 hp;exact j.sub x hx))) ?_
 rintro v5 u5 l5 rfl;exact G.drop PH.mt kV (PH.mt_le _)<|G.r (.bool true) ⟨rfl,rfl⟩
end
structure Bbs (u:PH)(v cv:Value)(T:List (List UInt8×Nat))(R:List Bu)(F:List Am)(lab:Int)(C:CF)(K k:Nat)(P:List Par):Prop where
 sch:G8 u v T R F lab
 ok:Bt u T R F lab
 cof:Nu u cv C K
 sC:CFS C
 vC:CFV C
 K:K<=10000
 bel:∀ p,C.s p≠0->Ac1 F lab p
 mom:Pm C k
 prm:Iy F C P
 p24:P.length<=24
 lab0:0<=lab
 d:CFD 16 (10^75) C
def Bbs.mono {u u':PH}{v cv:Value}{T:List (List UInt8×Nat)}{R:List Bu}{F:List Am}{lab:Int}{C:CF}{K k:Nat}{P:List Par}(h:Bbs u v cv T R F lab C K k P)(hl:PH.le u u'):Bbs u' v cv T R F lab C K k P :=
 ⟨h.sch.mono hl,h.ok.mono hl,h.cof.mono hl,h.sC,h.vC,h.K,h.bel,h.mom,h.prm,h.p24,h.lab0,h.d⟩
def CFD.to {d e N M:Nat}{F:CF}(h:CFD d N F)(g:d<=e)(j:N*12^(e-d)<=M):CFD e M F:=⟨h.c.to g j,fun p=>(h.s p).to g j,fun q=>(h.t q).to g j⟩
def Avf {q n d j:Rat}(e:q=n*j)(hi:d*j=1):q*d=n:=by rw[e];grind
def Bbz (q:Rat):q*(q.den:Rat)=(q.num:Rat):=by
 have e:q=(q.num:Rat)/(((q.den:Int)):Rat):=by rw[<-A2g,A5q]
 have hi:=A4u _ (Mx q.den_pos);rw[Az2,A4w]at e;exact Avf e hi
def Aa4:Tx 0:=(show SmR 0 from⟨jV,jV⟩).tx
def Aqm {P:List Par}{m0:Rat}{M:List (Par×Rat)}(h:H7 P m0 M):∀ e,Tx (cfE m0 M e)
 |none=>h.c
 |some p=>by
  show Tx (Ap p M);by_cases hp:p∈M.map (·.1)
  ·obtain⟨x,g,rfl⟩:=Ayx.1 hp;have e:Ap x.1 M=x.2:=Hj (h.srt.nodup Dl) g;rw[e];exact h.t x g
  rw[F7 hp];exact Aa4
section
variable {F:List Am}{lab:Int}{p:Par}
def Aj2 {p:Par}:∀ (L:List LF) (C:CF),(Ij C L).s p≠0->C.s p≠0\/∃ q,some (some (p,q))∈L
 |[],C,h=>.inl h
 |x::L,C,h=>by
  rcases Aj2 L (C.mul x.cf) h with n|⟨q,t⟩
  ·rcases Gn (a:=x.cf.s p*C.c) (b:=C.s p*x.cf.c) n with j|j
   ·right;have g:=(Cq j).1
    match x,g with
    |none,g=>exact absurd rfl g
    |some none,g=>exact absurd rfl g
    |some (some (p',q)),g =>
     have m:(if p=p' then q else 0)≠0:=g;by_cases e:p=p'
     ·subst e;exact⟨q,A1c ..⟩
     rw[if_neg e]at m;exact absurd rfl m
   exact .inl (Cq j).1
  exact .inr ⟨q,Azq _ t⟩
def Aat {ss:List (List UInt8)}(h:(cfT F lab ss).s p≠0):Ac1 F lab p/\∃ (a:Nat) (q:Rat),(E8 F lab ss)[a]?=some (some (some (p,q)))/\∀ (i:Nat) (f:Am),p.1=(i:Int)->F[i]?=some f->f.2.1=2->q=1:=by
 rcases Aj2 _ _ h with h|⟨q,Q⟩
 ·exact absurd rfl h
 obtain⟨a,C,E⟩:=Az9 Q;have I:a<ss.length:=by rw[Gf]at C;exact C
 have e:=F1 (F:=F) (lab:=lab) (w:=ss[a]) (Ayr I);have m:Gd F lab a ss[a]=some (some (p,q)):=by
  rw[Ayr C,E]at e;exact (A0j e).symm
 have u:(E8 F lab ss)[a]?=some (some (some (p,q))):=by rw[e,m]
 generalize ss[a]=w at m;by_cases K:(a:Int)=lab
 ·have L:Gd F lab a w=Pw w:=by unfold Gd;rw[if_pos K]
  rw[L]at m;unfold Pw at m;split at m
  ·cases m
  simp only[Ayz,Az0]at m;obtain⟨rfl,_⟩:=m;exact⟨.inl ⟨rfl,oV,rfl⟩,a,q,u,fun i f n=>by simp only at n;omega⟩
 rcases F8 (F:=F) (w:=w) K with n|⟨i,f,H,P,n⟩
 ·rw[n]at m;cases m
 rw[n]at m;unfold Jt at m;by_cases t:f.2.1=2
 ·rw[if_pos t]at m;simp only[Ayz,Az0]at m;obtain⟨rfl,rfl⟩:=m;exact⟨.inr ⟨i,f,rfl,H,.inl t⟩,a,_,u,fun _ _ _ _ _=>rfl⟩
 rw[if_neg t]at m;split at m
 ·split at m<;>cases m
 simp only[Ayz,Az0]at m;obtain⟨rfl,_⟩:=m;refine⟨.inr ⟨i,f,rfl,H,.inr rfl⟩,a,q,u,fun j g N J O=>?_⟩;simp only at N;obtain rfl:i=j:=oV;rw[H]at J;cases J;exact absurd O t
theorem Ajd :∀ {L:List Fx},(Ce F lab L).s p≠0->∃ y∈L,(cfT F lab y.1).s p≠0:=by
 intro L;induction L using J0 with
 |h0=>exact fun h=>absurd rfl h
 |h1 L y ih =>
  intro h;rw[Er]at h;rcases Gn (a:=(Ce F lab L).s p) (b:=(cfT F lab y.1).s p*(y.2.1:Rat)) h with h1|h1
  ·obtain⟨z,hz,h2⟩:=ih h1;exact⟨z,A0x _ hz,h2⟩
  ·exact⟨y,mV,(Cq h1).1⟩
end
section
variable {C:CF}{P:List Par}{b:Option Par->Rat}
def V6 (P:List Par)(C:CF)(h:∀ e,b e=0):Ba9 b P C=0:=by
 unfold Ba9;exact Ca fun e _=>Ca fun f _=>by rw[h e];grind
def Ad6:Ae6 (CF.num 0):=⟨rfl,fun _=>rfl,fun _=>rfl⟩
def Am7:SmW 0:=⟨jV,jV⟩
def Ata {T:List (List UInt8×Nat)}{F:List Am}{lab:Int}{ss:List (List UInt8)}(hF:C5 T F lab)(m:Cd T ss)(n:-1<=lab)(E:∀ l:Nat,lab=(l:Int)->l<ss.length)(H:Mo F lab ss=true){p:Par}(hp:0<=p.1):(cfT F lab ss).s p=Ap p (Ct F ss F.length):=by
 have u:=P4 F ss F.length (Ay2 _);by_cases h:(cfT F lab ss).s p=0
 ·rw[h];refine (F7 fun g=>?_).symm;obtain⟨x,K,rfl⟩:=Ayx.1 g;obtain⟨J,a,j⟩:=Amd (lab:=lab) hF m K;exact J ((Xn hF m n E H (p:=x.1) (q:=x.2) j).symm.trans h)
 obtain⟨_,a,q,j,_⟩:=Aat h;have I:=Xn hF m n E H j;rw[I]at h;rcases Ay5.1 (Arg hF m n j h fun l _ e=>by
  rw[e];exact (Ta (Ol (t:=[48]) ⟨0,Am7,D8.symm⟩).2).2 rfl) with g|g
 ·unfold Aux at g;split at g
  ·simp only[Azs,Az0]at g;obtain⟨rfl,_⟩:=g;simp only at hp;omega
  simp at g
 rw[I];exact (Hj (a:=p) (q:=q) u g).symm
def Lt (m0:Rat)(M:List (Par×Rat))(V:List (Par×Rat)):Rat:=m0+Ao (fun t=>t.2*Ap t.1 M) V
def QOK.biasS (h:QOK b C)(e:P.length<=60):Sz (Aw8 b P C) 1000000 :=
 (Uh (show Sz (C.s B7) 1000 from h.r none) (h.bs (Ah P) (by rw[Bk];omega))).mono oV
def QOK.sqS (h:QOK b C)(e:P.length<=60):Sz (sqC b P C) 30000000 :=
 (Uh (Gy (h.nm e) h.l) (Api (h.rs (Ah P) (by rw[Bk];omega)))).mono oV
end
section
variable {f:Nat->Rat}{n:Nat}
def Ey (n:Nat)(f:Nat->Rat):Rat:=Ao f (List.range n)
def Hf (n:Nat)(f:Nat->Rat):Ey (n+1) f=Ey n f+f n:=by unfold Ey;rw[A4r,Fs]
def S4 (f:Nat->Rat):Ey 0 f=0:=rfl
def Jm {f g:Nat->Rat}(h:∀ i,i<n->f i=g i):Ey n f=Ey n g:=A7 fun i hi=>h i (A64.1 hi)
def Ac4 (n:Nat)(f g:Nat->Rat):Ey n (fun i=>f i-g i)=Ey n f-Ey n g:=by
 induction n with
 |zero=>show (0:Rat)=0-0;decide +kernel
 |succ n ih=>rw[Hf,Hf,Hf,ih];grind
def Rv (k:Rat)(n:Nat)(f:Nat->Rat):Ey n (fun i=>k*f i)=k*Ey n f:=Dp k _
def Ao2:∀ (B:Nat) (f:Nat->Nat),(∀ k,k<=B->f k<B)->∃ i j,i<j/\j<=B/\f i=f j
 |0,f,h=>absurd (h 0 (Ay2 _)) oV
 |B+1,f,h=>by
  by_cases u:∃ i,i<=B/\f i=f (B+1)
  ·obtain⟨i,hi,e⟩:=u;exact⟨i,B+1,oV,Ay2 _,e⟩
  have g:∀ k,k<=B->f k≠f (B+1):=fun k t e=>u ⟨k,t,e⟩;have I:=h (B+1) (Ay2 _);obtain⟨i,j,m,E,e⟩:=Ao2 B (fun k=>if f k<f (B+1) then f k else f k-1) fun k t=>by
   have F:=h k oV;have C:=g k t;split<;>omega
  refine⟨i,j,m,oV,?_⟩;have C:=g i oV;have H:=g j E;split at e<;>split at e<;>omega
def Uf (m:Nat)(f:Nat->Nat):Nat->Nat
 |0=>0
 |n+1=>Uf m f n*m+f n
def Ajy {m:Nat}{f:Nat->Nat}:∀ n,(∀ i,i<n->f i<m)->Uf m f n<m^n
 |0,_=>by simp[Uf]
 |n+1,h=>by
  have e:=Ajy n fun i hi=>h i oV;have j:=h n oV;have g:(Uf m f n+1)*m<=m^n*m:=Az7 m e;rw[Azt]at g;show Uf m f n*m+f n<m^n*m;omega
def Aej {m:Nat}{f g:Nat->Nat}:∀ n,(∀ i,i<n->f i<m)->(∀ i,i<n->g i<m)->Uf m f n=Uf m g n->∀ i,i<n->f i=g i
 |0,_,_,_,i,hi=>oV
 |n+1,hf,hg,e,i,hi=>by
  have j:Uf m f n*m+f n=Uf m g n*m+g n:=e;have a:=hf n oV;have b:=hg n oV;have q:Uf m f n=Uf m g n:=by
   have t:=congrArg (· / m) j;simpa[Az5 _ m,A7z (show 0<m by omega),A2l a,A2l b] using t
  rcases Az8 i n with h|h
  ·exact Aej n (fun i hi=>hf i oV) (fun i hi=>hg i oV) q i h
  rw[q]at j;rw[show i=n by omega];omega
def Aox {M:Nat}(h:∀ i,i<n->-(M:Rat)<=f i/\f i<=M):-((n*M:Nat):Rat)<=Ey n f/\Ey n f<=((n*M:Nat):Rat):=by
 induction n with
 |zero=>rw[S4,A22];constructor<;>decide +kernel
 |succ n ih =>
  have g:=ih fun i hi=>h i oV;have j:=h n oV;have e:(((n+1)*M:Nat):Rat)=((n*M:Nat):Rat)+(M:Rat):=by rw[Azt,A1k,A5j]
  rw[Hf,e];constructor<;>grind
def frc (q:Rat):Rat:=q-(q.floor:Rat)
def Awf (q:Rat):0<=frc q/\frc q<=1:=by
 have e:=Rat.floor_le q;have g:=Rat.lt_floor_add_one q;unfold frc;constructor<;>grind
def As5 {n M:Nat}{A:Nat->Nat->Int}{x:Nat->Rat}(Q:∀ i j,i<n->j<n->(A i j).natAbs<=M)(V:∀ i,i<n->∃ z:Int,Ey n (fun j=>(A i j:Rat)*x j)=z)
 (F:∀ h:Rat->Rat,(∀ i,i<n->Ey n (fun j=>(A i j:Rat)*h (x j))=0)->∀ j,j<n->h (x j)=0) :
 ∃ D:Nat,0<D/\D<=(2*(n*M)+1)^n/\∀ j,j<n->∃ k:Int,x j*(D:Rat)=k:=by
 have L:∀ (k:Nat) i,i<n->∃ z:Int,Ey n (fun j=>(A i j:Rat)*frc ((k:Rat)*x j))=z:=by
  intro k i hi;obtain⟨z,g⟩:=V i hi;have:∀ m,∃ w:Int,Ey m (fun j=>(A i j:Rat)*(((k:Rat)*x j).floor:Rat))=w:=by
   intro m;induction m with
   |zero=>exact⟨0,rfl⟩
   |succ m ih =>
    obtain⟨w,O⟩:=ih;exact⟨w+A i m*((k:Rat)*x m).floor,by rw[Hf,O,A28,A0v]⟩
  obtain⟨w,O⟩:=this n;refine⟨k*z-w,?_⟩;have e:(fun j=>(A i j:Rat)*frc ((k:Rat)*x j))=fun j=>(k:Rat)*((A i j:Rat)*x j)-(A i j:Rat)*(((k:Rat)*x j).floor:Rat):=by
   funext j;unfold frc;grind
  rw[e,Ac4,Rv,g,O,A72,A0v,Az2]
 have C:∀ k i,∃ z:Int,i<n->Ey n (fun j=>(A i j:Rat)*frc ((k:Nat)*x j))=z:=fun k i=>by
  by_cases hi:i<n
  ·obtain⟨z,g⟩:=L k i hi;exact⟨z,fun _=>g⟩
  exact⟨0,fun h=>absurd h hi⟩
 have u:∀ (k:Nat) i (z:Int),i<n->Ey n (fun j=>(A i j:Rat)*frc ((k:Rat)*x j))=z->-((n*M:Nat):Int)<=z/\z<=((n*M:Nat):Int):=by
  intro k i z hi g;have:=Aox (n:=n) (f:=fun j=>(A i j:Rat)*frc ((k:Rat)*x j)) (M:=M) fun j N=>by
   have E:=Awf ((k:Rat)*x j);generalize frc ((k:Rat)*x j)=f at E;have Y:=Q i j hi N;have I:(A i j:Rat)<=((M:Int):Rat):=A08.2 oV;have H:((-(M:Int):Int):Rat)<=(A i j:Rat):=A08.2 oV;rw[A4p]at H;rw[Az2]at I H;generalize (A i j:Rat)=a at I H;have J:(0:Rat)<=(M:Rat):=by grind
   generalize (M:Rat)=m at I H J;constructor
   ·show -m<=a*f;have W:0<=(a+m)*f:=Azv (by grind) E.1;have X:0<=m*(1-f):=Azv J (by grind);grind
   show a*f<=m;have W:0<=(m-a)*f:=Azv (by grind) E.1;have X:0<=m*(1-f):=Azv J (by grind);grind
  rw[g,<-Az2,<-A4p]at this;exact⟨A08.1 this.1,A08.1 this.2⟩
 have g:=fun k i=>(C k i).choose_spec;generalize P:(fun (k i:Nat)=>(C k i).choose)=Z at g;have g:∀ k i,i<n->Ey n (fun j=>(A i j:Rat)*frc ((k:Nat)*x j))=Z k i:=fun k i hi=>by rw[<-P];exact (C k i).choose_spec hi
 have K:∀ k i,i<n->(Z k i+((n*M:Nat):Int)).toNat<2*(n*M)+1:=fun k i hi=>by
  have:=u k i _ hi (g k i hi);omega
 obtain⟨k,l,T,hl,e⟩:=Ao2 ((2*(n*M)+1)^n) (fun k=>Uf (2*(n*M)+1) (fun i=>(Z k i+((n*M:Nat):Int)).toNat) n) fun k _=>Ajy n (K k);have R:=Aej n (K k) (K l) e;have U:=F (fun t=>frc ((l:Rat)*t)-frc ((k:Rat)*t)) fun i hi=>by
  have a:=u k i _ hi (g k i hi);have b:=u l i _ hi (g l i hi);have E:Z k i=Z l i:=by have:=R i hi;omega
  have e:(fun j=>(A i j:Rat)*(frc ((l:Rat)*x j)-frc ((k:Rat)*x j)))=fun j=>(A i j:Rat)*frc ((l:Rat)*x j)-(A i j:Rat)*frc ((k:Rat)*x j):=by funext j;grind
  rw[e,Ac4,g l i hi,g k i hi,E];grind
 refine⟨l-k,oV,oV,fun j N=>⟨((l:Rat)*x j).floor-((k:Rat)*x j).floor,?_⟩⟩;have h:=U j N;unfold frc at h;have c:((l-k:Nat):Rat)=(l:Rat)-(k:Rat):=by
  have:(l:Rat)=((l-k:Nat):Rat)+(k:Rat):=by rw[<-A5j];congr 1;omega
  grind
 rw[c,A72];grind
end
section
def Zj {α β:Type}(f:α->β->Rat):∀ (l:List α) (k:List β),Ao (fun a=>Ao (fun b=>f a b) k) l=Ao (fun b=>Ao (fun a=>f a b) l) k
 |[],k=>(Ca fun _ _=>rfl).symm
 |a::l,k=>by
  show Ao (fun b=>f a b) k+Ao (fun a=>Ao (fun b=>f a b) k) l=Ao (fun b=>f a b+Ao (fun a=>f a b) l) k;rw[Zj f l k,Ea]
def Ab1 {α:Type}{f:α->Rat}:∀ {l:List α},(∀ a∈l,0<=f a)->0<=Ao f l
 |[],_=>A9k
 |a::l,h=>by
  have g:=h a (A1c ..);have j:=Ab1 fun x e=>h x (Azq _ e);show 0<=f a+Ao f l;grind
def U1 {α:Type}{f:α->Rat}:∀ {l:List α},(∀ a∈l,0<=f a)->Ao f l=0->∀ a∈l,f a=0
 |[],_,_,a,g=>by cases g
 |x::l,h,e,a,g=>by
  have n:=h x (A1c ..);have t:=Ab1 fun y j=>h y (Azq _ j);have m:f x+Ao f l=0:=e;rcases Ay7.1 g with rfl|g
  ·grind
  exact U1 (fun y j=>h y (Azq _ j)) (by grind) a g
def Afm (C:CF)(e f:Option Par):Ar C e f=Ar C f e:=by
 cases e<;>cases f<;>simp only[Ar]<;>rw[U8]
section
variable {P:List Par} {C:CF} {b d z:Option Par->Rat} {k:Rat}
def Hc (k:Rat)(b:Option Par->Rat):Option Par->Rat
 |none=>0
 |some p=>k*b (some p)
def Fj (P:List Par)(C:CF)(k:Rat)(b:Option Par->Rat):Prop:=∀ e∈Ah P,Ao (fun f=>Ar C e f*b f) (Ah P)+Hc k b e=Au C e
def Eu (P:List Par)(b:Option Par->Rat):Rat:=Ao (fun p=>b (some p)*b (some p)) P
def Bbg (z b:Option Par->Rat)(P:List Par)(C:CF):Rat:=Ao (fun e=>z e*Ao (fun f=>Ar C e f*b f) (Ah P)) (Ah P)
def Oq (b:Option Par->Rat):Ba9 b P C=Bbg b b P C:=by
 unfold Ba9 Bbg;exact A7 fun e _=>by rw[<-Dp];exact A7 fun f _=>by grind
def W3 (z b:Option Par->Rat):Bbg z b P C=Bbg b z P C:=by
 unfold Bbg;rw[A7 (g:=fun e=>Ao (fun f=>z e*(Ar C e f*b f)) (Ah P)) fun e _=>(Dp _ _).symm,Zj];exact A7 fun f _=>by rw[<-Dp];exact A7 fun e _=>by rw[Afm C e f];grind
def Ab5 (z w b:Option Par->Rat):Bbg (fun e=>z e+w e) b P C=Bbg z b P C+Bbg w b P C:=by
 unfold Bbg;rw[<-Ea];exact A7 fun e _=>by grind
def Anb (z b:Option Par->Rat):Ba9 (fun e=>z e+b e) P C=Ba9 z P C+2*Bbg z b P C+Ba9 b P C:=by
 rw[Oq,Oq,Oq,Ab5,W3 z,W3 b,Ab5,Ab5,W3 b z];grind
def O0 (f:Option Par->Rat):Ao f (Ah P)=f none+Ao (fun p=>f (some p)) P:=by
 unfold Ah;show f none+_=_;rw[R2]
def Fj.bil (h:Fj P C k b)(z:Option Par->Rat):Bbg z b P C=Ao (fun e=>z e*Au C e) (Ah P)-k*Ao (fun p=>z (some p)*b (some p)) P:=by
 have:Bbg z b P C=Ao (fun e=>z e*Au C e + -(z e*Hc k b e)) (Ah P):=A7 fun e j=>by rw[<-h e j];grind
 rw[this,Ea];have g:Ao (fun e=>-(z e*Hc k b e)) (Ah P) = -(k*Ao (fun p=>z (some p)*b (some p)) P):=by
  rw[O0,<-Dp];have:Ao (fun p=>-(z (some p)*Hc k b (some p))) P=Ao (fun p=>(-1)*(k*(z (some p)*b (some p)))) P:=A7 fun p _=>by unfold Hc;grind
  rw[this,Dp];unfold Hc;grind
 rw[g];grind
def Fj.loss (h:Fj P C k b)(z:Option Par->Rat):sqC (fun e=>z e+b e) P C+k*Eu P (fun e=>z e+b e)=sqC b P C+k*Eu P b+(Ba9 z P C+k*Eu P z):=by
 have g:=h.bil z;have j:Ao (fun e=>(z e+b e)*Au C e) (Ah P)=Ao (fun e=>z e*Au C e) (Ah P)+Ao (fun e=>b e*Au C e) (Ah P):=by
  rw[<-Ea];exact A7 fun e _=>by grind
 have m:Eu P (fun e=>z e+b e)=Eu P z+(Ao (fun p=>z (some p)*b (some p)) P*2+Eu P b):=by
  unfold Eu;rw[<-Fg,<-Ea,<-Ea];exact A7 fun p _=>by grind
 unfold sqC;rw[Anb,j,m,g];grind
def S7 (P:List Par)(b:Option Par->Rat):0<=Eu P b:=Ab1 fun p _=>by
 rcases A5s (a:=0) (b:=b (some p)) with h|h
 ·exact Azv h h
 have:=Azv (a:=-b (some p)) (b:=-b (some p)) (by grind) (by grind);grind
def Fj.least (h:Fj P C k b)(j:0<=k)(hp:∀ z,0<=Ba9 z P C)(d:Option Par->Rat):sqC b P C+k*Eu P b<=sqC d P C+k*Eu P d:=by
 have g:=h.loss fun e=>d e-b e;have e:(fun e=>d e-b e+b e)=d:=funext fun e=>by grind
 rw[e]at g;have m:=hp fun e=>d e-b e;have n:=Azv j (S7 P fun e=>d e-b e);grind
def Vr (j:0<k)(n:0<C.c)(hp:∀ z,0<=Ba9 z P C)(t:∀ e∈Ah P,Ao (fun f=>Ar C e f*z f) (Ah P)+Hc k z e=0):∀ e∈Ah P,z e=0:=by
 have F:Bbg z z P C+k*Eu P z=0:=by
  have:Bbg z z P C=Ao (fun e=>(-1)*(z e*Hc k z e)) (Ah P):=A7 fun e g=>by have:=t e g;grind
  rw[this,Dp,O0];have E:Ao (fun p=>z (some p)*Hc k z (some p)) P=k*Eu P z:=by unfold Eu;rw[<-Dp];exact A7 fun p _=>by unfold Hc;grind
  rw[E];unfold Hc;grind
 rw[<-Oq]at F;have K:=hp z;have H:=S7 P z;have L:=Azv (A4f j) H;have I:Eu P z=0:=by
  have:k*Eu P z=0:=by grind
  rcases A2w.1 this with e|e
  ·rw[e]at j;exact absurd j jV
  exact e
 have m:∀ p∈P,z (some p)=0:=fun p hp=>by
  have:=U1 (fun q _=>by
   rcases A5s (a:=0) (b:=z (some q)) with h|h
   ·exact Azv h h
   have:=Azv (a:=-z (some q)) (b:=-z (some q)) (by grind) (by grind);grind) I p hp
  rcases A2w.1 this with e|e<;>exact e
 have J:z none=0:=by
  have:=t none (by unfold Ah;simp);rw[O0,Ca fun p hp=>by rw[m p hp,A7w]]at this;have e:C.c*z none=0:=by
   have u:Ar C none none=C.c:=rfl;rw[u]at this;unfold Hc at this;grind
  rcases A2w.1 e with e|e
  ·rw[e]at n;exact absurd n jV
  exact e
 intro e g;unfold Ah at g;rcases Ay7.1 g with rfl|g
 ·exact J
 obtain⟨p,hp,rfl⟩:=Ayx.1 g;exact m p hp
end
theorem L6 {T:List (List UInt8×Nat)}{F:List Am}{lab:Int}(hF:C5 T F lab)(h1:-1<=lab)(h2:∀ l:Nat,lab=(l:Int)->l<T.length)(z:Option Par->Rat)(P:List Par):∀ {L:List Fx},(∀ y∈L,Cd T y.1)->0<=Ba9 z P (Ce F lab L):=by
 intro L;induction L using J0 with
 |h0=>exact fun _=>by show 0<=Ba9 z P (CF.num 0);rw[Ad6.norm z P];exact A9k
 |h1 L y ih =>
  intro h;have i1:=ih fun z hz=>h z (A0x _ hz);have hy:=h y mV;have hlen:=hy.len;rw[Er,Yn];rcases Lr hF hy h1 (fun l hl=>by have:=h2 l hl;omega) with ⟨_,o⟩|⟨_,o⟩
  ·rw[o.norm];generalize T3 z P (cfT F lab y.1).s=v;have hw:(0:Rat)<=(y.2.1:Rat):=by
    have:((0:Nat):Rat)<=(y.2.1:Rat):=A2r.2 (Azh _);exact this
   have hv:0<=v*v:=by
    rcases A5s (a:=0) (b:=v) with h|h
    ·exact Azv h h
    ·have:=Azv (a:=-v) (b:=-v) (by grind) (by grind);grind
   have:=Azv hv hw;grind
  ·rw[o.norm];grind
end
section
variable {F:List Am}{n:Nat}
section
variable {P:Program} [A5 P] {fn:Func} {Post:By} {st:List KI×S} {u m:PH}
def G.storeE {t:TypeId}(sz i:Nat)(m0:PH)(es:List Value)(g n c j:Nat)(e K x:Value)(h:Aj P (adv P st)=.store (some 1) (.pointer (some ⟨g,0+j*sz+i,none⟩)) x)(ha:Af m0 m (.slice (some ⟨g,0,none⟩) n c) t sz es)(hj:es[j]?=some e)(hi:i<sz)(R:K.cells.toList=e.cells.toList.set i x)(U:x.cells = #[x])(O:Az x=true)
 (k:∀ Y,Af m0 Y (.slice (some ⟨g,0,none⟩) n c) t sz (es.set j K)->G P fn Post (nx (adv P st) undef) u Y):G P fn Post st u m:=by
 obtain⟨C,hh⟩:=ha;obtain⟨E,rfl⟩:=Ayu.1 hj;rcases hh with ⟨hn,_,_⟩|⟨g',cap,rest,h0,rfl,X,hc,hl,W⟩
 ·cases hn
 simp only[Value.slice.injEq,Ayz,Addr.mk.injEq]at X;obtain⟨⟨rfl,_⟩,rfl,rfl⟩:=X;have N:=(C _ (Ay8 E)).1;have Q:=(C _ (Ay8 E)).2;have L:=Bb C;have a0:j*sz+sz<=es.length*sz:=by
  have:=Az7 sz E;rw[Nat.succ_mul]at this;exact this
 have I:K.cells.size=sz:=by
  rw[<-A1m,R,A1o,A1m];exact N
 have J:Ba sz (es.set j K):=C.set ⟨I,fun y H=>by
  rw[R]at H;rcases A5i H with H|rfl
  ·exact Q y H
  exact O⟩
 refine G.storeM 1 g (0+j*sz+i) t (A6 es++rest) x h (Ab _ _ _) (fun y H=>?_) (by rw[Ay3,L];omega) (by rw[U];rfl) (by rw[U];simp[O]) ?_
 ·rcases Ay5.1 H with H|H
  ·exact Fp C y H
  exact W y H
 rw[Cw];have e1:(A6 es++rest).take (0+j*sz+i)++x.cells.toList++(A6 es++rest).drop (0+j*sz+i+1)=A6 (es.set j K)++rest:=by
  have h1:A6 (es.set j K)=(A6 es).set (j*sz+i) x:=by
   have q1:=Q2 (e:=K) C I E;have Z:=Q2 (e:=es[j]) C N E;rw[A8e]at Z;rw[q1,R]
   conv=>rhs;rw[Z]
   have T:((A6 es).take (j*sz)).length=j*sz:=by rw[Ay1,L];omega
   have V:es[j].cells.toList.length=sz:=by simpa using N
   rw[Azm,Azm,A2j _ _ oV,T,Nat.add_sub_cancel_left,A6t _ _ oV]
  have h2:(A6 es++rest).set (j*sz+i) x=(A6 es).set (j*sz+i) x++rest:=A6t _ _ oV;rw[h1,<-h2,List.set_eq_take_append_cons_drop,if_pos (by rw[Ay3];omega),U,A0h];simp
 rw[e1];refine k _ ⟨J,.inr ⟨g,c,rest,h0,rfl,by rw[A1o],by rw[A1o];exact hc,?_,W⟩⟩;rw[Ay3,Bb J,A1o,<-L,<-Ay3];exact hl
end
def Axh {u:PH}{v:Value}{a:Nat}(h:Ac u v 3 (F.map Ch))(Y:F.length<=1000000):Fn0 prog 96 [v,.int .i64 a] u fun r _=>r=.bool (F.any fun f=>f.1==a):=by
 obtain⟨X,O,rfl⟩:=h.opn;rw[Ayt]at h⊢;refine Fn0.o func96<|G.l (ι:=Nat) (fun i=>[(1,iV a),(7,sV X F.length O),(8,iV F.length),(9,iV i)]) (fun _=>[])
  (fun i u' U=>i<=F.length/\(∀ j f,j<i->F[j]?=some f->f.1≠a)/\U=PH.mt) (fun i=>F.length-i) 0 ⟨oV,fun j f E=>oV,rfl⟩ ?_
 rintro J i R u2 Z l2 ⟨hi,h0,rfl⟩;by_cases C:i<F.length
 ·refine G.lT i F.length ?_;obtain⟨f,t⟩:∃ f,F[i]?=some f:=⟨_,Ayr C⟩;obtain⟨K,L,rfl,Q⟩:=Ac.at' (h.mono l2) (j:=i) (e:=Ch f) (by simp[t]);obtain⟨H,V,W⟩:=f;refine G.a K L F.length O i 3 C<|G.lU (some 3) K (L+i*3) (.agg #[.int .i64 H,.int .i64 V,.int .i64 W]) Q ?_;by_cases N:H=a
  ·refine G.eT H a ?_;exact G.r (.bool true) ⟨rfl,by
    rw[A4c.2 ⟨_,Ay9 t,by simpa using N⟩]⟩
  refine G.eF H a<|G.i i ?_;exact G.b (R (i+1) _ _ _ cV l2 ⟨oV,fun j g E I=>by
   rcases (by omega:j<i\/j=i) with e|rfl
   ·exact h0 j g e I
   rw[t]at I;cases I;exact N,rfl⟩ oV)
 obtain rfl:i=F.length:=oV;refine G.lF F.length F.length ?_;exact G.r (.bool false) ⟨rfl,by
  rw[A54.2 fun f T=>by
   obtain⟨j,E,rfl⟩:=Az9 T;simpa using h0 j _ E (Ayr E)]⟩
def nmB (j:Nat):List UInt8:=[98]++[Yf j]
def Aoh {j:Nat}(h:j<26):Ha (nmB j)=true:=by
 have e:∀ n:Fin 26,Ha (nmB n.val)=true:=jV
 exact e ⟨j,h⟩
def Asc {l:List Nat}(j:∀ a∈l,a<n)(t:∀ (k:Nat) x y,l[k]?=some x->l[k+1]?=some y->x<y):l.length<=n:=by
 have h:∀ k (g:k<l.length),k<=l[k]:=by
  intro k;induction k with
  |zero=>intro _;omega
  |succ k ih =>
   intro g;have:=ih oV;have:=t k _ _ (Ayr oV) (Ayr g);omega
 rcases Azx l.length with e|e
 ·omega
 have C:=h (l.length-1) oV;have E:=j _ (Ay8 (show l.length-1<l.length by omega));omega
def Apy {u L:PH}{C:List Bu}{r:Bu}{I:Option Addr}{J:Nat}(h:Pf u n (C++[r]))(Q:PH.le u L)(R:n<=900)(O:Ac L (.slice I (r.2.1++[n]).length J) 1 (Ai (r.2.1++[n]))):Pf L (n+1) (C++[(r.1,r.2.1++[n],(I,J))]):=by
 have H:r∈C++[r]:=mV;have h0:∀ x∈C,x∈C++[r]:=fun x g=>A0x _ g;have split:∀ x,x∈C++[(r.1,r.2.1++[n],(I,J))]->x∈C\/x=(r.1,r.2.1++[n],(I,J)):=fun x g=>by
  rcases Ay5.1 g with g|g
  ·exact .inl g
  exact .inr (by simpa using g)
 refine⟨?_,?_,?_,?_,?_,?_,?_⟩
 ·have:=h.names;rw[Aza]at this⊢;exact this
 ·intro x g;rcases split x g with g|rfl
  ·exact h.ne x (h0 x g)
  simp
 ·intro x g a j;rcases split x g with g|rfl
  ·have:=h.lt x (h0 x g) a j;omega
  rcases Ay5.1 j with j|j
  ·have:=h.lt r H a j;omega
  simp at j;omega
 ·intro x g;rcases split x g with g|rfl
  ·exact h.len x (h0 x g)
  have:=Asc (h.lt r H) (h.asc r H);simp only[Ay3,A0u];omega
 ·intro x g k a b j t;rcases split x g with g|rfl
  ·exact h.asc x (h0 x g) k a b j t
  simp only at j t;rcases Az8 (k+1) r.2.1.length with N|N
  ·rw[Azi oV]at j t;exact h.asc r H k a b j t
  rw[Azy N]at t;have K:k+1-r.2.1.length=0:=by
   obtain⟨q,_⟩:=Ayu.1 t;simp at q;omega
  rw[K]at t;simp at t;subst t;rw[Azi oV]at j;exact h.lt r H a (Ay9 j)
 ·intro a j;by_cases e:a=n
  ·subst e;exact⟨_,by simp;right;rfl,mV⟩
  obtain⟨x,g,E⟩:=h.all a oV;rcases Ay5.1 g with g|g
  ·exact⟨x,A0x _ g,E⟩
  simp at g;subst g;exact⟨_,by simp;right;rfl,A0x _ E⟩
 intro x g;rcases split x g with g|rfl
 ·exact (h.at' x (h0 x g)).mono Q
 exact O
def An1 {u I:PH}{T:List (List UInt8×Nat)}{R E:List Bu}{lab:Int}(ok:Bt u T R F lab)(hT:T.length<=11)(O:∀ a∈T,a.1≠nmB T.length)(K:Pf I (T.length+1) E)(C:E.length=R.length):Bt I (T++[(nmB T.length,2)]) E F lab:=by
 have Q:=Aoh (j:=T.length) oV;refine⟨⟨⟨?_,?_⟩,?_⟩,?_,⟨?_,ok.feat.nodup⟩,?_,?_,?_,?_,ok.f2,ok.l1,?_⟩
 ·intro s h;rw[Aza]at h;rcases Ay5.1 h with h|h
  ·exact ok.att.names.word s h
  simp at h;subst h;exact Q
 ·rw[Aza,A1h];refine⟨ok.att.names.nodup,mV,fun a g b H e=>?_⟩;simp at H;obtain⟨x,U,rfl⟩:=Ayx.1 g;exact O x U (e.trans H)
 ·intro a g;rcases Ay5.1 g with g|g
  ·exact ok.att.kind a g
  simp at g;subst g;exact⟨mV,mV⟩
 ·rw[Ay3];exact K
 ·intro f L;obtain⟨n,k,t,J⟩:=ok.feat.ok f L;exact⟨n,k,by rw[Azi (Ayu.1 t).1];exact t,J⟩
 ·rw[Ay3];simp
 ·rw[Ay3];simp;omega
 ·rw[C];exact ok.r1
 ·rw[C];exact ok.r2
 intro l N;obtain⟨n,t⟩:=ok.l2 l N;exact⟨n,by rw[Azi (Ayu.1 t).1];exact t⟩
end
def Vn (T:List (List UInt8×Nat)):Ba 2 (T.map Dz):=by
 intro e h;obtain⟨x,_,rfl⟩:=Ayx.1 h;exact⟨rfl,fun y g=>by simp[Dz,Value.cells]at g;rcases g with rfl|rfl<;>rfl⟩
def Apn (R:List Bu):Ba 2 (R.map Hq):=by
 intro e g;obtain⟨x,_,rfl⟩:=Ayx.1 g;exact Rk x _ mV
def Auc {u:PH}{v:Value}{T:List (List UInt8×Nat)}{R:List Bu}{F:List Am}{lab:Int}(hX:G8 u v T R F lab)(ok:Bt u T R F lab)(hT:T.length<=11)(hn:∀ a∈T,a.1≠nmB T.length) :
 Fn0 prog 97 [v,.int .i64 2] u fun r u'=>∃ R',G8 u' r (T++[(nmB T.length,2)]) R' F lab/\Bt u' (T++[(nmB T.length,2)]) R' F lab:=by
 obtain⟨xa,xc,xb,xd,xe,xf,rfl,a5,a3,a0⟩:=hX;have r1:=ok.r1;have r2:=ok.r2;obtain⟨h,r,rfl⟩:∃ h r,R=h++[r]:=⟨R.dropLast,R.getLast (fun e=>by rw[e]at r1;simp at r1),(List.dropLast_concat_getLast _).symm⟩;have aa:=ok.rel.at' r mV;have af:=ok.rel.len r mV;refine Fn0.o func97<|G.appendL 162 2 24 (.agg #[.string (mkS []),.int .i64 0]) PH.mt [] (T.map Dz) (.slice none 0 0) xa T.length xc kV rfl rfl oV (Af.nil _ _ _) a5 (Vn T) gV gV ?_;intro v1 m1 I;rw[A00]at I;obtain⟨a1,c1,rfl⟩:=I.shape;rw[Ayt]at I⊢;refine G.c call167 (Ql (p:=[98]) (i:=T.length) oV mV) ?_;rintro v2 u2 l2 rfl;refine G.B 162 2 24 (.agg #[.string (mkS []),.int .i64 0]) [.agg #[.string (mkS ([98]++[Yf T.length])),.int .i64 2]] (Vn [(nmB T.length,2)]) ?_;intro g3 u3 l3 e3;refine G.k 162 2 24 (.agg #[.string (mkS []),.int .i64 0]) PH.mt (T.map Dz) [Dz (nmB T.length,2)] (.slice a1 T.length c1) g3 0 1 1 I e3 (Vn [(nmB T.length,2)]) ?_;intro v4 m4 J;rw[show T.map Dz++[Dz (nmB T.length,2)]=(T++[(nmB T.length,2)]).map Dz by rw[Aza];rfl]at J;obtain⟨a4,c4,rfl⟩:=J.shape;rw[Ayt]at J⊢;refine G.appendL 164 2 40 (.agg #[.string (mkS []),.slice none 0 0]) m4 [] ((h++[r]).map Hq) (.slice none 0 0) xb (h++[r]).length xd kV rfl rfl oV (Af.nil _ _ _) (a3.mono (l2.trans l3)) (Apn _) (by rw[Ayt];simp at r2⊢;omega) (by rw[Ayt];simp at r2⊢;omega) ?_;intro v5 m5 n;rw[A00]at n;obtain⟨H,Q,rfl⟩:=n.ptr mV;rw[Ayt]at n⊢;have ae:(h++[r]).length=h.length+1:=mV
 refine G.s ((h++[r]).length:Int) 1 (h.length:Int)<|G.a H 0 (h++[r]).length Q h.length 2 oV ?_;have a7:ElP m5 H (0+h.length*2) (Hq r):=n.el mV;refine G.f 164 H (0+h.length*2) 1 1<|G.lM none H (0+h.length*2+1) (.slice r.2.2.1 r.2.1.length r.2.2.2) (a7.fld (j:=1) (xs:=#[.string (mkS r.1),.slice r.2.2.1 r.2.1.length r.2.2.2]) rfl rfl) ?_;have C:(Ai r.2.1).length=r.2.1.length:=by simp[Ai]
 refine G.appendL 3 1 8 (.int .i64 0) m5 [] (Ai r.2.1) (.slice none 0 0) r.2.2.1 r.2.1.length r.2.2.2 kV rfl rfl oV (Af.nil _ _ _) (aa.mono (l2.trans l3)) (A8 _) (by simp[C];omega) (by simp[C];omega) ?_;intro v6 m6 K;rw[A00]at K;obtain⟨a6,c6,rfl⟩:=K.shape;rw[C]at K⊢;refine G.buildU 3 1 8 (.int .i64 0) (Ai [T.length]) kV (A8 [T.length]) rfl oV (by simp[Ai]) (by simp[Ai]) ?_;intro g7 u7 l7 e7;refine G.append 3 1 8 (.int .i64 0) m5 (Ai r.2.1) (Ai [T.length]) (.slice a6 r.2.1.length c6) g7 0 1 1 kV rfl rfl oV K e7 (A8 [T.length]) rfl oV (by simp[C];omega) (by simp[C];omega) ?_;intro v8 m8 L;rw[show Ai r.2.1++Ai [T.length]=Ai (r.2.1++[T.length]) by simp[Ai]]at L;obtain⟨O,P,rfl⟩:=L.shape;have U:(Ai (r.2.1++[T.length])).length=(r.2.1++[T.length]).length:=by simp[Ai]
 rw[U]at L⊢;obtain⟨mx,X,ab,W⟩:=At.swap (x:=⟨.slice (some ⟨H,0,none⟩) (h++[r]).length Q,164,2,(h++[r]).map Hq⟩) (y:=⟨.slice O (r.2.1++[T.length]).length P,3,1,Ai (r.2.1++[T.length])⟩) L n;refine G.f 164 H (0+h.length*2) 1 1<|G.storeE (t:=164) 2 1 mx ((h++[r]).map Hq) H (h++[r]).length Q h.length (Hq r) (Hq (r.1,r.2.1++[T.length],(O,P))) (.slice O (r.2.1++[T.length]).length P) kV ab mV oV rfl rfl rfl ?_;intro Z N;have e9:((h++[r]).map Hq).set h.length (Hq (r.1,r.2.1++[T.length],(O,P)))=(h++[(r.1,r.2.1++[T.length],(O,P))]).map Hq:=by
  rw[Aza,Aza,A2j _ _ mV,Ayt,A20];rfl
 rw[e9]at N;have V:PH.le mx Z:=fun g o hg=>N.see hg;obtain⟨my,ag,ah⟩:=W ⟨.slice (some ⟨H,0,none⟩) (h++[r]).length Q,164,2,(h++[(r.1,r.2.1++[T.length],(O,P))]).map Hq⟩ Z N;have a9:PH.le m4 Z:=fun g o hg=>V g o (X.see hg);refine G.giveP (ma:=Z) (sm:=PH.mt) kV (Ajl Z).symm (fun g=>.inr rfl) (fun g=>.inl rfl) ?_;intro ad ac E;have Y:=((l2.trans l3).trans l7).trans ac;have a2:Pf ad (T.length+1) (h++[(r.1,r.2.1++[T.length],(O,P))]):=Apy ok.rel Y oV (Af.list X (V.trans E));have m:(h++[(r.1,r.2.1++[T.length],(O,P))]).length=(h++[r]).length:=mV
 exact G.r (.agg #[.slice a4 (T++[(nmB T.length,2)]).length c4,.slice (some ⟨H,0,none⟩) (h++[r]).length Q,.slice xe F.length xf,.int .i64 lab]) ⟨rfl,_,⟨_,_,_,_,_,_,by rw[m],Af.list J (a9.trans E),by rw[m];exact Af.list N E,a0.mono Y⟩,An1 ok hT hn a2 m⟩
section
variable {R:List Bu}{T:List (List UInt8×Nat)}{a:Nat}{lab:Int}{n:List UInt8}{u:PH}
def Akv (T:List (List UInt8×Nat)):Prop:=∀ a∈T,(∃ j,a.1=nmA j)\/∃ j,j<T.length/\a.1=nmB j
def Aoo (h:Akv T)(hT:T.length<26):∀ a∈T,a.1≠nmB T.length:=by
 intro a E e;rcases h a E with ⟨j,g⟩|⟨j,g,m⟩
 ·rw[g]at e;unfold nmA nmB at e;simp at e
 rw[m]at e;unfold nmB at e;simp only[A11,A00,A0f,and_true,true_and]at e;have t:=Vi (i:=j) oV;have C:=Vi (i:=T.length) hT;rw[e,C]at t;omega
def Akv.snoc (h:Akv T)(k:Nat):Akv (T++[(nmB T.length,k)]):=by
 intro a g;rcases Ay5.1 g with g|g
 ·rcases h a g with m|⟨j,t,e⟩
  ·exact .inl m
  exact .inr ⟨j,gV,e⟩
 simp at g;subst g;exact .inr ⟨T.length,mV,rfl⟩
def TOK.nmOK (h:TOK T):Akv T:=by
 intro a g;have:a.1∈T.map (·.1):=Ayx.2 ⟨a,g,rfl⟩;rw[h.nm]at this;obtain⟨j,_,e⟩:=Ayx.1 this;exact .inl ⟨j,e.symm⟩
def Ajx {F:List Am}(ok:Bt u T R F lab)(j:T[a]?=some (n,2))(hF:∀ f∈F,f.1≠a):Bt u T R F (a:Int):=by
 refine⟨ok.att,ok.rel,⟨fun f e=>?_,ok.feat.nodup⟩,ok.t1,ok.t2,ok.r1,ok.r2,ok.f2,oV,fun l m=>?_⟩
 ·obtain⟨n,k,g,h,_⟩:=ok.feat.ok f e;have:=hF f e;exact⟨n,k,g,h,oV⟩
 have:l=a:=oV;subst this;exact⟨n,j⟩
def Aoa (ok:Bt u T R [] lab){a g:Nat}(h:T[a]?=some (n,2))(j:(a:Int)≠lab)(m:g<=1):Bt u T R [(a,1,g)] lab:=by
 refine⟨ok.att,ok.rel,⟨fun f e=>?_,mV⟩,ok.t1,ok.t2,ok.r1,ok.r2,mV,ok.l1,ok.l2⟩;simp at e;subst e;exact⟨n,2,h,.inl ⟨rfl,rfl,m⟩,j⟩
def Aa6 {s:Src}{ts:List Int}{k:Nat}(most:Nat)(aa:1<=most)(ae:most<=6)(h:Ig u s ts)(hk:k<=s.n) :
 Ag prog 43 [s.ptr,.int .i64 most] u (s.M k) fun v H P=>∃ (T:List (List UInt8×Nat)) (R:List Bu) (F:List Am) (lab:Int) (k':Nat),G8 H v T R F lab/\Bt H T R F lab/\T.length<=8/\0<=lab/\F≠[]/\k'<=s.n/\P=s.M k'/\F.length<=most:=by
 refine Ag.o func43<|G.A call95 (Ado most aa ae h hk) ?_;rintro v1 u1 m1 l1 ⟨T,R,F,lab,k1,hX,ok,aj,a7,rfl,I,_,ab⟩ _;rw[Bw];have m:=I.nmOK;obtain⟨Q,L,V,W,X,Y,rfl,O,a0,E⟩:=id hX;have al:=ok.l1;have ak:=ok.f2;refine G.joinF (ι:=Int) (fun st=>Acz prog st [.bool false]) (fun z=>[(0,.v s.ptr),(4,.p 0 0),(5,.p 1003 0)])
  (fun z=>[(0,⟨30,[sV none 0 0,sV none 0 0,sV none 0 0,iV 0]⟩),(1003,⟨30,[sV Q T.length L,sV V R.length W,sV X F.length Y,iV z]⟩)])
  (fun z H P=>P=s.M k1/\Bt H T R F z) (fun _=>kV) kV ?tail ?way
 case way =>
  intro g;by_cases hl:lab<0
  ·refine G.lT' lab 0 hl<|G.l (ι:=Nat×Int) (fun i=>[(0,.v s.ptr),(4,.p 0 0),(5,.p 1003 0),(15,sV Q T.length L),(16,iV T.length),(17,iV i.1)])
    (fun i=>[(0,⟨30,[sV none 0 0,sV none 0 0,sV none 0 0,iV 0]⟩),(1003,⟨30,[sV Q T.length L,sV V R.length W,sV X F.length Y,iV i.2]⟩)])
    (fun i H P=>i.1<=T.length/\P=s.M k1/\Bt H T R F i.2) (fun i=>T.length-i.1) (0,lab) ⟨oV,rfl,ok⟩ ?_
   rintro J ⟨i,z⟩ hJ u2 m2 l2 ⟨hi,rfl,ok2⟩;simp only at hi ok2 hJ;by_cases a9:i<T.length
   ·refine G.lT i T.length ?_;obtain⟨x,a5⟩:∃ x,T[i]?=some x:=⟨_,Ayr a9⟩;obtain⟨ba,oa,rfl,ea⟩:=Ac.at' (O.mono l2) (j:=i) (e:=Dz x) (by simp[a5]);obtain⟨xn,xk⟩:=x;refine G.a ba oa T.length L i 2 a9<|G.lU (some 2) ba (oa+i*2) (.agg #[.string (mkS xn),.int .i64 xk]) ea ?_;by_cases h2:xk=2
    ·subst h2;refine G.eT (2:Nat) 2<|G.c call96 (Axh (a:=i) (E.mono l2) oV) ?_;rintro v3 u3 K rfl;cases hu:F.any fun f=>f.1==i with
     |true =>
      exact G.i i<|G.b (hJ (i+1,z) _ _ _ cV (l2.trans K) ⟨dV,rfl,ok2.mono K⟩ dV)
     |false =>
      refine G.i i ?_;exact G.b (hJ (i+1,(i:Int)) _ _ _ cV (l2.trans K) ⟨dV,rfl,Ajx (ok2.mono K) a5 fun f hf e=>by
       have:=A54.1 hu f hf;simp[e]at this⟩ dV)
    exact G.eF xk 2<|G.i i<|G.b (hJ (i+1,z) _ _ _ cV l2 ⟨dV,rfl,ok2⟩ dV)
   obtain rfl:i=T.length:=oV;refine G.lF T.length T.length ?_;exact g z _ _ _ kV cV l2 ⟨rfl,ok2⟩
  refine G.lF lab 0 ?_;exact g lab _ _ _ kV cV (PH.le_refl _) ⟨rfl,ok⟩
 rintro z u2 m2 l2 ⟨rfl,ok2⟩;have a6:G8 u2 (.agg #[.slice Q T.length L,.slice V R.length W,.slice X F.length Y,.int .i64 z]) T R F z:=⟨_,_,_,_,_,_,rfl,O.mono l2,a0.mono l2,E.mono l2⟩;have ah:=E.mono l2;clear hX O a0 ok I E;refine G.joinF (ι:=(List (List UInt8×Nat)×(Option Addr×Nat))×(List Bu×(Option Addr×Nat))×(Option Addr×Nat)×Int) (fun st=>Acz prog st [.bool false]) (fun _=>[(0,.v s.ptr),(4,.p 0 0),(5,.p 1003 0)])
  (fun i=>[(0,⟨30,[sV none 0 0,sV none 0 0,sV none 0 0,iV 0]⟩),(1003,⟨30,[sV i.1.2.1 i.1.1.length i.1.2.2,sV i.2.1.2.1 i.2.1.1.length i.2.1.2.2,sV i.2.2.1.1 F.length i.2.2.1.2,iV i.2.2.2]⟩)])
  (fun i H P=>P=s.M k1/\Bt H i.1.1 i.2.1.1 F i.2.2.2/\G8 H (.agg #[.slice i.1.2.1 i.1.1.length i.1.2.2,.slice i.2.1.2.1 i.2.1.1.length i.2.1.2.2,.slice i.2.2.1.1 F.length i.2.2.1.2,.int .i64 i.2.2.2]) i.1.1 i.2.1.1 F i.2.2.2/\Akv i.1.1/\i.1.1.length<=7/\0<=i.2.2.2) (fun _=>kV) kV ?tail2 ?way2
 case way2 =>
  intro g;by_cases hl:z<0
  ·refine G.lT' z 0 hl<|G.c call97 (Auc a6 ok2 oV (Aoo m oV)) ?_;rintro v3 u3 K ⟨U,C,t⟩;obtain⟨ya,yc,yb,yd,ye,yf,rfl,a3,a1,Z⟩:=id C;have a8:(T++[(nmB T.length,2)]).length=T.length+1:=mV;refine G.s ((T++[(nmB T.length,2)]).length:Int) 1 (T.length:Int) ?_;have ok4:Bt u3 (T++[(nmB T.length,2)]) U F (T.length:Int):=Ajx t (n:=nmB T.length) mV fun f hf e=>by
    obtain⟨n,kd,h1,_⟩:=ok2.feat.ok f hf;have:=(Ayu.1 h1).1;omega
   exact g ((T++[(nmB T.length,2)],(ya,yc)),(U,(yb,yd)),(ye,yf),(T.length:Int)) _ _ _ kV cV K ⟨rfl,ok4,⟨_,_,_,_,_,_,rfl,a3,a1,Z⟩,m.snoc 2,dV,dV⟩
  refine G.lF z 0 ?_;exact g ((T,(Q,L)),(R,(V,W)),(X,Y),z) _ _ _ kV cV (PH.le_refl _) ⟨rfl,ok2,a6,m,dV,dV⟩
 rintro⟨⟨T,⟨Q,L⟩⟩,⟨R,⟨V,W⟩⟩,⟨X,Y⟩,z⟩ u3 m3 K ⟨rfl,t,C,m,hT7,hz⟩;simp only at t C m hT7 hz;by_cases N:F = []
 ·subst N;refine G.eT' ((([]:List Am).length:Nat):Int) 0 rfl<|G.c call97 (Auc C t oV (Aoo m oV)) ?_;rintro v4 u4 l4 ⟨U,ac,ok4⟩;obtain⟨ya,yc,yb,yd,ye,yf,rfl,a4,a2,ai⟩:=id ac;have a8:(T++[(nmB T.length,2)]).length=T.length+1:=mV;refine G.s ((T++[(nmB T.length,2)]).length:Int) 1 (T.length:Int)<|G.A call48 (Jd (n:=2) (h.mono (((l1.trans l2).trans K).trans l4)) a7 oV oV) ?_;rintro v5 u5 m5 l5 ⟨r,k5,rfl,hr,ad,rfl⟩ _;rw[Bw];refine G.B 105 3 24 (.agg #[.int .i64 0,.int .i64 0,.int .i64 0]) [.agg #[.int .i64 T.length,.int .i64 1,.int .i64 r]] (Ju (T.length,1,r)) ?_;intro g6 u6 l6 e6;have af:((T.length:Nat):Int)≠z:=by
   intro e;obtain⟨n,hn⟩:=t.l2 T.length e.symm;have:=(Ayu.1 hn).1;omega
  have ag:Bt u6 (T++[(nmB T.length,2)]) U [(T.length,1,r)] z:=Aoa (n:=nmB T.length) (ok4.mono (l5.trans l6)) mV af oV;exact G.r (.agg #[.slice ya (T++[(nmB T.length,2)]).length yc,.slice yb U.length yd,.slice (some ⟨g6,0,none⟩) 1 1,.int .i64 z]) ⟨_,U,[(T.length,1,r)],z,k5,⟨_,_,_,_,_,_,rfl,a4.mono (l5.trans l6),a2.mono (l5.trans l6),e6.listP⟩,ag,oV,hz,mV,ad,rfl,aa⟩
 refine G.eqlF (F.length:Int) 0 kV (by
  have:F.length≠0:=fun e=>N (A7y.1 e);omega) ?_
 exact G.r (.agg #[.slice Q T.length L,.slice V R.length W,.slice X F.length Y,.int .i64 z]) ⟨T,R,F,z,k1,C,t,oV,hz,N,a7,rfl,ab⟩
end
def Auh {n:Nat}(h:n<=8):1374926400^n*7*100<10^100:=by
 have e:1374926400^n<=1374926400^8:=Azr oV h;have g:1374926400^8<10^80:=jV
 have j:(10:Nat)^80*100000<10^100:=jV
 omega
def R7 {u:PH}{T:List (List UInt8×Nat)}{R:List Bu}{F:List Am}{lab:Int}(ok:Bt u T R F lab)(hT:T.length<=8){L:List Fx}(e:∀ y∈L,Cd T y.1/\y.2.1<=7)(g:L.length<=100):CFS (Ce F lab L)/\CFV (Ce F lab L):=by
 obtain⟨h,j⟩:=As1 ok e;refine⟨h.cfs oV ?_,j⟩;have hp:=Auh hT;have:=Az7 (1374926400^T.length*7) g;omega
section
variable {L:List Fx}
def Are {F:List Am}{lab:Int}:∀ p,(Ce F lab L).s p≠0->Ac1 F lab p:=fun p hp=>by
 obtain⟨y,g,e⟩:=Ajd hp;exact (Aat e).1
def WOK.tup {u:PH}{T:List (List UInt8×Nat)}(h:WOK u T L):∀ y∈L,Cd T y.1/\y.2.1<=7:=fun y e=>by
 obtain⟨_,g,_,j⟩:=h y e;exact⟨g,j⟩
end
section
variable {F:List Am}{T:List (List UInt8×Nat)}{lab:Int}
def Awk {ss:List (List UInt8)}{p:Par}{i:Nat}{f:Am}(hF:C5 T F lab)(Q:Cd T ss)(E:(cfT F lab ss).s p≠0)(hp:p.1=(i:Int))(I:F[i]?=some f)(P:f.2.1=2):p.2 = []\/Aev p.2=true:=by
 obtain⟨_,a,q,H,_⟩:=Aat E;have u:a<ss.length:=by
  have:=(Ayu.1 H).1;rwa[Gf]at this
 have e:=F1 (F:=F) (lab:=lab) (w:=ss[a]) (Ayr u);rw[H]at e;have m:Gd F lab a ss[a]=some (some (p,q)):=(A0j e).symm;obtain⟨x,R,L⟩:=Q.at u;generalize ss[a]=w at m L;by_cases K:(a:Int)=lab
 ·have N:Gd F lab a w=Pw w:=by unfold Gd;rw[if_pos K]
  rw[N]at m;unfold Pw at m;split at m
  ·cases m
  simp only[Ayz,Az0]at m;obtain⟨rfl,_⟩:=m;simp only at hp;omega
 rcases F8 (F:=F) (w:=w) K with t|⟨j,g,J,C,t⟩
 ·rw[t]at m;cases m
 rw[t]at m;have O:p.1=(j:Int):=by
  unfold Jt at m;split at m
  ·cases m;rfl
  split at m
  ·split at m<;>cases m
  cases m;rfl
 obtain rfl:j=i:=oV;rw[J]at I;cases I;unfold Jt at m;rw[if_pos P]at m;simp only[Ayz,Az0]at m;obtain⟨rfl,_⟩:=m;obtain⟨n,k,t,U,_⟩:=hF.ok f (Ay9 J);rw[C,R]at t;cases t;rcases L with h|⟨_,h⟩|⟨h,_⟩|⟨h,_⟩
 ·exact .inl h
 ·exact .inr h
 ·omega
 omega
def Ac8 {α β:Type}{f:α->List β}{n:Nat}:∀ {l:List α},(∀ x∈l,(f x).length<=n)->(l.flatMap f).length<=l.length*n
 |[],_=>mV
 |x::l,h=>by
  rw[A40,Ay3,A0q,Azt,A1k];have g:=h x mV;have j:=Ac8 (l:=l) fun y e=>h y (by simp[e]);omega
def Asn {L:List Fx}{P:List Par}(hF:C5 T F lab)(hT:∀ y∈L,Cd T y.1)(C:Iy F (Ce F lab L) P):P.length<=F.length*4:=by
 have e:P ⊆ (List.range F.length).flatMap fun (i:Nat)=>[((i:Int),([]:List UInt8)),((i:Int),Afl),((i:Int),Pp),((i:Int),Xq)]:=fun p hp=>by
  rcases (C.2 p).1 hp with ⟨i,f,rfl,m,_⟩|⟨t,i,f,g,m,E⟩
  ·exact A4d.2 ⟨i,by simpa using (Ayu.1 m).1,by unfold Ly;simp⟩
  refine A4d.2 ⟨i,by simpa using (Ayu.1 m).1,?_⟩;obtain⟨y,H,u⟩:=Ajd t;obtain⟨I,J⟩:=p;simp only at g;subst g;rcases Awk hF (hT y H) u rfl m E with h|h
  ·simp only at h;subst h;simp
  rcases Asj h with j|j|j<;>· simp only at j;subst j;simp
 have g:=List.Nodup.length_le_of_subset (C.1.nodup Dl) e;refine Ayv g ?_;have:=Ac8 (l:=List.range F.length) (n:=4) (f:=fun (i:Nat)=>[((i:Int),([]:List UInt8)),((i:Int),Afl),((i:Int),Pp),((i:Int),Xq)]) fun x _=>mV;rw[List.length_range]at this;exact this
end
section
variable {F:List Am}{R:List Bu}{T:List (List UInt8×Nat)}{lab:Int}{u:PH}
def Awg {ss:List (List UInt8)}(ok:Bt u T R F lab)(g:Cd T ss)(j:-1<=lab)(m:∀ l:Nat,lab=(l:Int)->l<ss.length)(n:Mo F lab ss=true)(p:Par):Dn 1 18540 ((cfT F lab ss).s p):=by
 by_cases h:(cfT F lab ss).s p=0
 ·rw[h];exact Dn.zero _ _
 obtain⟨_,a,q,e,_⟩:=Aat h;rw[Xn ok.feat g j m n e];exact (show SmW q/\PV p from N8 ok g _ (Ay9 e)).1.dn
def Awq {x:Par->Rat}(h:∀ p,Dn 1 18540 (x p)):∀ e,Dn 1 18540 (Ace x e)
 |none=>(show SmW 1 from⟨jV,jV⟩).dn
 |some p=>h p
structure G7 (N:Nat)(C:CF):Prop where
 c:∀ e f,Dn 2 N (Ar C e f)
 r:∀ e,Dn 2 N (Au C e)
 l:Dn 2 N (C.t (A2 B7 B7))
theorem I7 (ok:Bt u T R F lab)(h1:-1<=lab)(h2:∀ l:Nat,lab=(l:Int)->l<T.length):∀ {L:List Fx},(∀ y∈L,Cd T y.1/\y.2.1<=7)->G7 (L.length*2406121200) (Ce F lab L):=by
 intro L;induction L using J0 with
 |h0=>exact fun _=>⟨fun e f=>by rw[show Ce F lab []=CF.num 0 from rfl,Ad6.cell];exact Dn.zero _ _,fun e=>by cases e<;>exact Dn.zero _ _,Dn.zero _ _⟩
 |h1 L y ih =>
  intro h;have i1:=ih fun z hz=>h z (A0x _ hz);obtain⟨hy,hw⟩:=h y mV;have hlen:=hy.len;have hl:∀ l:Nat,lab=(l:Int)->l<y.1.length:=fun l e=>by have:=h2 l e;omega
  have one:G7 343731600 (cfT F lab y.1):=by
   rcases Lr ok.feat hy h1 hl with ⟨hc,o⟩|⟨_,o⟩
   ·have hd:=Awg ok hy h1 hl hc;have he:=Awq hd;exact⟨fun e f=>by rw[o.cell];exact (he e).mul (he f),fun e=>by rw[o.right];exact (hd B7).mul (he e),by rw[o.t];exact (hd B7).mul (hd B7)⟩
   ·have hn:cfT F lab y.1=cfT F lab y.1:=rfl;refine⟨fun e f=>by rw[o.cell];exact Dn.zero _ _,fun e=>?_,?_⟩
    ·cases e
     ·show Dn 2 343731600 ((cfT F lab y.1).s B7);rw[o.s];exact Dn.zero _ _
     ·show Dn 2 343731600 ((cfT F lab y.1).t _);rw[o.t];exact Dn.zero _ _
    ·rw[o.t];exact Dn.zero _ _
  have add:∀ {q r:Rat},Dn 2 (L.length*2406121200) q->Dn 2 343731600 r->Dn 2 ((L++[y]).length*2406121200) (q+r*(y.2.1:Rat)):=fun hq hr=>by
   refine (hq.add (hr.mul (Ami hw))).mono ?_;rw[Ay3,Azt];simp
  rw[Er];exact⟨fun e f=>by rw[O3];exact add (i1.c e f) (one.c e f),fun e=>by rw[Pk];exact add (i1.r e) (one.r e),add i1.l one.l⟩
theorem Af9 (hF:C5 T F lab)(h1:-1<=lab)(h2:∀ l:Nat,lab=(l:Int)->l<T.length)(z:Option Par->Rat)(P:List Par):∀ {L:List Fx},(∀ y∈L,Cd T y.1)->0<=sqC z P (Ce F lab L):=by
 intro L;induction L using J0 with
 |h0=>exact fun _=>by show 0<=sqC z P (CF.num 0);rw[Ad6.sq z P];exact A9k
 |h1 L y ih =>
  intro h;have i1:=ih fun z hz=>h z (A0x _ hz);have hy:=h y mV;have hlen:=hy.len;rw[Er,Aa5];rcases Lr hF hy h1 (fun l hl=>by have:=h2 l hl;omega) with ⟨_,o⟩|⟨_,o⟩
  ·rw[o.sq];generalize (cfT F lab y.1).s B7-T3 z P (cfT F lab y.1).s=v;have hw:(0:Rat)<=(y.2.1:Rat):=by
    have:((0:Nat):Rat)<=(y.2.1:Rat):=A2r.2 (Azh _);exact this
   have hv:0<=v*v:=by
    rcases A5s (a:=0) (b:=v) with h|h
    ·exact Azv h h
    ·have:=Azv (a:=-v) (b:=-v) (by grind) (by grind);grind
   have:=Azv hv hw;grind
  ·rw[o.sq];grind
end
section
variable {α:Type}
def Ah1 (l:List α)(d:α):l=(List.range l.length).map fun j=>l.getD j d:=by
 refine A6h mV fun j e g=>?_;simp[Ays,Ayr e]
def Py (f:α->Rat)(l:List α)(d:α):Ao f l=Ey l.length fun j=>f (l.getD j d):=by
 unfold Ey;rw[<-R2 (f:=f) (fun j=>l.getD j d),<-Ah1]
def Vf (n:Nat)(f g:Nat->Rat):Ey n (fun i=>f i+g i)=Ey n f+Ey n g:=Ea _
def Vs {n i:Nat}(t:Rat)(y:Nat->Rat):Ey n (fun j=>(if i=j/\0<i then t else 0)*y j)=if i<n/\0<i then t*y i else 0:=by
 induction n with
 |zero=>rw[S4,if_neg oV]
 |succ n ih =>
  rw[Hf,ih];by_cases h0:0<i
  ·by_cases g:i<n
   ·rw[if_pos ⟨g,h0⟩,if_neg oV,if_pos ⟨oV,h0⟩];grind
   by_cases e:i=n
   ·rw[if_neg oV,if_pos ⟨e,h0⟩,if_pos ⟨oV,h0⟩,e];grind
   rw[if_neg oV,if_neg oV,if_neg oV];grind
  rw[if_neg oV,if_neg oV,if_neg oV];grind
section
variable {P:List Par} {C:CF} {b:Option Par->Rat} {k:Rat} {N:Nat}
def Aiy (hc:G7 N C)(hN:N<=14436727200)(hP:P.length<=11)(hk:∃ p:Int,k*30=p/\p.natAbs<=90)(a0:0<k)(X:0<C.c)(Q:∀ z,0<=Ba9 z P C)(h:Fj P C k b) :
 ∃ D:Nat,0<D/\D<10^157/\∀ e∈Ah P,∃ z:Int,b e*(D:Rat)=z:=by
 obtain⟨p,hp,a2⟩:=hk;have m:=Bk P;obtain⟨E,u⟩:∃ E,E=Ah P:=⟨_,rfl⟩;rw[<-u]at m;have L:∀ i,i<P.length+1->E.getD i none∈Ah P:=fun i hi=>by
  rw[<-u,Ays,Ayr oV];exact Ay8 _
 have O:∀ i,i<P.length+1->0<i->∃ q,E.getD i none=some q:=fun i hi h0=>by
  obtain⟨j,rfl⟩:∃ j,i=j+1:=⟨i-1,oV⟩;rw[u];unfold Ah;rw[A3s,Ays,Ayy,Ayr oV];exact⟨_,rfl⟩
 have h0:E.getD 0 none=none:=by rw[u];rfl
 have R:∀ (f:Option Par->Rat),Ao f (Ah P)=Ey (P.length+1) fun j=>f (E.getD j none):=fun f=>by rw[Py f _ none,<-u,m]
 have K:∀ e f,∃ z:Int,Ar C e f*144=z/\z.natAbs<=N:=fun e f=>by
  obtain⟨z,t,I⟩:=hc.c e f;exact⟨z,by rw[<-t];congr 1,I⟩
 have a1:∀ e,∃ z:Int,Au C e*144=z:=fun e=>by
  obtain⟨z,t,I⟩:=hc.r e;exact⟨z,by rw[<-t];congr 1⟩
 generalize T:(fun e f=>(K e f).choose)=Z;have T:∀ e f,Ar C e f*144=Z e f/\(Z e f).natAbs<=N:=fun e f=>by rw[<-T];exact (K e f).choose_spec
 have hA:∀ i j,((Z (E.getD i none) (E.getD j none)*30+(if i=j/\0<i then p*144 else 0):Int):Rat)=4320*Ar C (E.getD i none) (E.getD j none)+(if i=j/\0<i then 4320*k else 0):=fun i j=>by
  have t:=(T (E.getD i none) (E.getD j none)).1;rw[A28,A0v,<-t];split
  ·rw[A0v,<-hp];simp;grind
  simp;grind
 have H:∀ (y:Option Par->Rat) i,i<P.length+1->Ey (P.length+1) (fun j=>((Z (E.getD i none) (E.getD j none)*30+(if i=j/\0<i then p*144 else 0):Int):Rat)*y (E.getD j none))=4320*(Ao (fun f=>Ar C (E.getD i none) f*y f) (Ah P)+Hc k y (E.getD i none)):=fun y i hi=>by
  rw[Jm (g:=fun j=>4320*(Ar C (E.getD i none) (E.getD j none)*y (E.getD j none))+(if i=j/\0<i then 4320*k else 0)*y (E.getD j none)) fun j _=>by rw[hA];grind,Vf,Rv,Vs (4320*k) fun j=>y (E.getD j none),<-R fun f=>Ar C (E.getD i none) f*y f];by_cases J:0<i
  ·obtain⟨q,hq⟩:=O i hi J;rw[if_pos ⟨hi,J⟩,hq];unfold Hc;grind
  rw[if_neg oV,show i=0 by omega,h0];unfold Hc;grind
 obtain⟨D,V,hD,W⟩:=As5 (n:=P.length+1) (M:=433101828960) (A:=fun i j=>Z (E.getD i none) (E.getD j none)*30+(if i=j/\0<i then p*144 else 0)) (x:=fun j=>b (E.getD j none))
  (fun i j _ _=>by
   have:=(T (E.getD i none) (E.getD j none)).2;split<;>omega)
  (fun i hi=>by
   obtain⟨z,hz⟩:=a1 (E.getD i none);exact⟨z*30,by rw[H b i hi,h _ (L i hi),A0v,<-hz];simp;grind⟩)
  (fun g hg j hj=>Vr (z:=fun e=>g (b e)) a0 X Q (fun e Y=>by
   obtain⟨i,hi,rfl⟩:=Az9 Y;have F:i<P.length+1:=by rw[<-m,u];exact hi
   have t:=hg i F;rw[H (fun e=>g (b e)) i F]at t;have U:E.getD i none=(Ah P)[i]:=by rw[u,Ays,Ayr hi];rfl
   rw[U]at t;rcases A2w.1 t with I|I
   ·exact absurd I jV
   exact I) _ (L j hj))
 refine⟨D,V,A0r hD ?_,fun e Y=>?_⟩
 ·have t:2*((P.length+1)*433101828960)+1<=10394443895041:=oV;refine A0r (Ayv (Nat.pow_le_pow_left t _) (Azr (n:=10394443895041) oV (show P.length+1<=12 by omega))) jV
 obtain⟨i,hi,rfl⟩:=Az9 Y;have F:i<P.length+1:=by rw[<-m,u];exact hi
 have U:E.getD i none=(Ah P)[i]:=by rw[u,Ays,Ayr hi];rfl
 have:=W i F;rwa[U]at this
def Awr {x:Rat}{m:Rat}(h0:0<=m)(h:x*x<=m*m):-m<=x/\x<=m:=by
 constructor
 ·refine A60.1 fun e=>?_;have:=A9l (a:=-x-m) (b:=-x+m) (by grind) (by grind);grind
 refine A60.1 fun e=>?_;have:=A9l (a:=x-m) (b:=x+m) (by grind) (by grind);grind
def Pz {q:Rat}(h:Dn 2 N q)(t:N<=14436727200):-100255050<=q/\q<=100255050:=by
 obtain⟨z,m,n⟩:=h;have e:((12^2:Nat):Rat)=144:=jV
 rw[e]at m;have g:((z:Int):Rat)<=((14436727200:Int):Rat):=A08.2 oV;have j:(((-14436727200:Int)):Rat)<=(z:Rat):=A08.2 oV;rw[show ((14436727200:Int):Rat)=14436727200 by decide +kernel]at g;rw[show ((-14436727200:Int):Rat) = -14436727200 by decide +kernel]at j;constructor<;>grind
def Aix:∀ {P:List Par} {p:Par},p∈P->b (some p)*b (some p)<=Eu P b
 |q::P,p,hp=>by
  have g:∀ r:Par,0<=b (some r)*b (some r):=fun r=>by
   rcases A5s (a:=0) (b:=b (some r)) with h|h
   ·exact Azv h h
   have:=Azv (a:=-b (some r)) (b:=-b (some r)) (by grind) (by grind);grind
  have e:Eu (q::P) b=b (some q)*b (some q)+Eu P b:=rfl;have j:=S7 P b;have m:=g q;rw[e];rcases Ay7.1 hp with rfl|hp
  ·grind
  have:=Aix hp;grind
def Lb {α:Type}{f:α->Rat}{m:Rat}:∀ {l:List α},(∀ a∈l,-m<=f a/\f a<=m)->-((l.length:Rat)*m)<=Ao f l/\Ao f l<=(l.length:Rat)*m
 |[],_=>by show -(((0:Nat):Rat)*m)<=0/\0<=((0:Nat):Rat)*m;rw[show ((0:Nat):Rat)=0 from rfl];constructor<;>grind
 |a::l,h=>by
  have j:=h a (A1c ..);have n:=Lb fun x g=>h x (Azq _ g);have e:Ao f (a::l)=f a+Ao f l:=rfl;rw[e,A0q,A5j,show ((1:Nat):Rat)=1 from rfl];constructor<;>grind
def Ar4 (T:G7 N C)(R:N<=14436727200)(hP:P.length<=11)(hk:∃ p:Int,k*30=p/\p.natAbs<=90)(E:0<k)(U:1<=C.c)(I:∀ z,0<=Ba9 z P C)(a7:0<=sqC b P C)(h:Fj P C k b) :
 ∀ e∈Ah P,-100000000000000<=b e/\b e<=100000000000000:=by
 obtain⟨p,hp,a0⟩:=hk;have V:=h.least (A4f E) I fun _=>0;have e0:sqC (fun _=>0) P C=C.t (A2 B7 B7):=by
  unfold sqC;rw[V6 P C fun _=>rfl,Ca fun e _=>A7t _];grind
 have e1:Eu P (fun _=>0)=0:=Ca fun p _=>A7w _;rw[e0,e1]at V;have a6:=(Pz T.l R).2;have a5:1<=k*30:=by
  rw[hp];have g:((0:Int):Rat)<(p:Rat):=by rw[<-hp];show 0<k*30;exact A9l E jV
  have Y:(0:Int)<p:=Rat.intCast_lt_intCast.1 g;exact (A08 (a:=1) (b:=p)).2 oV
 have X:=S7 P b;have hs:Eu P b<=3007651500:=by
  have:=Azv (a:=k*30-1) (b:=Eu P b) (by grind) X;grind
 have n:∀ q∈P,-54843<=b (some q)/\b (some q)<=54843:=fun q J=>by
  have g:=Aix (b:=b) J;have e:(54843:Rat)*54843=3007754649:=jV;exact Awr jV (by grind)
 have Z:b none*C.c=C.s B7-Ao (fun q=>C.s q*b (some q)) P:=by
  have g:=h none (by unfold Ah;simp);rw[O0]at g;have O:Ar C none none=C.c:=rfl;have Q:Au C none=C.s B7:=rfl;have c3:Ao (fun q=>Ar C none (some q)*b (some q)) P=Ao (fun q=>C.s q*b (some q)) P:=rfl;rw[O,Q,c3]at g;unfold Hc at g;grind
 have j:=Lb (f:=fun q=>C.s q*b (some q)) (m:=5498287707150) (l:=P) fun q J=>by
  have g:=Pz (T.c none (some q)) R;have O:Ar C none (some q)=C.s q:=rfl;rw[O]at g;have Y:=n q J;generalize C.s q=s at g;generalize b (some q)=t at Y;have a1:=Azv (a:=100255050-s) (b:=54843+t) (by grind) (by grind);have a2:=Azv (a:=100255050+s) (b:=54843-t) (by grind) (by grind);have a3:=Azv (a:=100255050-s) (b:=54843-t) (by grind) (by grind);have a4:=Azv (a:=100255050+s) (b:=54843+t) (by grind) (by grind);constructor<;>grind
 have H:((P.length:Nat):Rat)<=11:=(A2r (a:=P.length) (b:=11)).2 hP;have F:=Pz (T.r none) R;have Q:Au C none=C.s B7:=rfl;rw[Q]at F;have W:-100000000000000<=b none/\b none<=100000000000000:=by
  generalize Ao (fun q=>C.s q*b (some q)) P=S at Z j;generalize ((P.length:Nat):Rat)=L at H j;have u:-100000000000000<=b none*C.c/\b none*C.c<=100000000000000:=by rw[Z];constructor<;>grind
  generalize b none=x at u;generalize C.c=c at u U;constructor
  ·refine A60.1 fun V=>?_;have:=Azv (a:=-x) (b:=c-1) (by grind) (by grind);grind
  refine A60.1 fun V=>?_;have:=Azv (a:=x) (b:=c-1) (by grind) (by grind);grind
 intro e K;unfold Ah at K;rcases Ay7.1 K with rfl|K
 ·exact W
 obtain⟨q,J,rfl⟩:=Ayx.1 K;have:=n q J;constructor<;>grind
end
end
section
variable {q r:Rat}
def IsZ (q:Rat):Prop:=∃ z:Int,q=z
def IsZ.add :IsZ q->IsZ r->IsZ (q+r):=fun⟨a,e⟩ ⟨b,f⟩=>⟨a+b,by rw[e,f,A28]⟩
def IsZ.sub :IsZ q->IsZ r->IsZ (q-r):=fun⟨a,e⟩ ⟨b,f⟩=>⟨a-b,by rw[e,f,A72]⟩
def IsZ.mul :IsZ q->IsZ r->IsZ (q*r):=fun⟨a,e⟩ ⟨b,f⟩=>⟨a*b,by rw[e,f,A0v]⟩
def IsZ.nat (n:Nat):IsZ (n:Rat):=⟨n,(Az2 n).symm⟩
def IsZ.sum {α:Type}{f:α->Rat}:∀ {l:List α},(∀ a∈l,IsZ (f a))->IsZ (Ao f l)
 |[],_=>⟨0,rfl⟩
 |a::l,h=>(h a (A1c ..)).add (IsZ.sum fun x e=>h x (Azq _ e))
def G7.z {N:Nat}{q:Rat}(h:Dn 2 N q):IsZ (q*144):=by
 obtain⟨z,e,_⟩:=h;exact⟨z,by rw[<-e];congr 1⟩
def Af2 {m a b:Nat}(h:m<10^a):m*10^b<10^(a+b):=by
 rw[A3a];exact A48 h (A5d oV)
def Anw {D m a b:Nat}(h0:0<D)(j:D<10^b)(t:IsZ (q*(D:Rat)))(F:-(m:Rat)<=q/\q<=m)(E:m*10^b<10^a):De a b q:=by
 obtain⟨z,e⟩:=t;refine⟨z,D,e,h0,?_,j⟩;have n:(0:Rat)<=(D:Rat):=(A2r (a:=0) (b:=D)).2 (Azh _);have g:(z:Rat)<=(((m*D:Nat):Int):Rat):=by
  rw[Az2,A10,<-e];have:=Azv (a:=(m:Rat)-q) (b:=(D:Rat)) (by grind) n;grind
 have h:((-((m*D:Nat):Int):Int):Rat)<=(z:Rat):=by
  rw[A4p,Az2,A10,<-e];have:=Azv (a:=q+(m:Rat)) (b:=(D:Rat)) (by grind) n;grind
 have g:=A08.1 g;have h:=A08.1 h;have u:m*D<=m*10^b:=A0n _ (A5l j);omega
def Awy {x a b:Nat}(h:x<10^a)(e:a=b):x<10^b:=e▸h
def Auw {D m b:Nat}(c:Nat)(h0:0<D)(e:D<10^b)(j:IsZ (q*(D:Rat)))(h:-(m:Rat)<=q/\q<=m)(g:m<10^c):De (c+b) b q:=Anw h0 e j h (Af2 g)
section
variable {P:List Par} {C:CF} {b:Option Par->Rat} {k:Rat} {N D:Nat}
def Aup (g:0<D)(j:D<10^157)(t:∀ e∈Ah P,∃ z:Int,b e*(D:Rat)=z)(n:∀ e∈Ah P,-100000000000000<=b e/\b e<=100000000000000):∀ e∈Ah P,De 172 157 (b e):=fun e h =>
 Anw (m:=100000000000000) g j (t e h) (n e h) jV
def Aym (g:G7 N C)(j:∀ e∈Ah P,∃ z:Int,b e*(D:Rat)=z):IsZ (sqC b P C*((D*D*144:Nat):Rat)):=by
 have n:((D*D*144:Nat):Rat)=(D:Rat)*(D:Rat)*144:=by rw[A10,A10];rfl
 have E:IsZ (Ba9 b P C*((D:Rat)*(D:Rat)*144)):=by
  unfold Ba9;rw[<-Fg];refine IsZ.sum fun e h=>?_;rw[<-Fg];refine IsZ.sum fun f u=>?_;rw[show b e*Ar C e f*b f*((D:Rat)*(D:Rat)*144)=(b e*(D:Rat))*(Ar C e f*144)*(b f*(D:Rat)) by grind];exact (IsZ.mul (j e h) (G7.z (g.c e f))).mul (j f u)
 have m:IsZ (Ao (fun e=>b e*Au C e) (Ah P)*((D:Rat)*(D:Rat)*144)):=by
  rw[<-Fg];refine IsZ.sum fun e h=>?_;rw[show b e*Au C e*((D:Rat)*(D:Rat)*144)=(b e*(D:Rat))*(Au C e*144)*(D:Rat) by grind];exact (IsZ.mul (j e h) (G7.z (g.r e))).mul (IsZ.nat D)
 have F:IsZ (C.t (A2 B7 B7)*((D:Rat)*(D:Rat)*144)):=by
  rw[show C.t (A2 B7 B7)*((D:Rat)*(D:Rat)*144)=(C.t (A2 B7 B7)*144)*((D:Rat)*(D:Rat)) by grind];exact (G7.z g.l).mul ((IsZ.nat D).mul (IsZ.nat D))
 rw[n];unfold sqC;rw[show (Ba9 b P C+C.t (A2 B7 B7)-2*Ao (fun e=>b e*Au C e) (Ah P))*((D:Rat)*(D:Rat)*144)=Ba9 b P C*((D:Rat)*(D:Rat)*144)+C.t (A2 B7 B7)*((D:Rat)*(D:Rat)*144)-(Ao (fun e=>b e*Au C e) (Ah P)*((D:Rat)*(D:Rat)*144)+Ao (fun e=>b e*Au C e) (Ah P)*((D:Rat)*(D:Rat)*144)) by grind];exact (E.add F).sub (m.add m)
end
end
section
variable {k:Nat}{s:Src}{ts:List Int}{u:PH}{v:Value}
def Aqs {L:List (List UInt8)}(h:Ig u s ts)(I:k<=s.n)(m:Ac u v 1 (L.map nmV))(E:0<L.length)(F:L.length<=1000000) :
 Ag prog 49 [s.ptr,v] u (s.M k) fun v _ K=>∃ t∈L,∃ g:Nat,v=.string (mkS t)/\g<=s.n/\K=s.M g:=by
 obtain⟨a,c,rfl⟩:=m.opn;rw[Ayt]at m⊢;refine Ag.o func49<|G.A call48 (Jd h I E F) ?_;rintro P O N J ⟨r,g,rfl,H,C,rfl⟩ _;rw[Bw];obtain⟨b,off,rfl,e⟩:=Ac.at' (m.mono J) (j:=r) (e:=.string (mkS L[r])) (by simp[nmV,Ayr H]);exact G.a b off L.length c r 1 H<|G.lU none b (off+r*1) (.string (mkS L[r])) e<|G.r _ ⟨L[r],Ay8 H,g,rfl,C,rfl⟩
structure G6 (q:Rat):Prop where
 pos:0<q
 thirty:∃ p:Int,q*30=p/\p.natAbs<=90
 tx:Tx q
def Asb:∀ t∈[[49],[49,47,50],[51],[49,47,49,48],[55,47,51]],∃ q:Rat,t=Ae q/\G6 q:=by
 intro t e;simp only[Ay7,A0b,or_false]at e;rcases e with rfl|rfl|rfl|rfl|rfl
 ·exact⟨1,jV,jV,⟨30,jV,fV⟩,jV,jV⟩
 ·exact⟨1/2,jV,jV,⟨15,jV,fV⟩,jV,jV⟩
 ·exact⟨3,jV,jV,⟨90,jV,fV⟩,jV,jV⟩
 ·exact⟨1/10,jV,jV,⟨3,jV,fV⟩,jV,jV⟩
 exact⟨7/3,jV,jV,⟨70,jV,fV⟩,jV,jV⟩
def Nj (h:Ig u s ts)(C:k<=s.n) :
 Ag prog 13 [s.ptr] u (s.M k) fun v _ I=>∃ (q:Rat) (e:Nat),v=.string (mkS (Ae q))/\G6 q/\e<=s.n/\I=s.M e:=by
 refine Ag.o func13<|G.B 9 1 16 (.string (mkS [])) ([[49],[49,47,50],[51],[49,47,49,48],[55,47,51]].map nmV) (Hk _) ?_;intro g K H m;refine G.A call49 (Aqs (L:=[[49],[49,47,50],[51],[49,47,49,48],[55,47,51]]) (h.mono H) C m.listP mV mV) ?_;rintro O N J l2 ⟨t,F,e,rfl,j,rfl⟩ _;rw[Bw];obtain⟨q,rfl,E⟩:=Asb t F;exact G.r (.string (mkS (Ae q))) ⟨q,e,rfl,E,j,rfl⟩
def Bb5 {v m:Value}{T:List (List UInt8×Nat)}{R:List Bu}{F:List Am}{lab:Int}{C:CF}{K k:Nat}{P:List Par}{q:Rat}(h:Bbs u v m T R F lab C K k P)(j:G6 q) :
 Fn0 prog 211 [m,.string (mkS (Ae q))] u fun r _=>r=.int .i64 (if k=0 then 12 else 0):=by
 have e:=h.mom;obtain⟨n,L,E,t,N,H,rfl⟩:=id h.cof.opn;refine Fn0.o func211<|G.c call18 (D1 j.tx) ?_;rintro V O I rfl;refine G.c call35 (Acv j.tx) ?_;rintro W Q l2 rfl;refine G.kF' (sgn q.num) 0 (by rw[Acc,Awa j.pos];omega)<|G.c call35 (Acv e.tx) ?_;rintro X U J rfl;by_cases h0:k=0
 ·have g:C.c=0:=by rw[e.c,h0];rfl
  exact G.kT' (sgn C.c.num) 0 (by rw[g];decide)<|G.r (.int .i64 12) ⟨rfl,by rw[if_pos h0]⟩
 exact G.kF' (sgn C.c.num) 0 (by rw[Acc,Awa (e.cpos h0)];omega)<|G.r (.int .i64 0) ⟨rfl,by rw[if_neg h0]⟩
end
def Aqf {u:PH}{pv:Value}{P:List Par}(h:Ac u pv 2 (P.map Aq))(O:Ez Bf P)(U:P.length<=1000000):Fn0 prog 77 [pv] u fun r _=>r=.bool true:=by
 obtain⟨a,c,rfl⟩:=h.opn;rw[Ayt]at h⊢;refine Fn0.o func77<|G.l (ι:=Nat) (fun i=>[(0,sV a P.length c),(3,iV i)]) (fun _=>[])
  (fun i W R=>1<=i/\R=PH.mt) (fun i=>P.length-i) 1 ⟨oV,rfl⟩ ?_
 rintro J i N X V l2 ⟨hi,rfl⟩;by_cases g:i<P.length
 ·refine G.lT i P.length ?_;have C:P[i]?=some P[i]:=Ayr g;have E:P[i-1]?=some (P[i-1]'oV):=Ayr oV;have F:Bf (P[i-1]'oV) P[i]<0:=A02.1 O (i-1) i oV g oV;obtain⟨n,t,H,K⟩:=Ac.at' (h.mono l2) (j:=i) (e:=Aq P[i]) (by simp[C]);obtain⟨I,T,m,L⟩:=Ac.at' (h.mono l2) (j:=i-1) (e:=Aq (P[i-1]'oV)) (by simp[E]);rw[H]at m;cases m;subst H;refine G.s i 1 (i-1:Nat)<|G.a n t P.length c (i-1) 2 oV<|G.lU (some 2) n (t+(i-1)*2) (Aq (P[i-1]'oV)) L<|G.a n t P.length c i 2 g<|G.lU (some 2) n (t+i*2) (Aq P[i]) K<|G.c call79 (Ff _ _ true (decide_eq_true F)) ?_;rintro Z Y Q rfl;exact G.i i<|G.b (N (i+1) _ _ _ cV (l2.trans Q) ⟨oV,rfl⟩ oV)
 exact G.lF i P.length<|G.r (.bool true) ⟨rfl,rfl⟩
section
variable {P:List Par}{m m0:PH}{v:Value}
def E7 (r:Value×List Value):Arr:=⟨r.1,32,1,r.2⟩
def oT (v:Value)(rows:List (Value×List Value)):Arr:=⟨v,78,1,rows.map (·.1)⟩
def Om {r:Value×List Value}:(E7 r).At m0 m=Af m0 m r.1 32 1 r.2:=rfl
def Ais {e:List (Value×List Value)}:(oT v e).At m0 m=Af m0 m v 78 1 (e.map (·.1)):=rfl
def txV (l:List Rat):List Value:=l.map fun q=>.string (mkS (Ae q))
def Hx (l:List Rat):(txV l).length=l.length:=by simp[txV]
def Xh (l:List Rat)(q:Rat):txV l++[.string (mkS (Ae q))]=txV (l++[q]):=by simp[txV]
def Mc (q:Rat):Ba 1 [.string (mkS (Ae q))]:=Ci [Ae q]
def Adq (l:List Rat):txV l=D6 (l.map Ae):=by simp[txV,D6]
def Ud (C:CF)(P:List Par):List (List Rat):=(Ah P).map fun e=>(Ah P).map (Ar C e)
def Ov {i:Nat}:(Ah P).take (i+1)=none::(P.take i).map some:=by unfold Ah;rw[List.take_succ_cons,A4l]
def Bb2 {u:PH}{v cv:Value}{T:List (List UInt8×Nat)}{R:List Bu}{F:List Am}{lab:Int}{C:CF}{K k:Nat}(h:Bbs u v cv T R F lab C K k P) :
 Ag prog 210 [v,cv] u PH.mt fun r u' m'=>∃ (pa:Option Addr) (H:Nat) (xa:Option Addr) (xc:Nat) (V:Option Addr) (W:Nat) (g:List (Value×List Value)),
  r=.tuple #[.agg #[.slice pa P.length H,.slice xa (P.length+1) xc,.slice V (P.length+1) W],.int .i64 0]/\Ac u' (.slice pa P.length H) 2 (P.map Aq)/\g.map (·.2)=(Ud C P).map txV /\
  Bag m' (E7 (.slice V (P.length+1) W,txV ((Ah P).map (Au C)))::oT (.slice xa (P.length+1) xc) g::g.map E7):=by
 have b1:=Wu h.sch h.ok h.cof h.sC h.vC h.K h.bel;have bz:=h.p24;have hK:=h.K;have c0:=h.lab0;have hS:=fun (u':PH) (l:PH.le u u') (p:Par)=>Bc8 p (h.cof.mono l) oV;have hQ:=fun (u':PH) (l:PH.le u u') (p q:Par)=>Bbk p q (h.cof.mono l) oV;have ag:=Bk P;obtain⟨xa,xc,xb,xd,xe,xf,rfl,_⟩:=id h.sch;obtain⟨a1,n1,c1,a2,n2,c2,rfl⟩:=id h.cof.opn;refine Ag.o func210<|G.c call11 b1 ?_;intro v1 u1 l1 hp;obtain⟨ps,L,rfl,hL,_,ai⟩:=hp.resolve_left fun⟨_,L,bf,ai⟩=>by rw[ai.eq h.prm]at bf;omega
 rw[ai.eq h.prm]at hL;obtain⟨pa,H,rfl⟩:=hL.opn;rw[Ayt]at hL⊢;refine G.nF 0 0<|G.lF lab 0<|G.c call249 (hS u1 l1 B7) ?_;rintro v2 u2 l2 rfl;refine G.buildM 32 1 16 (.string (mkS [])) [.string (mkS (Ae (C.s B7)))] kV (Mc _) rfl oV mV mV ?_;intro g3 m3 bg;refine G.buildM 32 1 16 (.string (mkS [])) [.string (mkS (Ae C.c))] kV (Mc _) rfl oV mV mV ?_;intro g4 m4 bh;refine G.l (ι:=Nat×(Option Addr×Nat)×(Option Addr×Nat)) (fun i=>[(3,.p 1 0),(4,.p 2 0),(6,sV pa P.length H),(8,.p 6001 0),(9,.p 7006 0),(10,sV i.2.1.1 (i.1+1) i.2.1.2),(42,sV pa P.length H),(43,iV P.length),(44,iV i.1)])
  (fun i=>[(1,⟨36,[tV (Ae C.c),sV a1 n1 c1,sV a2 n2 c2]⟩),(2,⟨88,[sV none 0 0,sV none 0 0,sV none 0 0]⟩),(6001,⟨63,[iV (-1),tV []]⟩),
   (7006,⟨88,[.v (.slice pa P.length H),.v (.slice none 0 0),.v (.slice i.2.2.1 (i.1+1) i.2.2.2)]⟩)])
  (fun i u' m'=>i.1<=P.length/\Bag m' [E7 (.slice i.2.1.1 (i.1+1) i.2.1.2,txV (((Ah P).take (i.1+1)).map (Ar C none))),E7 (.slice i.2.2.1 (i.1+1) i.2.2.2,txV (((Ah P).take (i.1+1)).map (Au C)))]) (fun i=>P.length-i.1) (0,(some ⟨g4,0,none⟩,1),(some ⟨g3,0,none⟩,1))
  ⟨oV,m3,bh,PH.mt,bg,trivial⟩ ?_
 rintro J ⟨i,⟨fa,fc⟩,⟨V,W⟩⟩ hJ u5 m5 l5 ⟨hi,n⟩;simp only at hi n hJ;have ad:=(l1.trans l2).trans l5;by_cases a0:i<P.length
 ·refine G.lT i P.length ?_;obtain⟨p,a3⟩:∃ p,P[i]?=some p:=⟨_,Ayr a0⟩;have ab:(Ah P).take (i+1+1)=(Ah P).take (i+1)++[some p]:=by rw[Ov,Ov,Aze,a3];simp
  obtain⟨X,op,rfl,ep⟩:=Ac.at' (hL.mono (l2.trans l5)) (j:=i) (e:=Aq p) (by simp[a3]);refine G.a X op P.length H i 2 a0<|G.lU (some 2) X (op+i*2) (.agg #[.int .i64 p.1,.string (mkS p.2)]) ep<|G.c call249 (hS u5 ad p) ?_;rintro v6 u6 l6 rfl;refine G.B 32 1 16 (.string (mkS [])) [.string (mkS (Ae (C.s p)))] (Mc _) ?_;intro g7 u7 l7 e7;obtain⟨m0,N,I⟩:=n.focus 0 rfl;rw[Om]at N;have Z:(txV (((Ah P).take (i+1)).map (Ar C none))).length=i+1:=by rw[Hx,Ayt,Ay1];omega
  refine G.append 32 1 16 (.string (mkS [])) m0 (txV (((Ah P).take (i+1)).map (Ar C none))) [.string (mkS (Ae (C.s p)))] (.slice fa (i+1) fc) g7 0 1 1 kV rfl rfl oV N e7 (Mc _) rfl oV (by rw[Z];omega) (by rw[Z];omega) ?_;intro v8 m8 a6;have e8:txV (((Ah P).take (i+1)).map (Ar C none))++[.string (mkS (Ae (C.s p)))]=txV (((Ah P).take (i+1+1)).map (Ar C none)):=by rw[ab,Aza,Xh];rfl
  rw[e8]at a6;have ak:(txV (((Ah P).take (i+1+1)).map (Ar C none))).length=i+1+1:=by rw[Hx,Ayt,Ay1];omega
  obtain⟨a8,c8,rfl⟩:=a6.shape;rw[ak]at a6⊢;have aj:=I (E7 (.slice a8 (i+1+1) c8,txV (((Ah P).take (i+1+1)).map (Ar C none)))) m8 a6;have br:=(ad.trans l6).trans l7;refine G.c call213 (hQ u7 br B7 p) ?_;rintro v9 u9 l9 rfl;refine G.B 32 1 16 (.string (mkS [])) [.string (mkS (Ae (C.t (A2 B7 p))))] (Mc _) ?_;intro ae c5 bm b7;obtain⟨m0',b3,al⟩:=aj.focus 1 rfl;rw[Om]at b3;have b0:(txV (((Ah P).take (i+1)).map (Au C))).length=i+1:=by rw[Hx,Ayt,Ay1];omega
  refine G.append 32 1 16 (.string (mkS [])) m0' (txV (((Ah P).take (i+1)).map (Au C))) [.string (mkS (Ae (C.t (A2 B7 p))))] (.slice V (i+1) W) ae 0 1 1 kV rfl rfl oV b3 b7 (Mc _) rfl oV (by rw[b0];omega) (by rw[b0];omega) ?_;intro c9 b6 O;have b8:txV (((Ah P).take (i+1)).map (Au C))++[.string (mkS (Ae (C.t (A2 B7 p))))]=txV (((Ah P).take (i+1+1)).map (Au C)):=by rw[ab,Aza,Xh];rfl
  rw[b8]at O;have bi:(txV (((Ah P).take (i+1+1)).map (Au C))).length=i+1+1:=by rw[Hx,Ayt,Ay1];omega
  obtain⟨an,aq,rfl⟩:=O.shape;rw[bi]at O⊢;have a9:=al (E7 (.slice an (i+1+1) aq,txV (((Ah P).take (i+1+1)).map (Au C)))) b6 O;exact G.i i<|G.b (hJ (i+1,(a8,c8),(an,aq)) _ _ _ cV ((((l5.trans l6).trans l7).trans l9).trans bm) ⟨dV,a9⟩ dV)
 obtain rfl:i=P.length:=oV;refine G.lF P.length P.length ?_;clear hJ;rw[show (Ah P).take (P.length+1)=Ah P by rw[Ay6 oV]]at n;have ad:=(l1.trans l2).trans l5;have c3:(txV ((Ah P).map (Ar C none))).length=P.length+1:=by rw[Hx,Ayt,ag]
 refine G.B 78 1 24 (.slice none 0 0) [.slice fa (P.length+1) fc] (D4 _ _ _) ?_;intro g6 u6 l6 e6;refine G.append 78 1 24 (.slice none 0 0) m5 [] [.slice fa (P.length+1) fc] (.slice none 0 0) g6 0 1 1 kV rfl rfl oV (Af.nil _ _ _) e6 (D4 _ _ _) rfl oV mV mV ?_;intro v7 m7 af;obtain⟨a7,c7,rfl⟩:=af.shape;have ay:Bag m7 (E7 (.slice V (P.length+1) W,txV ((Ah P).map (Au C)))::oT (.slice a7 1 c7) [(.slice fa (P.length+1) fc,txV ((Ah P).map (Ar C none)))]::[(Value.slice fa (P.length+1) fc,txV ((Ah P).map (Ar C none)))].map E7) :=
  Bag.perm (A6m (l₁:=[oT (.slice a7 1 c7) [(.slice fa (P.length+1) fc,txV ((Ah P).map (Ar C none)))],E7 (.slice fa (P.length+1) fc,txV ((Ah P).map (Ar C none)))]) (l₂:=[E7 (.slice V (P.length+1) W,txV ((Ah P).map (Au C)))])) ⟨m5,af,n⟩
 have bo:=ad.trans l6;have ah:=hL.mono ((l2.trans l5).trans l6);have bj:∀ i,i<=P.length->((Ud C P).take (i+1)).length=i+1:=fun i hi=>by rw[Ay1];unfold Ud;rw[Ayt,ag];omega
 refine G.l (ι:=Nat×(Option Addr×Nat)×List (Value×List Value)) (fun i=>[(3,.p 1 0),(4,.p 2 0),(6,sV pa P.length H),(9,.p 7006 0),(70,sV pa P.length H),(71,iV P.length),(72,iV i.1)])
  (fun i=>[(1,⟨36,[tV (Ae C.c),sV a1 n1 c1,sV a2 n2 c2]⟩),(2,⟨88,[sV none 0 0,sV none 0 0,sV none 0 0]⟩),
   (7006,⟨88,[.v (.slice pa P.length H),.v (.slice i.2.1.1 (i.1+1) i.2.1.2),.v (.slice V (P.length+1) W)]⟩)])
  (fun i u' m'=>i.1<=P.length/\i.2.2.map (·.2)=((Ud C P).take (i.1+1)).map txV/\Bag m' (E7 (.slice V (P.length+1) W,txV ((Ah P).map (Au C)))::oT (.slice i.2.1.1 (i.1+1) i.2.1.2) i.2.2::i.2.2.map E7)) (fun i=>P.length-i.1)
  (0,(a7,c7),[(.slice fa (P.length+1) fc,txV ((Ah P).map (Ar C none)))]) ⟨oV,by unfold Ud Ah;rfl,ay⟩ ?_
 clear ay af n;rintro J ⟨i,⟨a4,a5⟩,g⟩ hJ u8 m8 l8 ⟨hi,E,n⟩;simp only at hi E n hJ;have bk:g.length=i+1:=by have:=congrArg List.length E;rw[Ayt,Ayt,bj i hi]at this;exact this
 by_cases a0:i<P.length
 ·refine G.lT i P.length ?_;obtain⟨p,a3⟩:∃ p,P[i]?=some p:=⟨_,Ayr a0⟩;have ab:(Ah P).take (i+1+1)=(Ah P).take (i+1)++[some p]:=by rw[Ov,Ov,Aze,a3];simp
  have b5:=bo.trans l8;obtain⟨X,op,e0,ep⟩:=Ac.at' (ah.mono l8) (j:=i) (e:=Aq p) (by simp[a3]);subst e0;refine G.a X op P.length H i 2 a0<|G.lU (some 2) X (op+i*2) (.agg #[.int .i64 p.1,.string (mkS p.2)]) ep<|G.c call249 (hS u8 b5 p) ?_;rintro v9 u9 l9 rfl;refine G.buildM 32 1 16 (.string (mkS [])) [.string (mkS (Ae (C.s p)))] kV (Mc _) rfl oV mV mV ?_;intro ae c4 av;refine G.l (ι:=Nat×(Option Addr×Nat)) (fun j=>[(3,.p 1 0),(4,.p 2 0),(6,sV (some ⟨X,op,none⟩) P.length H),(9,.p 7006 0),(14,.p 18002 0),(15,sV j.2.1 (j.1+1) j.2.2),(70,sV (some ⟨X,op,none⟩) P.length H),(71,iV P.length),(72,iV i),(80,sV (some ⟨X,op,none⟩) P.length H),(81,iV P.length),(82,iV j.1)])
   (fun j=>[(1,⟨36,[tV (Ae C.c),sV a1 n1 c1,sV a2 n2 c2]⟩),(2,⟨88,[sV none 0 0,sV none 0 0,sV none 0 0]⟩),
    (7006,⟨88,[.v (.slice (some ⟨X,op,none⟩) P.length H),.v (.slice a4 (i+1) a5),.v (.slice V (P.length+1) W)]⟩),(18002,⟨63,[.v (.int .i64 p.1),.v (.string (mkS p.2))]⟩)])
   (fun j u' m'=>j.1<=P.length/\Bag m' (E7 (.slice j.2.1 (j.1+1) j.2.2,txV (((Ah P).take (j.1+1)).map (Ar C (some p))))::E7 (.slice V (P.length+1) W,txV ((Ah P).map (Au C)))::oT (.slice a4 (i+1) a5) g::g.map E7)) (fun j=>P.length-j.1)
   (0,some ⟨ae,0,none⟩,1) ⟨oV,m8,av,n⟩ ?_
  rintro J2 ⟨j,la,lc⟩ aw bw b6 ac ⟨hj,aa⟩;simp only at hj aa aw;have b4:=(b5.trans l9).trans ac;by_cases az:j<P.length
  ·refine G.lT j P.length ?_;obtain⟨q,b2⟩:∃ q,P[j]?=some q:=⟨_,Ayr az⟩;have bl:(Ah P).take (j+1+1)=(Ah P).take (j+1)++[some q]:=by rw[Ov,Ov,Aze,b2];simp
   obtain⟨bq,oq,e0,eq⟩:=Ac.at' (ah.mono ((l8.trans l9).trans ac)) (j:=j) (e:=Aq q) (by simp[b2]);cases e0;refine G.a X op P.length H j 2 az<|G.lU (some 2) X (op+j*2) (.agg #[.int .i64 q.1,.string (mkS q.2)]) eq<|G.c call213 (hQ bw b4 p q) ?_;rintro ca bx am rfl;refine G.B 32 1 16 (.string (mkS [])) [.string (mkS (Ae (C.t (A2 p q))))] (Mc _) ?_;intro be c6 bn ba;obtain⟨m0,N,I⟩:=aa.focus 0 rfl;rw[Om]at N;have Z:(txV (((Ah P).take (j+1)).map (Ar C (some p)))).length=j+1:=by rw[Hx,Ayt,Ay1];omega
   refine G.append 32 1 16 (.string (mkS [])) m0 (txV (((Ah P).take (j+1)).map (Ar C (some p)))) [.string (mkS (Ae (C.t (A2 p q))))] (.slice la (j+1) lc) be 0 1 1 kV rfl rfl oV N ba (Mc _) rfl oV (by rw[Z];omega) (by rw[Z];omega) ?_;intro cc bu U;have bb:txV (((Ah P).take (j+1)).map (Ar C (some p)))++[.string (mkS (Ae (C.t (A2 p q))))]=txV (((Ah P).take (j+1+1)).map (Ar C (some p))):=by rw[bl,Aza,Xh];rfl
   rw[bb]at U;have ak:(txV (((Ah P).take (j+1+1)).map (Ar C (some p)))).length=j+1+1:=by rw[Hx,Ayt,Ay1];omega
   obtain⟨ap,au,rfl⟩:=U.shape;rw[ak]at U⊢;have Y:=I (E7 (.slice ap (j+1+1) au,txV (((Ah P).take (j+1+1)).map (Ar C (some p))))) bu U;exact G.i j<|G.b (aw (j+1,ap,au) _ _ _ cV ((ac.trans am).trans bn) ⟨dV,Y⟩ dV)
  obtain rfl:j=P.length:=oV;refine G.lF P.length P.length ?_;rw[show (Ah P).take (P.length+1)=Ah P by rw[Ay6 oV]]at aa;refine G.B 78 1 24 (.slice none 0 0) [.slice la (P.length+1) lc] (D4 _ _ _) ?_;intro bd bx am b9;obtain⟨m0,N,I⟩:=aa.focus 2 rfl;rw[Ais]at N;refine G.k 78 1 24 (.slice none 0 0) m0 (g.map (·.1)) [.slice la (P.length+1) lc] (.slice a4 (i+1) a5) bd 0 1 1 N b9 (D4 _ _ _) ?_;intro cb bt Q;have em:g.map (·.1)++[Value.slice la (P.length+1) lc]=(g++[(Value.slice la (P.length+1) lc,txV ((Ah P).map (Ar C (some p))))]).map (·.1):=mV;rw[em]at Q;obtain⟨ao,ar,rfl⟩:=Q.shape;have el:((g++[(Value.slice la (P.length+1) lc,txV ((Ah P).map (Ar C (some p))))]).map (·.1)).length=i+1+1:=by simp[bk]
  rw[el]at Q⊢;have ax:=I (oT (.slice ao (i+1+1) ar) (g++[(Value.slice la (P.length+1) lc,txV ((Ah P).map (Ar C (some p))))])) bt Q;have Y:=Bag.perm Alh ax;refine G.i i<|G.b (hJ (i+1,(ao,ar),g++[(Value.slice la (P.length+1) lc,txV ((Ah P).map (Ar C (some p))))]) _ _ _ cV (((l8.trans l9).trans ac).trans am) ⟨dV,?_,by simpa using Y⟩ dV);dsimp only;rw[Aza,E];unfold Ud;rw[<-A4l,<-A4l,ab,Aza,Aza];rfl
 obtain rfl:i=P.length:=oV;refine G.lF P.length P.length ?_;rw[Ay6 (by unfold Ud;rw[Ayt,ag];omega)]at E;exact G.r (.tuple #[.agg #[.slice pa P.length H,.slice a4 (P.length+1) a5,.slice V (P.length+1) W],.int .i64 0]) ⟨pa,H,a4,a5,V,W,g,rfl,ah.mono l8,E,n⟩
end
section
variable {X:List (List Rat)}{c i n:Nat}{m:PH}{rows:List (Value×List Value)}{s:Arr}{v:Value}
def Wc {s o:Arr}{r:Value×List Value}(h:rows[i]?=some r):(s::o::rows.map E7)[i+2]?=some (E7 r):=by simp[h]
def Au6 {x:Value}{es es':List Value}(h:rows[i]?=some (x,es)):oT v (rows.set i (x,es'))=oT v rows:=by
 unfold oT
 congr 1
 rw[A1d];exact Acj (by rw[Ayy,h];rfl)
def Ayg {g n c i:Nat}(t:Bag m (s::oT (.slice (some ⟨g,0,none⟩) n c) rows::rows.map E7))(N:rows.map (·.2)=X.map txV)(I:Rec n n X)(hi:i<n) :
 ∃ C H,rows[i]?=some (.slice (some ⟨C,0,none⟩) n H,txV (gM X i))/\ElP m g (0+i*1) (.slice (some ⟨C,0,none⟩) n H)/\∀ j,j<n->ElP m C (0+j*1) (.string (mkS (Ae (gR (gM X i) j)))):=by
 have Q:rows.length=n:=by have:=congrArg List.length N;simpa[I.1] using this
 have h:rows[i]?=some rows[i]:=Ayr oV;obtain⟨⟨R,K⟩,O⟩:∃ x,rows[i]=x:=⟨_,rfl⟩;rw[O]at h;have J:K=txV (gM X i):=by
  have L:(rows.map (·.2))[i]?=some K:=by rw[Ayy,h];rfl
  have F:i<X.length:=by rw[I.1];exact hi
  rw[N,Ayy,Ayr F]at L;rw[Jx F];simpa using L.symm
 subst J;have u:(txV (gM X i)).length=n:=by rw[Hx,I.2 i hi]
 obtain⟨C,H,e⟩:=t.ptr (i+2) (Wc h) (by intro e;simp only[E7]at e;rw[e]at u;simp at u;omega);simp only[E7]at e;rw[u]at e;subst e;refine⟨C,H,h,t.el 1 (x:=oT _ rows) rfl rfl (by show (rows.map (·.1))[i]?=_;rw[Ayy,h];rfl),fun j P=>?_⟩;have E:j<(gM X i).length:=by rw[I.2 i hi];exact P
 exact t.el (i+2) (x:=E7 _) (Wc h) rfl (by show (txV (gM X i))[j]?=_;unfold txV;rw[Ayy,Ayr E,M3 E];rfl)
def Ask {m u:PH}{v:Value}{a:Option Addr}(g:Bag m (s::oT (.slice a n c) rows::rows.map E7))(K:rows.map (·.2)=X.map txV)(J:PH.le m u):J9 u (.slice a n c) (K6 X):=by
 obtain⟨m0,h0,_⟩:=g.focus 1 rfl;have E:rows.length=X.length:=by have:=congrArg List.length K;simpa using this
 rw[Ais]at h0;refine⟨rows.map (·.1),h0.list J,by simp[K6,E],fun j r h=>?_⟩;unfold K6 at h;rw[Ayy]at h;cases hx:X[j]? with
 |none=>rw[hx]at h;cases h
 |some x =>
  rw[hx]at h;simp only[A1n,Ayz]at h;subst h;obtain⟨P,_⟩:=Ayu.1 hx;have e:rows[j]?=some rows[j]:=Ayr oV;obtain⟨⟨R,H⟩,O⟩:∃ x,rows[j]=x:=⟨_,rfl⟩;rw[O]at e;have C:H=txV x:=by
   have t:(rows.map (·.2))[j]?=some H:=by rw[Ayy,e];rfl
   rw[K,Ayy,hx]at t;simpa using t.symm
  subst C;obtain⟨Q,t,_⟩:=g.focus (j+2) (Wc e);rw[Om]at t;obtain⟨L,N,F⟩:=t.shape;simp only at F;subst F;have I:=t.list J;simp only[Hx]at I;refine⟨L,N,by rw[Ayy,e];simp[Hx],?_⟩;rw[Ayt];unfold Dc;rw[<-Adq];exact I
def G9 (q:Rat)(X:List (List Rat)):Nat->List (List Rat)
 |0=>X
 |1=>X
 |i+2=>(G9 q X (i+1)).set (i+1) ((gM (G9 q X (i+1)) (i+1)).set (i+1) (gR (gM (G9 q X (i+1)) (i+1)) (i+1)+q))
def Rm {q:Rat}{X:List (List Rat)}{n:Nat}(e:Rec n n X):∀ i,i<=n->Rec n n (G9 q X i)
 |0,_=>e
 |1,_=>e
 |i+2,h=>by
  have g:=Rm e (q:=q) (i+1) oV;exact Aq8 g oV (by rw[A1o,g.2 (i+1) oV])
def Abh {q:Rat}{X:List (List Rat)}{n:Nat}(u:Rec n n X):∀ i,i<=n->∀ a b,a<n->b<n->en (G9 q X i) a b=en X a b+if a=b/\0<a/\a<i then q else 0
 |0,_,a,b,_,_=>by rw[if_neg oV];show en X a b=en X a b+0;grind
 |1,_,a,b,_,_=>by rw[if_neg oV];show en X a b=en X a b+0;grind
 |i+2,h,a,b,ha,hb=>by
  have e:=Abh u (q:=q) (i+1) oV a b ha hb;have C:=Rm u (q:=q) (i+1) oV;have E:i+1<(gM (G9 q X (i+1)) (i+1)).length:=by rw[C.2 (i+1) oV];omega
  show gR (gM ((G9 q X (i+1)).set (i+1) _) a) b=_;rw[Ao9 (by rw[C.1];omega)];by_cases g:i+1=a
  ·rw[if_pos g,Aw0 E];by_cases j:i+1=b
   ·subst g;subst j;rw[if_pos rfl,if_pos ⟨rfl,oV,oV⟩];rw[if_neg oV]at e;show en (G9 q X (i+1)) (i+1) (i+1)+q=_;rw[e];grind
   subst g;rw[if_neg j,if_neg oV];rw[if_neg oV]at e;exact e
  rw[if_neg g];show en (G9 q X (i+1)) a b=_;rw[e];by_cases t:a=b/\0<a/\a<i+1
  ·rw[if_pos t,if_pos oV]
  rw[if_neg t,if_neg oV]
def At3 {r:List Rat}(h:X[i]?=some r):gM X i=r:=by unfold gM;rw[Ays,h];rfl
def Ae3 {l:List Rat}{r:Rat}(h:l[i]?=some r):gR l i=r:=by unfold gR;rw[Ays,h];rfl
def Aj3 (C:CF)(P:List Par)(hi:i<P.length+1):gM (Ud C P) i=(Ah P).map (Ar C ((Ah P).getD i none)):=by
 have e:i<(Ah P).length:=by rw[Bk];exact hi
 refine At3 ?_;unfold Ud;rw[Ayy,Ayr e,Ays,Ayr e];rfl
def Wo (C:CF)(P:List Par):Rec (P.length+1) (P.length+1) (Ud C P) :=
 ⟨by unfold Ud;rw[Ayt,Bk],fun i hi=>by rw[Aj3 C P hi,Ayt,Bk]⟩
def Aj8 (C:CF)(P:List Par){i j:Nat}(hi:i<P.length+1)(g:j<P.length+1):en (Ud C P) i j=Ar C ((Ah P).getD i none) ((Ah P).getD j none):=by
 have e:j<(Ah P).length:=by rw[Bk];exact g
 unfold en;rw[Aj3 C P hi];refine Ae3 ?_;rw[Ayy,Ays (l:=Ah P) (i:=j),Ayr e];rfl
def G6.de {q:Rat}(h:G6 q):De 2 2 q:=by
 obtain⟨p,e,g⟩:=h.thirty;exact⟨p,30,e,oV,oV,oV⟩
end
section
variable {n q:Nat}
structure Tq (q:Rat):Prop where
 tx:Tx q
 den:q.den ∣ 4320
 num:q.num.natAbs<=500000000000
def Bdy {q d:Nat}(g:q ∣ 4320)(e:d ∣ 4320):q*(d/Nat.gcd q d) ∣ 4320:=by
 rw[<-Nat.mul_div_assoc _ (A9b _ _)];exact Baz g e
def leW (h:q ∣ 4320):0<q/\q<=4320:=⟨Nat.pos_of_dvd_of_pos h oV,A3f oV h⟩
def nlM (h:n<1000000000000000000):nl n<=2:=Bc (by simpa using h)
def Bdi (h:n<10000000000000000):Lib.nDigits n<=16:=D9 (k:=16) oV oV
def Bcn {u:PH}{v:Value}{A:List (List Rat)}{n w:Nat}(h:J9 u v (K6 A))(hA:A.length<=12)(hr:∀ r∈A,r.length=w)(hw:w<=12)(hT:∀ r∈A,∀ q∈r,Tq q)(hn:n<=12):Fn0 prog 155 [v,.int .i64 n] u fun v' _=>v'=.bool false:=by
 obtain⟨a,c,rfl⟩:=h.opn;rw[C9]at h⊢;refine Fn0.o func155<|G.c call57 (Va (n:=1) oV oV) ?_;intro v1 u1 l1 k1;obtain⟨f1,rfl⟩:=k1.opB;refine G.l (ι:=Nat×B3×Nat) (fun i=>[(0,sV a A.length c),(1,iV n),(5,.p 1001 0),(18,iV A.length),(19,iV i.1)]) (fun i=>[(1001,⟨50,bc i.2.1⟩)])
  (fun i u' W=>i.1<=A.length/\i.2.2 ∣ 4320/\Dm u' (bv i.2.1) (i.2.2:Int)/\W=PH.mt) (fun i=>A.length-i.1) (0,f1,1) ⟨Azh _,Bax _,k1,rfl⟩ ?_
 rintro J ⟨i,f,q⟩ hJ u2 m2 l2 ⟨hi,K,I,rfl⟩;simp only at hi K I hJ;by_cases g:i<A.length
 ·refine G.lT i A.length ?_;obtain⟨t,F,a1,c1,rfl,P,Z⟩:=(h.mono (l1.trans l2)).row (Uo (Ayr g));rw[Ayt,hr _ (Ay8 g)]at P Z;refine G.a t F A.length c i 1 g<|G.lU none t (F+i*1) _ P<|G.l (ι:=Nat×B3×Nat) (fun k=>[(0,sV (some ⟨t,F,none⟩) A.length c),(1,iV n),(5,.p 1001 0),(18,iV A.length),(19,iV i),(6,iV i),(26,iV w),(27,iV k.1)]) (fun k=>[(1001,⟨50,bc k.2.1⟩)])
   (fun k u' W=>k.1<=w/\k.2.2 ∣ 4320/\Dm u' (bv k.2.1) (k.2.2:Int)/\W=PH.mt) (fun k=>w-k.1) (0,f,q) ⟨Azh _,K,I,rfl⟩ ?_
  clear I K;rintro J2 ⟨k,f,q⟩ H u3 m3 O ⟨hk,K,I,rfl⟩;simp only at hk K I H;by_cases E:k<w
  ·refine G.lT k w ?_;have C:k<A[i].length:=by rw[hr _ (Ay8 g)];exact E
   have m:Tq A[i][k]:=hT _ (Ay8 g) _ (Ay8 C);obtain⟨Y,o2,rfl,e3⟩:=Ac.at' (Ac.mono Z O) (j:=k) (e:=.string (mkS (Ae A[i][k]))) (by simp[D6,Ayr C]);refine G.a t F A.length c i 1 g<|G.lU none t (F+i*1) _ (P.mono O)<|G.a Y o2 w c1 k 1 E<|G.lU none Y (o2+k*1) _ e3<|G.c call19 (F0 m.tx) ?_;intro v4 u4 L k4;obtain⟨b4,a4,n4,c4,ah,an,aj,rfl,_,_,a6⟩:=k4.opn;have hd:=m.den;generalize A[i][k]=x at *
   obtain⟨a8,a0⟩:=leW hd;obtain⟨R,a3⟩:=leW K;have al:0<Nat.gcd q x.den:=Nat.gcd_pos_of_pos_left _ R;refine G.c call126 (Akg (I.mono L) a6 (Ayv (nl1 oV) oV) (Ayv (nl1 oV) oV)) ?_;intro v5 u5 X k5;simp only[Az6]at k5;obtain⟨f5,rfl⟩:=k5.opB;have ae:Nat.gcd q x.den<=q:=Nat.gcd_le_left _ R;refine G.c call129 (Abi (a6.mono X) k5 (Ayv (nl1 oV) oV) (Ayv (nl1 oV) oV) oV) ?_;rintro v6 u6 l6 ⟨x6,y6,rfl,T,U⟩;obtain⟨f6,rfl⟩:=T.opB;obtain⟨a7,rfl⟩:=U.opB;have e6:((x.den:Int)).tdiv ((Nat.gcd q x.den:Nat):Int)=((x.den/Nat.gcd q x.den:Nat):Int):=by
    rw[A2a oV];rfl
   rw[e6]at T;have N:=Bdy K hd;have a9:x.den/Nat.gcd q x.den<=x.den:=A16 _ _;refine G.c call64 (Ke (I.mono (((L.trans X).trans l6))) T (Ayv (nl1 oV) oV) (Ayv (nlN oV) oV)) ?_;intro v7 u7 l7 V;obtain⟨f7,rfl⟩:=V.opB;rw[<-A27]at V;generalize q*(x.den/Nat.gcd q x.den)=r at *
   obtain⟨am,ag⟩:=leW N;refine G.c call134 (Af7 V (Ayv (nlM oV) oV)) ?_;rintro v8 u8 l8 rfl;have Q:Lib.nDigits (r:Int).natAbs<=16:=Bdi oV;generalize Lib.nDigits (r:Int).natAbs=D at *
   have ab:n*D<=12*16:=A1u hn Q;exact G.mul (n:Int) (D:Int) ((n*D:Nat):Int) kV (by rw[A27]) oV oV<|G.gF (n*D:Nat) 600<|G.i k<|G.b (H (k+1,f7,r) _ _ _ cV (((((O.trans L).trans X).trans l6).trans l7).trans l8) ⟨dV,N,V.mono l8,rfl⟩ dV)
  exact G.lF k w<|G.i i<|G.b (hJ (i+1,f,q) _ _ _ cV (l2.trans O) ⟨dV,K,I,rfl⟩ dV)
 refine G.lF i A.length ?_;clear hJ g hi;refine G.l (ι:=Nat) (fun i=>[(0,sV a A.length c),(1,iV n),(5,.p 1001 0),(58,iV A.length),(59,iV i)]) (fun i=>[(1001,⟨50,bc f⟩)])
  (fun i u' W=>i<=A.length/\W=PH.mt) (fun i=>A.length-i) 0 ⟨Azh _,rfl⟩ ?_
 rintro J i hJ u3 m3 O ⟨hi,rfl⟩;by_cases g:i<A.length
 ·refine G.lT i A.length ?_;obtain⟨t,F,a1,c1,rfl,P,Z⟩:=(h.mono ((l1.trans l2).trans O)).row (Uo (Ayr g));rw[Ayt,hr _ (Ay8 g)]at P Z;refine G.a t F A.length c i 1 g<|G.lU none t (F+i*1) _ P<|G.l (ι:=Nat) (fun k=>[(0,sV (some ⟨t,F,none⟩) A.length c),(1,iV n),(5,.p 1001 0),(58,iV A.length),(59,iV i),(11,iV i),(66,iV w),(67,iV k)]) (fun k=>[(1001,⟨50,bc f⟩)])
   (fun k u' W=>k<=w/\W=PH.mt) (fun k=>w-k) 0 ⟨Azh _,rfl⟩ ?_
  rintro J2 k H u4 m4 L ⟨hk,rfl⟩;by_cases E:k<w
  ·refine G.lT k w ?_;have C:k<A[i].length:=by rw[hr _ (Ay8 g)];exact E
   have m:Tq A[i][k]:=hT _ (Ay8 g) _ (Ay8 C);obtain⟨Y,o2,rfl,e3⟩:=Ac.at' (Ac.mono Z L) (j:=k) (e:=.string (mkS (Ae A[i][k]))) (by simp[D6,Ayr C]);refine G.a t F A.length c i 1 g<|G.lU none t (F+i*1) _ (P.mono L)<|G.a Y o2 w c1 k 1 E<|G.lU none Y (o2+k*1) _ e3<|G.c call19 (F0 m.tx) ?_;intro v5 u5 X k5;obtain⟨b5,a5,n5,c5,ai,ao,ak,rfl,_,ad,ac⟩:=k5.opn;have hd:=m.den;have a2:=m.num;generalize A[i][k]=x at *
   obtain⟨a8,a0⟩:=leW hd;obtain⟨R,a3⟩:=leW K;have aa:=I.mono ((O.trans L).trans X);refine G.c call129 (Abi aa ac (Ayv (nlM oV) oV) (Ayv (nl1 oV) oV) oV) ?_;rintro v6 u6 l6 ⟨x6,y6,rfl,T,U⟩;obtain⟨f6,rfl⟩:=T.opB;obtain⟨a7,rfl⟩:=U.opB;have e6:((q:Int)).tdiv (x.den:Int)=((q/x.den:Nat):Int):=by
    rw[A2a oV];rfl
   rw[e6]at T;have a9:q/x.den<=q:=A16 _ _;refine G.c call64 (Ke (ad.mono l6) T (Ayv (nlM oV) oV) (Ayv (nlN oV) oV)) ?_;intro v7 u7 l7 V;obtain⟨f7,rfl⟩:=V.opB;have af:(x.num*((q/x.den:Nat):Int)).natAbs<=500000000000*4320:=by
    rw[A15,Az6];exact A1u a2 oV
   refine G.c call134 (Af7 V (Ayv (nlM oV) oV)) ?_;rintro v8 u8 l8 rfl;have Q:Lib.nDigits (x.num*((q/x.den:Nat):Int)).natAbs<=16:=Bdi oV;generalize Lib.nDigits (x.num*((q/x.den:Nat):Int)).natAbs=D at *
   have ab:n*D<=12*16:=A1u hn Q;exact G.mul (n:Int) (D:Int) ((n*D:Nat):Int) kV (by rw[A27]) oV oV<|G.gF (n*D:Nat) 600<|G.i k<|G.b (H (k+1) _ _ _ cV ((((L.trans X).trans l6).trans l7).trans l8) ⟨oV,rfl⟩ oV)
  exact G.lF k w<|G.i i<|G.b (hJ (i+1) _ _ _ cV (O.trans L) ⟨oV,rfl⟩ oV)
 exact G.lF i A.length<|G.gF n 600<|G.r (.bool false) ⟨rfl,rfl⟩
end
def Al4 (n:Nat)(X:List (List Rat))(y:Nat->Rat):Prop:=∀ i,i<n->Ey n (fun j=>en X i j*y j)=en X i n
section
variable {A:List (List Rat)}{b l:List Rat}{i j:Nat}{q:Rat}
def Aiz {m0 m:PH}{v:Value}{t:TypeId}{sz:Nat}{es:List Value}(h:Af m0 m v t sz es):PH.le m0 m:=by
 rcases h.2 with ⟨_,_,rfl⟩|⟨g,cap,rest,e,rfl,_⟩
 ·exact PH.le_refl _
 exact Kx _ e
def V2 (A:List (List Rat))(b:List Rat):List (List Rat):=(List.range A.length).map fun i=>gM A i++[gR b i]
def Amn (h:i<A.length):gM (V2 A b) i=gM A i++[gR b i]:=by
 unfold V2;rw[At3 (r:=gM A i++[gR b i])];rw[Ayy,A4g h];rfl
def Au0 (h:j<l.length):gR (l++[q]) j=gR l j:=by
 unfold gR;rw[Ays,Ays,Azi h]
def Arz (h:j=l.length):gR (l++[q]) j=q:=by
 subst h;unfold gR;rw[Ays,Azy (Ay2 _)];simp
def Ap3 (g:Sq A)(hi:i<A.length)(e:j<A.length):en (V2 A b) i j=en A i j:=by
 unfold en;rw[Amn hi,Au0 (by rw[Jx hi,g.len hi];exact e)]
def At6 (e:Sq A)(hi:i<A.length):en (V2 A b) i A.length=gR b i:=by
 unfold en;rw[Amn hi,Arz (by rw[Jx hi,e.len hi])]
end
section
variable {S:List (List Int)}{i j:Nat}{l:List Int}{q v:Int}
def Ae0 {q:Rat}{D:Nat}(h:q.den ∣ D):((q.num*((D/q.den:Nat):Int):Int):Rat)=q*(D:Rat):=by
 obtain⟨k,rfl⟩:=h;rw[Nat.mul_div_cancel_left _ q.den_pos,A0v,A10,Az2];have e:q*(q.den:Rat)=(q.num:Rat):=by
  have e:q=(q.num:Rat)/(((q.den:Int)):Rat):=by rw[<-A2g,A5q]
  have hi:=A4u _ (Mx q.den_pos);rw[Az2,A4w]at e;exact Avf e hi
 rw[<-e];grind
def Adj {D:Nat}{r:List Rat}(e:j<r.length):gZ (Bn D r) j=(gR r j).num*((D/(gR r j).den:Nat):Int):=by
 unfold Bn;rw[Z7 (by simpa using e),A1f,M3 e]
def Apr (h:j<l.length):gZ (l++[q]) j=gZ l j:=by
 unfold gZ;rw[Ays,Azi h,Ays]
def Ah3 (h:j=l.length):gZ (l++[q]) j=q:=by
 subst h;unfold gZ;simp[Ays]
def J7 (A:List (List Rat))(b:List Rat)(D D':Nat):List (List Int):=(List.range A.length).map fun i=>Bn D (gM A i)++[(gR b i).num*((D' / (gR b i).den:Nat):Int)]
def Rx {A:List (List Rat)}{b:List Rat}{D D' i:Nat}(h:i<A.length):gMZ (J7 A b D D') i=Bn D (gM A i)++[(gR b i).num*((D' / (gR b i).den:Nat):Int)]:=by
 unfold J7;rw[Pq (by simpa using h)];simp
def Aol {A:List (List Rat)}{b:List Rat}{D D':Nat}(e:Sq A):Gs A.length (A.length+1) (J7 A b D D') :=
 ⟨by simp[J7],fun i hi=>by rw[Rx hi,Ay3,Bn,Ayt,Jx hi,e.len hi];rfl⟩
structure Amv (A:List (List Rat))(b:List Rat)(D D':Nat):Prop where
 d0:0<D
 d1:0<D'
 a:∀ r∈A,∀ q∈r,q.den ∣ D
 b:∀ q∈b,q.den ∣ D'
def Ao1 {A:List (List Rat)}(h:i<A.length):gM A i∈A:=by rw[Jx h];exact Ay8 h
section
variable {A:List (List Rat)} {b:List Rat} {D D':Nat}
def Aiw (m:Sq A)(h:Amv A b D D')(hi:i<A.length)(e:j<A.length):(enZ (J7 A b D D') i j:Rat)=en A i j*(D:Rat):=by
 have g:(gM A i).length=A.length:=by rw[Jx hi];exact m.len hi
 unfold enZ;rw[Rx hi,Apr (by simp[Bn,g,e]),Adj oV];exact Ae0 (h.a _ (Ao1 hi) _ (Ab7 oV))
def Avh (m:Sq A)(e:b.length=A.length)(h:Amv A b D D')(hi:i<A.length):(enZ (J7 A b D D') i A.length:Rat)=gR b i*(D':Rat):=by
 have g:(gM A i).length=A.length:=by rw[Jx hi];exact m.len hi
 unfold enZ;rw[Rx hi,Ah3 (by simp[Bn,g])];exact Ae0 (h.b _ (Ab7 oV))
def Wv (f:Nat->Int):∀ n:Nat,((B9 n f:Int):Rat)=Ey n (fun j=>(f j:Rat))
 |0=>by rw[S4];rfl
 |n+1=>by rw[B9,A28,Wv f n,Hf]
def qsZ (n:Nat)(S:List (List Int))(v:Int)(D D':Nat):List Rat:=(List.range n).map fun j=>Rat.divInt (enZ S j n*(D:Int)) (v*(D':Int))
def Ap0 {n:Nat}(e:j<n):gR (qsZ n S v D D') j=Rat.divInt (enZ S j n*(D:Int)) (v*(D':Int)):=by
 unfold qsZ;exact Avy _ e
def Atb (g:Sq A)(m:b.length=A.length)(h:Amv A b D D')(H:v≠0)(F:∀ i,i<A.length->∀ k,B9 A.length (fun j=>enZ S j k*enZ (J7 A b D D') i j)=v*enZ (J7 A b D D') i k) :
 Al4 A.length (V2 A b) (gR (qsZ A.length S v D D')):=by
 intro i hi;have e:=congrArg (fun z:Int=>(z:Rat)) (F i hi A.length);simp only[Wv,A0v]at e;rw[Avh g m h hi]at e;rw[At6 g hi];have u:(v:Rat)≠0:=fun e=>H (Rat.intCast_inj.1 (by rw[e];rfl));have n:(D':Rat)≠0:=Mx (by have:=h.d1;omega);have C:Ey A.length (fun j=>en (V2 A b) i j*gR (qsZ A.length S v D D') j)=Ey A.length (fun j=>(enZ S j A.length:Rat)*(enZ (J7 A b D D') i j:Rat))*((1/((v:Rat)*(D':Rat)))):=by
  rw[Rat.mul_comm,<-Rv];refine Jm fun j t=>?_;rw[Ap3 g hi t,Ap0 t,Aiw g h hi t,A2g,A0v,A0v,Az2,Az2,A4w,A4w];grind
 rw[C,e];have:(v:Rat)*(D':Rat)≠0:=fun e=>(A2w.1 e).elim u n;rw[A4w,Rat.one_mul];generalize I:(v:Rat)*(D':Rat)=w at *
 have E:(v:Rat)*(gR b i*(D':Rat))=gR b i*w:=by rw[<-I];grind
 rw[E,Rat.mul_assoc,A4u _ this,Rat.mul_one]
def Axn (u:Sq A)(h:Amv A b D D')(t:∀ y:Nat->Rat,(∀ i,i<A.length->Ey A.length (fun j=>en A i j*y j)=0)->∀ j,j<A.length->y j=0):¬ Ker A.length (enZ (J7 A b D D')):=by
 rintro⟨y,⟨j,g,hy⟩,h0⟩;have n:(D:Rat)≠0:=Mx (by have:=h.d0;omega);refine hy ?_;have:=t (fun j=>(y j:Rat)) (fun i hi=>?_) j g
 ·exact Rat.intCast_inj.1 (by rw[this];rfl)
 have e:=congrArg (fun z:Int=>(z:Rat)) (h0 i hi);simp only[Wv,A0v]at e;have m:Ey A.length (fun j=>(y j:Rat)*(enZ (J7 A b D D') i j:Rat))=(D:Rat)*Ey A.length (fun j=>en A i j*(y j:Rat)):=by
  rw[<-Rv];exact Jm fun j g=>by rw[Aiw u h hi g];grind
 rw[m]at e;rcases A2w.1 e with e|e
 ·exact absurd e n
 exact e
end
end
section
variable {i j:Nat}{qs:List Rat}{z:Int}
def Acs {q:Rat}{D:Nat}(h:q*(D:Rat)=(z:Rat))(h0:0<D):q.den ∣ D/\q.num.natAbs<=z.natAbs:=by
 have n:q=Rat.divInt z (D:Int):=by
  rw[A2g,Az2,<-h];have:=Mx h0;grind
 obtain⟨e,g,t⟩:=O6 (y:=z) (z:=(D:Int)) oV;rw[n];constructor
 ·have m:((Rat.divInt z (D:Int)).den:Int)=((D/Nat.gcd z.natAbs D:Nat):Int):=by
   rw[g,show ((D:Int)).natAbs=D from rfl,A2a oV,<-A23]
  rw[Int.ofNat.inj m];exact Nat.div_dvd_of_dvd (A9b _ _)
 rw[e,A6v];exact A16 _ _
def Axu {q:Rat}(h:q*((4320:Nat):Rat)=(z:Rat))(m:z.natAbs<=500000000000):Tq q:=by
 obtain⟨e,g⟩:=Acs h oV;exact⟨De.tx (a:=12) (b:=4) ⟨z,4320,h,oV,oV,oV⟩ oV oV oV oV,e,oV⟩
def Axd {x t:Rat}{N:Nat}(h:Dn 2 N x)(J:N<=14436727200)(F:∃ p:Int,t*30=p/\p.natAbs<=90):Tq (x+t):=by
 obtain⟨z,g,H⟩:=h;obtain⟨p,E,I⟩:=F;refine Axu (z:=z*30+p*144) ?_ oV;have e:((12^2:Nat):Rat)=144:=jV
 have m:((4320:Nat):Rat)=4320:=jV
 have n:((30:Int):Rat)=30:=jV
 have u:((144:Int):Rat)=144:=jV
 rw[e]at g;rw[A28,A0v,A0v,<-g,<-E,m,n,u];grind
section
variable {P:List Par} {C:CF} {q:Rat} {N:Nat}
def H8 (C:CF)(P:List Par)(q:Rat):List (List Rat):=G9 q (Ud C P) (P.length+1)
def Ue (C:CF)(P:List Par):List Rat:=(Ah P).map (Au C)
def I0:Rec (P.length+1) (P.length+1) (H8 C P q):=Rm (Wo C P) _ (Ay2 _)
def Aaf (hi:i<P.length+1)(e:j<P.length+1):en (H8 C P q) i j=Ar C ((Ah P).getD i none) ((Ah P).getD j none)+if i=j/\0<i then q else 0:=by
 unfold H8;rw[Abh (Wo C P) _ (Ay2 _) i j hi e,Aj8 C P hi e];have:(if i=j/\0<i/\i<P.length+1 then q else 0)=if i=j/\0<i then q else 0:=by simp[hi]
 rw[this]
def Apm:(Ue C P).length=P.length+1:=by unfold Ue;rw[Ayt,Bk]
def Ar3 (hi:i<P.length+1):gR (Ue C P) i=Au C ((Ah P).getD i none):=by
 have e:=Bk P;refine Ae3 ?_;unfold Ue;rw[Ayy,Ays,Ayr oV];rfl
def Awo (h:G7 N C)(t:N<=14436727200)(E:G6 q):∀ r∈H8 C P q,∀ x∈r,Tq x:=by
 intro r F x H;have n:=I0 (P:=P) (C:=C) (q:=q);obtain⟨i,hi,rfl⟩:=A01.1 F;obtain⟨j,u,rfl⟩:=A01.1 H;have g:i<P.length+1:=by have:=n.1;omega
 have m:j<P.length+1:=by have:=n.2 i g;rw[Jx hi]at this;omega
 have e:=Aaf (P:=P) (C:=C) (q:=q) g m;unfold en at e;rw[Jx hi,M3 u]at e;rw[e];refine Axd (h.c _ _) t ?_;split
 ·exact E.thirty
 exact⟨0,jV,fV⟩
def Avk (g:G7 N C)(m:N<=14436727200)(n:G6 q)(u:P.length<=11):Sq (H8 C P q):=by
 have e:=I0 (P:=P) (C:=C) (q:=q);refine⟨by rw[e.1];omega,fun r h=>?_,fun r h x t=>(Awo g m n r h x t).tx⟩;obtain⟨i,hi,rfl⟩:=A01.1 h;have:=e.2 i (by have:=e.1;omega);rw[Jx hi]at this;rw[this,e.1]
def Na {y:Nat->Rat}{u:Option Par->Rat}(J:Sq (H8 C P q))(h:Al4 (H8 C P q).length (V2 (H8 C P q) (Ue C P)) y)(I:∀ j,j<P.length+1->u ((Ah P).getD j none)=y j):Fj P C q u:=by
 have E:=I0 (P:=P) (C:=C) (q:=q);intro e K;obtain⟨i,hi,rfl⟩:=A01.1 K;have F:(Ah P)[i]=(Ah P).getD i none:=by rw[Ays,Ayr hi];rfl
 rw[F];rw[Bk]at hi;have m:i<(H8 C P q).length:=by rw[E.1];exact hi
 have H:=h i m;rw[At6 J m,Ar3 hi,Jm (g:=fun j=>Ar C ((Ah P).getD i none) ((Ah P).getD j none)*u ((Ah P).getD j none)+(if i=j/\0<i then q else 0)*y j) (fun j L=>by
  have n:j<P.length+1:=by have:=E.1;omega
  rw[Ap3 J m L,Aaf hi n,I j n];grind),E.1,Vf,Vs]at H
 have t:Hc q u ((Ah P).getD i none)=if i<P.length+1/\0<i then q*y i else 0:=by
  cases i with
  |zero=>rw[if_neg oV];rfl
  |succ j =>
   rw[if_pos ⟨hi,oV⟩,<-I _ hi];unfold Ah;rw[A3s,Ays,Ayy,Ayr oV];rfl
 rw[Py _ (Ah P) none,Bk,t];exact H
def Ak0 (h:P.Nodup)(n:qs.length=P.length)(m:j<P.length):Ap P[j] (P.zip qs)=gR qs j:=by
 have g:j<qs.length:=oV
 rw[M3 g];refine Hj ?_ (A01.2 ⟨j,gV,mV⟩);have e:(P.zip qs).map (·.1)=P:=List.map_fst_zip oV;rw[e];exact h
def Sc (e:P.Nodup){m0:Rat}(g:qs.length=P.length):∀ j,j<P.length+1->cfE m0 (P.zip qs) ((Ah P).getD j none)=gR (m0::qs) j:=by
 intro j h;cases j with
 |zero=>rfl
 |succ j =>
  unfold Ah;rw[A3s,Ays,Ayy,Ayr oV];show Ap P[j] (P.zip qs)=gR (m0::qs) (j+1);rw[Ak0 e g oV];rfl
def Uk (hi:i<P.length+1):(Ah P).getD i none∈Ah P:=by
 have:=Bk P;rw[Ays,Ayr oV];exact Ay8 _
def Aj1 {b:Option Par->Rat}(m:G7 N C)(H:N<=14436727200)(n:G6 q)(I:P.length<=11)(u:1<=C.c)(g:∀ z,0<=Ba9 z P C)(E:∀ z,0<=sqC z P C)(h:Fj P C q b):∀ e∈Ah P,De 172 157 (b e):=by
 have t:0<C.c:=by
  have F:(0:Rat)<1:=jV
  grind
 obtain⟨D,h0,F,J⟩:=Aiy m H I n.thirty n.pos t g h;exact Aup h0 F J (Ar4 m H I n.thirty n.pos u g (E b) h)
def Avl (t:P.Nodup)(e:G7 N C)(E:N<=14436727200)(J:G6 q)(F:P.length<=11)(n:1<=C.c)(m:∀ z,0<=Ba9 z P C)(u:∀ z,0<=sqC z P C)(y:Nat->Rat)(h:Al4 (H8 C P q).length (V2 (H8 C P q) (Ue C P)) y) :
 ∀ i,i<(H8 C P q).length->Tx (y i):=by
 intro i hi;have K:=I0 (P:=P) (C:=C) (q:=q);have g:i<P.length+1:=by have:=K.1;omega
 have H:∀ j,j<P.length+1->cfE (y 0) (P.zip ((List.range P.length).map fun j=>y (j+1))) ((Ah P).getD j none)=y j:=fun j L=>by
  rw[Sc t mV j L];cases j with
  |zero=>rfl
  |succ j=>exact Ae3 (by rw[A2k,Ayy,A4g oV];rfl)
 have O:=Na (Avk e E J F) h H;have I:=Aj1 e E J F n m u O _ (Uk g);rw[H i g]at I;exact I.tx oV oV oV oV
end
end
end Go.Proofs.YtijchbjkdllolaaGreatDoor
