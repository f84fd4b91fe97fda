import Derived.Test.YtemmheaocgmebaaGreatDoorV11
set_option linter.defProp false
set_option linter.unusedVariables false
set_option linter.unusedSimpArgs false
set_option linter.unusedSectionVars false
set_option maxHeartbeats 16000000
namespace Go.Proofs.YtemmheaocgmebaaGreatDoor
open Go.Proofs.Tryz
open Go.RowKit Go.MapKept
def A8d:=@List.length_filter_le
def Bcq:=@Rat.le_refl
def A9g:=@Rat.le_total
def A4o:=@Rat.mul_nonneg
def Bat:=@Rat.le_of_lt
def A40:=@Rat.mul_eq_zero
def Bau:=@Rat.mul_zero
def Ba0:=@Nat.gcd_dvd_right
section
variable {F:List Al}{R:List Br}{T:zC}{lab:Int}{n:Nat}{u:PH}{v:Value}
def Adm (F:List Al)(lab:Int)(p:Par):Prop:=(p.1 = -1/\0<=lab/\p.2 = [])\/(∃ (k:Nat) (f:Al),p.1=(k:Int)/\F[k]?=some f/\(f.2.1=2\/p.2 = []))
def Ap8 {p:Par}(Q:H5 u v T R F lab)(ok:Bl u T R F lab)(hp:Adm F lab p) :
 zF 265 [v,Ap p] u fun r _=>r=zT:=by
 obtain⟨xa,xc,Z,xd,xe,X,rfl,P,L,C⟩:=Q;have U:=ok.f2;refine Fn0.o func265 ?_;rcases hp with ⟨m,t,h⟩|⟨k,f,m,H,h⟩
 ·exact G.eT' p.1 (-1) m<|G.hT' lab 0 t<|G.q p.2 [] h<|G.z zT
 obtain⟨Y,W⟩:=p;simp only at m h;subst m;have V:=(A05.1 H).1;obtain⟨E,I,rfl,J⟩:=Ac.at' C (j:=k) (e:=Cm f) (by simp[H]);obtain⟨f1,f2,K⟩:=f;simp only at h;refine G.eF k (-1)<|G.hF k F.length<|G.a E I F.length X k 3 V<|G.f 100 E (I+k*3) 1 1<|G.g none (J.fld (j:=1) (xs:=#[zI f1,zI f2,zI K]) rfl rfl) ?_;by_cases t:f2=2
 ·exact G.eT f2 2<|G.z zT
 exact G.eF f2 2<|G.q W [] (h.resolve_left t)<|G.z zT
def Av4 {u m:PH}{b:Nat}{x:Par×Rat}(E:ElP m b 0 v)(h:H5 u v T R F lab)(ok:Bl u T R F lab)(hp:Adm F lab x.1) :
 FnK prog 264 [Bt x,.pointer (zA b)] u m fun v _=>v=zL:=by
 have e:=Ap8 h ok hp;obtain⟨xa,xc,K,L,P,Q,rfl,C,t,j⟩:=h;refine FnK.of func264 kV kV<|G.v (some 4) E<|G.c call265 e ?_;rintro J I H rfl;exact G.z zL
def Arx {u m:PH}{v cap:Value}{T:List (Par×Rat)}{fid:Nat}(h:Ac u v 3 (T.map Bt))(X:T.length<=1000000)
 (t:∀ args w,(callFunc fid args).run prog w=.ok (.enter fid args) w) (P:∀ p∈T,∀ I,PH.le u I->FnK prog fid [Bt p,cap] I m fun v _=>v=zL) :
 FnK prog 301 [v,.func (.func fid) #[] #[cap]] u m fun V _=>V=zI (-1):=by
 obtain⟨a,c,rfl⟩:=h.opn;rw[A03]at h⊢;refine FnK.of func301 kV kV<|G.l (ι:=Nat) (fun i=>[(0,sV a T.length c),(1,.v (.func (.func fid) #[] #[cap])),(7,iV T.length),(8,iV i)]) (fun _=>[])
  (fun i I Q=>i<=T.length/\Q=m) (fun i=>T.length-i) 0 ⟨oV,rfl⟩ ?_
 rintro J i L U Y H ⟨hi,rfl⟩;by_cases C:i<T.length
 ·refine G.lT i T.length ?_;have E:T[i]?=some T[i]:=A01 C;obtain⟨W,Z,rfl,K⟩:=Ac.at' (h.mono H) (j:=i) (e:=Bt T[i]) (by simp[E]);refine G.n T.length c K<|G.callK fid [Bt T[i],cap] kV t (P T[i] (A09 C) U H) ?_;rintro v2 u2 l2 rfl;exact G.i i<|G.b (L (i+1) _ _ _ cV (H.trans l2) ⟨oV,rfl⟩ oV)
 obtain rfl:i=T.length:=oV;exact G.lF T.length T.length<|G.z (zI (-1))
def Agu {u m:PH}{v cap:Value}{T:List (Par×Rat)}{fid:Nat}(h:Ac u v 3 (T.map Bt))(C:T.length<=1000000)
 (e:∀ args w,(callFunc fid args).run prog w=.ok (.enter fid args) w) (t:∀ p∈T,∀ j,PH.le u j->FnK prog fid [Bt p,cap] j m fun v _=>v=zL) :
 FnK prog 263 [v,.func (.func fid) #[] #[cap]] u m fun E _=>E=zL:=by
 obtain⟨a,c,rfl⟩:=h.opn;refine FnK.of func263 kV kV<|G.callK _ _ kV call301 (Arx h C e t) ?_;rintro J I H rfl;exact G.hF (-1) 0<|G.z zL
def Dy (F:List Al)(n:Nat):zK:=(List.range n).filter fun i=>(F.getD i (0,0,0)).2.1==1
def Amd {f:Al}(j:F[n]?=some f):Dy F (n+1)=if f.2.1=1 then Dy F n++[n] else Dy F n:=by
 unfold Dy;rw[A5d,List.filter_append];have e:(F.getD n (0,0,0))=f:=by simp[A02,j]
 by_cases h:f.2.1=1
 ·rw[if_pos h,List.filter_cons_of_pos (by rw[e];simp[h])];rfl
 rw[if_neg h,List.filter_cons_of_neg (by rw[e];simp[h])];simp
def Aez (F:List Al)(n:Nat):(Dy F n).length<=n:=by
 unfold Dy;exact A04 (A8d _ _) mV
def Xo {n i:Nat}:i∈Dy F n↔i<n/\(F.getD i (0,0,0)).2.1=1:=by
 unfold Dy;simp[A7a]
def Aii (F:List Al)(n:Nat):(Dy F n).Nodup:=List.nodup_range.filter _
def Aeh (W:H5 u v T R F lab)(ok:Bl u T R F lab) :
 zF 266 [v] u fun r Y=>Ac Y r 1 (Ai (Dy F F.length)):=by
 have K:=Adn W ok;obtain⟨xa,xc,xb,xd,xe,Z,rfl,a1,a0,H⟩:=W;have a2:=ok.f2;refine Fn0.o func266<|G.c call98 K ?_;rintro v1 u1 l1 rfl;refine G.nF 0 0<|G.l (ι:=Nat×(zP×Nat)) (fun i=>[(3,sV i.2.1 (Dy F i.1).length i.2.2),(10,sV xe F.length Z),(11,iV F.length),(12,iV i.1)]) (fun _=>[])
  (fun i Y m'=>i.1<=F.length/\Af PH.mt m' (.slice i.2.1 (Dy F i.1).length i.2.2) 3 1 (Ai (Dy F i.1))) (fun i=>F.length-i.1) (0,(none,0)) ⟨oV,Af.nil _ _ _⟩ ?_
 rintro J ⟨i,⟨P,Q⟩⟩ I u2 m2 l2 ⟨hi,m⟩;simp only at hi m I;have L:=l1.trans l2;have a3:=Aez F i;by_cases C:i<F.length
 ·refine G.lT i F.length ?_;obtain⟨f,t⟩:∃ f,F[i]?=some f:=⟨_,A01 C⟩;have E:=Amd t;obtain⟨fb,fo,rfl,ef⟩:=Ac.at' (H.mono L) (j:=i) (e:=Cm f) (by simp[t]);obtain⟨p1,U,p3⟩:=f;simp only at E;refine G.N F.length Z C ef ?_;by_cases V:U=1
  ·rw[if_pos V]at E;refine G.eT U 1<|G.buildU 3 1 8 zO (Ai [i]) kV (Av [i]) rfl oV (by simp[Ai]) (by simp[Ai]) ?_;intro g3 u3 X e3;refine G.append 3 1 8 zO PH.mt (Ai (Dy F i)) (Ai [i]) (.slice P (Dy F i).length Q) g3 0 1 1 kV rfl rfl oV m e3 (Av [i]) rfl oV (by simp[Ai];omega) (by simp[Ai];omega) ?_;intro v4 m4 h;have e4:Ai (Dy F i)++Ai [i]=Ai (Dy F (i+1)):=by rw[E];simp[Ai]
   rw[e4]at h;obtain⟨a4,c4,rfl⟩:=h.shape;have e5:(Ai (Dy F (i+1))).length=(Dy F (i+1)).length:=by simp[Ai]
   rw[e5]at h⊢;exact G.i i<|G.b (I (i+1,(a4,c4)) _ _ _ cV (l2.trans X) ⟨dV,h⟩ dV)
  rw[if_neg V]at E;refine G.eF U 1<|G.i i ?_;rw[<-E]at m⊢;exact G.b (I (i+1,(P,Q)) _ _ _ cV l2 ⟨dV,m⟩ dV)
 obtain rfl:i=F.length:=oV;refine G.lF F.length F.length<|G.give _ _ _ kV m (fun g=>.inl rfl) ?_;intro u3 X hL;exact G.r (.slice P (Dy F F.length).length Q) ⟨rfl,hL⟩
end
section
open Go.RowKit Go.MapKept Go.Sort
variable {A:List (Par×Rat)}{C:CF}{F:List Al}
def Bew (F:List Al)(p:Par):Bool:=decide (0<=p.1)&&(F.getD p.1.toNat (0,0,0)).2.1==2
def J9 (F:List Al)(A:List (Par×Rat))(n:Nat):List Par:=((A.take n).map (·.1)).filter (Bew F)
theorem Am7 {n:Nat}{x:Par×Rat}(h:A[n]?=some x):J9 F A (n+1)=if Bew F x.1=true then J9 F A n++[x.1] else J9 F A n:=by
 unfold J9;have e:A.take (n+1)=A.take n++[x]:=by rw[A1n,h];rfl
 by_cases j:Bew F x.1=true
 ·grind
 grind
def Aq1 (F:List Al)(A:List (Par×Rat))(n:Nat):(J9 F A n).length<=A.length:=by
 refine A04 (A8d _ _) ?_;rw[A03,A1e];omega
def Li (i:Nat):Par:=((i:Int),[])
def Le (F:List Al):List Par:=(Dy F F.length).map Li
def K1 (p:Par):A9 2 [Ap p]:=Aex [p]
def Aec (m:(A.map (·.1)).Nodup):(Le F++J9 F A A.length).Nodup:=by
 refine A4p.2 ⟨?_,?_,?_⟩
 ·refine List.Pairwise.map _ (fun a b h e=>?_) (Aii F F.length);unfold Li at e;simp only[A2i]at e;exact h oV
 ·unfold J9;rw[A15];exact m.filter _
 intro a t b u e;subst e;obtain⟨i,hi,rfl⟩:=A1b.1 t;have j:=(A7a.1 u).2;unfold Bew Li at j;simp only[A1m,beq_iff_eq,A23]at j;have E:=(Xo.1 hi).2;omega
theorem Anj (m:Can Bk C.s A){p:Par}:p∈Le F++J9 F A A.length↔(∃ (i:Nat) (f:Al),p=Li i/\F[i]?=some f/\f.2.1=1)\/(C.s p≠0/\∃ (i:Nat) (f:Al),p.1=(i:Int)/\F[i]?=some f/\f.2.1=2):=by
 have t:p∈A.map (·.1)↔C.s p≠0:=by
  constructor
  ·intro h;obtain⟨x,E,rfl⟩:=A1b.1 h;obtain⟨e,j⟩:=m.val x E;rw[<-e];exact j
  intro h;exact A3m fun u=>h (m.out p u)
 rw[A1h];refine or_congr ?_ ?_
 ·unfold Le;rw[A1b];constructor
  ·rintro⟨i,hi,rfl⟩;obtain⟨e,j⟩:=Xo.1 hi;refine⟨i,F[i],rfl,A01 e,?_⟩;rw[A02,A01 e,A4w]at j;exact j
  rintro⟨i,f,rfl,hf,e⟩;refine⟨i,Xo.2 ⟨(A05.1 hf).1,?_⟩,rfl⟩;rw[A02,hf,A4w];exact e
 unfold J9;unfold Bew;constructor
 ·grind
 grind
abbrev Nn (F:List Al)(C:CF)(L:List Par):Prop :=
 Hb Bk L/\∀ p,p∈L↔(∃ (i:Nat) (f:Al),p=Li i/\F[i]?=some f/\f.2.1=1)\/(C.s p≠0/\∃ (i:Nat) (f:Al),p.1=(i:Int)/\F[i]?=some f/\f.2.1=2)
def Nn.eq {L e:List Par}(h:Nn F C L)(j:Nn F C e):L=e :=
 Agg Et h.1 j.1 fun p=>(h.2 p).trans (j.2 p).symm
def Azr (u:PH)(r:Value)(F:List Al)(C:CF):Prop :=
 (r=.tuple #[zN,zI 3]/\∃ L,24<L.length/\Nn F C L)\/∃ (ps:Value) (L:List Par),r=.tuple #[ps,zO]/\Ac u ps 2 (L.map Ap)/\L.length<=24/\Nn F C L
theorem Ahd {u:PH}{v w:Value}{T:zC}{R:List Br}{lab:Int}{K:Nat}(hX:H5 u v T R F lab)(ok:Bl u T R F lab)(hC:No u w C K)(sC:CFS C)(vC:CFV C)(hK:K<=100000)(hb:∀ p,C.s p≠0->Adm F lab p) :
 zF 232 [v,w] u fun r u'=>Azr u' r F C:=by
 have ai:=fun (u':PH) (l:PH.le u u')=>Adn (hX.mono l) (ok.mono l);have an:=fun (u':PH) (l:PH.le u u')=>Ax1 (hC.mono l) sC vC oV;obtain⟨xa,xc,xb,xd,xe,W,rfl,ar,aq,ag⟩:=id hX;obtain⟨A,Q,a1,c1,a2,c2,rfl,hA,hQ,cA,cQ,kA,kQ⟩:=hC;have aw:=ok.f2;refine Fn0.o func232<|G.c call98 (ai u (PH.le_refl _)) ?_;rintro v1 u1 l1 rfl;refine G.nF 0 0<|G.c call262 (an u1 l1) ?_;rintro v2 u2 l2 rfl;have V:=l1.trans l2;refine G.pub 0 30 [.slice xa T.length xc,.slice xb R.length xd,.slice xe F.length W,zI lab] kV kV ?_;intro b au av;have a3:∀ (m':PH),m' b=some (.cells [Value.slice xa T.length xc,.slice xb R.length xd,.slice xe F.length W,zI lab].toArray 30 (0,0))->ElP m' b 0 (.agg #[.slice xa T.length xc,.slice xb R.length xd,.slice xe F.length W,zI lab]):=fun m' h=>My (xs:=[.slice xa T.length xc,.slice xb R.length xd,.slice xe F.length W,zI lab]) h rfl;obtain⟨H,ac⟩:∃ H:PH,H=PH.mt.upd b (.cells [Value.slice xa T.length xc,.slice xb R.length xd,.slice xe F.length W,zI lab].toArray 30 (0,0)):=⟨_,rfl⟩;have E:H b=some (.cells [Value.slice xa T.length xc,.slice xb R.length xd,.slice xe F.length W,zI lab].toArray 30 (0,0)):=by rw[ac];exact Ab _ _ _
 rw[<-ac];refine G.callK _ _ kV call263 (Agu (cap:=.pointer (zA b)) (hA.mono V) oV call264 fun x hx u' l'=>Av4 (a3 H E) (hX.mono (V.trans l')) (ok.mono (V.trans l')) (hb x.1 (by obtain⟨q1,q2⟩:=cA.val x hx;rw[<-q1];exact q2))) ?_;rintro v3 u3 l3 rfl;have a9:=V.trans l3;refine G.v (some 4) (a3 H E)<|G.c call266 (Aeh (hX.mono a9) (ok.mono a9)) ?_;intro v4 u4 l4 hN;obtain⟨na,nc,rfl⟩:=hN.opn;have al:(Ai (Dy F F.length)).length=(Dy F F.length).length:=by simp[Ai]
 rw[al]at hN⊢;have ay:=Aez F F.length;have ao:=a9.trans l4;refine G.l (ι:=Nat×(zP×Nat)) (fun i=>[(2,.v (.pointer (zA b))),(3,.p 1 0),(6,sV i.2.1 ((Dy F F.length).take i.1).length i.2.2),(28,sV na (Dy F F.length).length nc),(29,iV ((Dy F F.length).length)),(30,iV i.1)])
  (fun _=>[(1,⟨38,[tV (Ae C.c),sV a1 A.length c1,sV a2 Q.length c2]⟩)])
  (fun i u' m'=>i.1<=(Dy F F.length).length/\Af H m' (.slice i.2.1 ((Dy F F.length).take i.1).length i.2.2) 118 2 ((((Dy F F.length).take i.1).map Li).map Ap)) (fun i=>(Dy F F.length).length-i.1) (0,(none,0)) ⟨oV,Af.nil _ _ _⟩ ?_
 rintro J ⟨i,⟨pa,pc⟩⟩ X u5 m5 l5 ⟨hi,m⟩;simp only at hi m X;have ap:=ao.trans l5;by_cases t:i<(Dy F F.length).length
 ·refine G.lT i ((Dy F F.length).length:Int) ?_;obtain⟨k,hk⟩:∃ k,(Dy F F.length)[i]?=some k:=⟨_,A01 t⟩;have am:(Dy F F.length).take (i+1)=(Dy F F.length).take i++[k]:=by rw[A1n,hk];rfl
  obtain⟨bb,ob,rfl,eb⟩:=Ac.at' (hN.mono l5) (j:=i) (e:=zI k) (by simp[Ai,hk]);have b1:((Dy F F.length).take i).length=i:=by rw[A1e];omega
  refine G.N (Dy F F.length).length nc t eb<|G.B 118 2 24 (.agg #[zO,zE]) [.agg #[zI k,zE]] (K1 (Li k)) ?_;intro g6 u6 l6 e6;refine G.k 118 2 24 (.agg #[zO,zE]) H _ [Ap (Li k)] _ g6 0 1 1 m e6 (K1 (Li k)) ?_;intro v7 m7 I;have e7:(((Dy F F.length).take i).map Li).map Ap++[Ap (Li k)]=(((Dy F F.length).take (i+1)).map Li).map Ap:=by rw[am];simp
  rw[e7]at I;obtain⟨a7,c7,rfl⟩:=I.shape;rw[A03,A03]at I⊢;exact G.i i<|G.b (X (i+1,(a7,c7)) _ _ _ cV (l5.trans l6) ⟨dV,I⟩ dV)
 obtain rfl:i=(Dy F F.length).length:=oV;refine G.lF ((Dy F F.length).length:Int) ((Dy F F.length).length:Int) ?_;clear X;rw[A15]at m⊢;have aa:Af H m5 (.slice pa (Le F++J9 F A 0).length pc) 118 2 ((Le F++J9 F A 0).map Ap):=by
  have e1:J9 F A 0 = []:=rfl;have e2:(Le F).length=(Dy F F.length).length:=by unfold Le;simp
  rw[e1,A1x,e2];exact m
 have e0:(Dy F F.length).length=(Le F++J9 F A 0).length:=by
  have e1:J9 F A 0 = []:=rfl;have e2:(Le F).length=(Dy F F.length).length:=by unfold Le;simp
  rw[e1,A1x,e2]
 rw[e0];have az:(Le F).length<=8:=by unfold Le;rw[A03];omega
 refine G.l (ι:=Nat×(zP×Nat)) (fun i=>[(2,.v (.pointer (zA b))),(6,sV i.2.1 (Le F++J9 F A i.1).length i.2.2),(41,sV a1 A.length c1),(42,iV A.length),(43,iV i.1)]) (fun _=>[])
  (fun i u' m'=>i.1<=A.length/\Af H m' (.slice i.2.1 (Le F++J9 F A i.1).length i.2.2) 118 2 ((Le F++J9 F A i.1).map Ap)) (fun i=>A.length-i.1) (0,(pa,pc)) ⟨oV,aa⟩ ?_
 clear m aa e0;rintro J ⟨i,⟨pa,pc⟩⟩ X u6 m6 l6 ⟨hi,m⟩;simp only at hi m X;have ae:=ap.trans l6;have ax:=Aq1 F A i;by_cases t:i<A.length
 ·refine G.lT i A.length ?_;obtain⟨x,a0⟩:∃ x,A[i]?=some x:=⟨_,A01 t⟩;have Z:=Am7 (F:=F) a0;have Y:Adm F lab x.1:=hb x.1 (by obtain⟨q1,q2⟩:=cA.val x (A1k a0);rw[<-q1];exact q2);obtain⟨ba,oa,rfl,ea⟩:=Ac.at' (hA.mono ae) (j:=i) (e:=Bt x) (by simp[a0]);obtain⟨⟨p1,p2⟩,q⟩:=x;simp only at Z Y;refine G.N A.length c1 t ea ?_;have step:∀ {u7:PH},PH.le u6 u7->Bew F (p1,p2)=false->True:=fun _ _=>trivial;by_cases h0:0<=p1
  ·refine G.hT' p1 0 h0 ?_;obtain⟨k,f,aj,a4⟩:∃ (k:Nat) (f:Al),p1=(k:Int)/\F[k]?=some f:=by
    rcases Y with ⟨h1,_⟩|⟨k,f,h1,hf,_⟩
    ·simp only at h1;omega
    exact⟨k,f,h1,hf⟩
   subst aj;have ak:=(A05.1 a4).1;have ad:m6 b=some (.cells [Value.slice xa T.length xc,.slice xb R.length xd,.slice xe F.length W,zI lab].toArray 30 (0,0)):=m.see E;refine G.f 30 b 0 2 2<|G.v none ((a3 m6 ad).fld (j:=2) (xs:=#[.slice xa T.length xc,.slice xb R.length xd,.slice xe F.length W,zI lab]) rfl rfl) ?_;obtain⟨fb,fo,rfl,ef⟩:=Ac.at' (ag.mono ae) (j:=k) (e:=Cm f) (by simp[a4]);refine G.a fb fo F.length W k 3 ak ?_;obtain⟨f1,f2,f3⟩:=f;refine G.f 100 fb (fo+k*3) 1 1<|G.g none (ef.fld (j:=1) (xs:=#[zI f1,zI f2,zI f3]) rfl rfl) ?_;have a6:Bew F ((k:Int),p2)=(f2==2):=by
    unfold Bew;simp only[A23,A02,a4,A4w];rw[decide_eq_true oV];rfl
   rw[a6]at Z;by_cases h2:f2=2
   ·rw[if_pos (by simpa using h2)]at Z;refine G.eT f2 2<|G.B 118 2 24 (.agg #[zO,zE]) [.agg #[zI k,zS p2]] (K1 ((k:Int),p2)) ?_;intro g7 u7 l7 e7;refine G.k 118 2 24 (.agg #[zO,zE]) H _ [Ap ((k:Int),p2)] _ g7 0 1 1 m e7 (K1 ((k:Int),p2)) ?_;intro v8 m8 P;have e8:(Le F++J9 F A i).map Ap++[Ap ((k:Int),p2)]=(Le F++J9 F A (i+1)).map Ap:=by rw[Z];simp
    rw[e8]at P;obtain⟨a8,c8,rfl⟩:=P.shape;rw[A03]at P⊢;exact G.i i<|G.b (X (i+1,(a8,c8)) _ _ _ cV (l6.trans l7) ⟨dV,P⟩ dV)
   rw[if_neg (by simpa using h2)]at Z;refine G.eF f2 2<|G.i i ?_;rw[<-Z]at m⊢;exact G.b (X (i+1,(pa,pc)) _ _ _ cV l6 ⟨dV,m⟩ dV)
  refine G.hF' p1 0 h0 ?_;have a6:Bew F (p1,p2)=false:=by
   unfold Bew;rw[decide_eq_false h0];rfl
  rw[a6,if_neg mV]at Z;refine G.i i ?_;rw[<-Z]at m⊢;exact G.b (X (i+1,(pa,pc)) _ _ _ cV l6 ⟨dV,m⟩ dV)
 obtain rfl:i=A.length:=oV;refine G.lF A.length A.length ?_;have U:(Le F++J9 F A A.length).Nodup:=Aec (cA.srt.nodup Et);have a5:∀ p,p∈Le F++J9 F A A.length↔_:=fun p=>Anj (F:=F) cA (p:=p);have ab:(Le F++J9 F A A.length).length<=1000000:=by grind
 generalize Le F++J9 F A A.length=L at m U a5 ab;by_cases af:24<L.length
 ·exact G.gT L.length 24<|G.drop PH.mt kV (PH.mt_le _)<|G.r (.tuple #[zN,zI 3]) ⟨rfl,.inl ⟨rfl,E6 Bk L,by rw[(Ir (c:=Bk) L).length_eq];exact af,Va Et U,fun p=>(Ir (c:=Bk) L).mem_iff.trans (a5 p)⟩⟩
 refine G.gF L.length 24<|G.callA _ _ kV kV call267 (By m6).symm (Ef m6) (Aq7 m U ab) ?_;rintro v7 u7 m7 l7 ⟨rfl,hS⟩ _;have hp:=Ir (c:=Bk) L;have b0:(E6 Bk L).length=L.length:=hp.length_eq;refine G.give _ _ _ kV hS (fun g=>.inl rfl) ?_;intro u8 l8 ah;exact G.drop PH.mt kV (PH.mt_le _)<|G.r (.tuple #[.slice pa L.length pc,zO]) ⟨rfl,.inr ⟨_,E6 Bk L,rfl,ah,oV,Va Et U,fun p=>hp.mem_iff.trans (a5 p)⟩⟩
end
section
variable {A:List (Par×Rat)}{C:CF}{F:List Al}{i n:Nat}{p:Par}
def Hi (F:List Al)(A:List (Par×Rat))(i:Nat):List Par:=if (F.getD i (0,0,0)).2.1=1 then [Li i] else (A.map (·.1)).filter fun p=>p.1==(i:Int)
def He (F:List Al)(A:List (Par×Rat))(n:Nat):List Par:=(List.range n).flatMap (Hi F A)
def Tn (F:List Al)(A:List (Par×Rat))(n:Nat):He F A (n+1)=He F A n++Hi F A n:=by
 unfold He;rw[A5d,List.flatMap_append];simp
theorem Aa4 (h:p∈Hi F A i):p.1=(i:Int):=by
 unfold Hi at h;split at h
 ·simp at h;subst h;rfl
 grind
def Aqy (h:p∈He F A n):0<=p.1/\p.1<(n:Int):=by
 obtain⟨i,hi,hp⟩:=A57.1 h;have:=Aa4 hp;simp at hi;omega
def As1 {p q:Par}(h:p.1<q.1):Bk p q<0:=by
 unfold Bk Q1;rw[if_pos h,if_pos oV];omega
def Tu {F:List Al}{A:List (Par×Rat)}(e:Hb Bk (A.map (·.1))):∀ n,Hb Bk (He F A n)
 |0=>List.Pairwise.nil
 |n+1=>by
  rw[Tn];refine A35.2 ⟨Tu e n,?_,fun p hp q h=>?_⟩
  ·unfold Hi;split
   ·exact A6f _ _
   exact e.filter _
  have j:=Aqy hp;have m:=Aa4 h;exact As1 oV
theorem Aed (u:Can Bk C.s A)(I:∀ f∈F,f.2.1=1\/f.2.1=2):p∈He F A F.length↔(∃ (i:Nat) (f:Al),p=Li i/\F[i]?=some f/\f.2.1=1)\/(C.s p≠0/\∃ (i:Nat) (f:Al),p.1=(i:Int)/\F[i]?=some f/\f.2.1=2):=by
 have m:p∈A.map (·.1)↔C.s p≠0:=by
  constructor
  ·intro h;obtain⟨x,H,rfl⟩:=A1b.1 h;obtain⟨j,t⟩:=u.val x H;rw[<-j];exact t
  intro h;exact A3m fun E=>h (u.out p E)
 unfold He;rw[A57];constructor
 ·rintro⟨i,hi,hp⟩;unfold Hi at hp;split at hp
  ·grind
  grind
 rintro (⟨i,f,rfl,hf,j⟩|⟨h0,i,f,j,hf,t⟩)
 ·have e:F.getD i (0,0,0)=f:=by simp[A02,hf]
  refine⟨i,by simpa using (A05.1 hf).1,?_⟩;unfold Hi;rw[e,if_pos j];simp
 have e:F.getD i (0,0,0)=f:=by simp[A02,hf]
 refine⟨i,by simpa using (A05.1 hf).1,?_⟩;unfold Hi;rw[e,if_neg oV];exact A7a.2 ⟨m.2 h0,by simpa using j⟩
theorem Apt (n:Nat):(He F A n).length<=n*(A.length+1):=by
 induction n with
 |zero=>exact A1t _
 |succ n ih =>
  rw[Tn,A1d,A16,A3i];have:(Hi F A n).length<=A.length+1:=by
   unfold Hi;split
   ·simp
   grind
  omega
def Ho (A:List (Par×Rat))(i n:Nat):List Par:=((A.take n).map (·.1)).filter fun p=>p.1==(i:Int)
theorem Ain {x:Par×Rat}(h:A[n]?=some x):Ho A i (n+1)=if x.1.1=(i:Int) then Ho A i n++[x.1] else Ho A i n:=by
 unfold Ho;have e:A.take (n+1)=A.take n++[x]:=by rw[A1n,h];rfl
 by_cases j:x.1.1=(i:Int)
 ·grind
 grind
def Aml (A:List (Par×Rat))(i n:Nat):(Ho A i n).length<=A.length:=by
 refine A04 (A8d _ _) ?_;rw[A03,A1e];omega
def Aif {u:PH}{v w:Value}{T:zC}{R:List Br}{lab:Int}{K:Nat}(hX:H5 u v T R F lab)(ok:Bl u T R F lab)(hC:No u w C K)(sC:CFS C)(vC:CFV C)(hK:K<=10000)(hb:∀ p,C.s p≠0->Adm F lab p) :
 zF 37 [v,w] u fun r u'=>Azr u' r F C:=by
 have an:=fun (u':PH) (l:PH.le u u')=>T2 (hX.mono l) (ok.mono l);have ar:=fun (u':PH) (l:PH.le u u')=>Ahu (hC.mono l) sC vC oV;have af:∀ f∈F,f.2.1=1\/f.2.1=2:=fun f U=>by
  obtain⟨n,k,_,Y,_⟩:=ok.feat.ok f U;rcases Y with ⟨Y,_⟩|⟨Y,_⟩
  ·exact .inl Y
  exact .inr Y
 obtain⟨xa,xc,xb,xd,xe,xf,rfl,ay,ax,ak⟩:=id hX;obtain⟨A,Q,a1,c1,a2,c2,rfl,hA,hQ,cA,cQ,kA,kQ⟩:=hC;have az:=ok.f2;have am:∀ n,n<=8->(He F A n).length<=100000:=fun n hn=>by
  have:=Apt (F:=F) (A:=A) n;have Y:n*(A.length+1)<=8*(A.length+1):=A13 _ hn;omega
 refine Fn0.o func37<|G.c call45 (an u (PH.le_refl _)) ?_;rintro v1 u1 l1 rfl;refine G.nF 0 0<|G.c call92 (ar u1 l1) ?_;rintro v2 u2 l2 rfl;have au:=l1.trans l2;refine G.l (ι:=Nat×(zP×Nat)) (fun i=>[(2,.p 0 0),(3,.p 1 0),(7,sV i.2.1 (He F A i.1).length i.2.2),(26,sV xe F.length xf),(27,iV F.length),(28,iV i.1)])
  (fun _=>[(0,⟨30,[sV xa T.length xc,sV xb R.length xd,sV xe F.length xf,iV lab]⟩),(1,⟨38,[tV (Ae C.c),sV a1 A.length c1,sV a2 Q.length c2]⟩)])
  (fun i u' m'=>i.1<=F.length/\Af PH.mt m' (.slice i.2.1 (He F A i.1).length i.2.2) 118 2 ((He F A i.1).map Ap)) (fun i=>F.length-i.1) (0,(none,0)) ⟨oV,Af.nil _ _ _⟩ ?_
 rintro J ⟨i,⟨pa,pc⟩⟩ hJ u3 m3 l3 ⟨hi,P⟩;simp only at hi P hJ;have a4:=au.trans l3;have aq:=am i oV;by_cases ag:i<F.length
 ·refine G.lT i F.length ?_;obtain⟨f,a8⟩:∃ f,F[i]?=some f:=⟨_,A01 ag⟩;have ad:F.getD i (0,0,0)=f:=by simp[A02,a8]
  have hs:=Tn F A i;obtain⟨fb,fo,rfl,ef⟩:=Ac.at' (ak.mono a4) (j:=i) (e:=Cm f) (by simp[a8]);obtain⟨f1,f2,f3⟩:=f;refine G.N F.length xf ag ef ?_;by_cases ae:f2=1
  ·have hp:Hi F A i = [Li i]:=by unfold Hi;rw[ad,if_pos ae]
   rw[hp]at hs;refine G.eT f2 1<|G.B 118 2 24 (.agg #[zO,zE]) [.agg #[zI i,zE]] (K1 (Li i)) ?_;intro g6 u6 l6 e6;refine G.k 118 2 24 (.agg #[zO,zE]) PH.mt ((He F A i).map Ap) [Ap (Li i)] _ g6 0 1 1 P e6 (K1 (Li i)) ?_;intro v7 m7 E;rw[show (He F A i).map Ap++[Ap (Li i)]=(He F A (i+1)).map Ap by rw[hs];simp]at E;obtain⟨a7,c7,rfl⟩:=E.shape;rw[A03]at E⊢;exact G.i i<|G.b (hJ (i+1,(a7,c7)) _ _ _ cV (l3.trans l6) ⟨dV,E⟩ dV)
  have hp:Hi F A i=Ho A i A.length:=by unfold Hi Ho;rw[ad,if_neg ae,A15]
  rw[hp]at hs;refine G.eF f2 1 ?_;have aa:Af PH.mt m3 (.slice pa (He F A i++Ho A i 0).length pc) 118 2 ((He F A i++Ho A i 0).map Ap):=by
   rw[show Ho A i 0 = [] from rfl,A1x];exact P
  have e0:(He F A i).length=(He F A i++Ho A i 0).length:=by rw[show Ho A i 0 = [] from rfl,A1x]
  rw[e0];refine G.l (ι:=Nat×(zP×Nat)) (fun n=>[(2,.p 0 0),(3,.p 1 0),(7,sV n.2.1 (He F A i++Ho A i n.1).length n.2.2),(8,iV i),(26,sV (some ⟨fb,fo,none⟩) F.length xf),(27,iV F.length),(28,iV i),(42,sV a1 A.length c1),(43,iV A.length),(44,iV n.1)])
   (fun _=>[(0,⟨30,[sV xa T.length xc,sV xb R.length xd,sV (some ⟨fb,fo,none⟩) F.length xf,iV lab]⟩),(1,⟨38,[tV (Ae C.c),sV a1 A.length c1,sV a2 Q.length c2]⟩)])
   (fun n u' m'=>n.1<=A.length/\Af PH.mt m' (.slice n.2.1 (He F A i++Ho A i n.1).length n.2.2) 118 2 ((He F A i++Ho A i n.1).map Ap)) (fun n=>A.length-n.1) (0,(pa,pc)) ⟨oV,aa⟩ ?_
  clear P aa e0;rintro J2 ⟨n,⟨pa,pc⟩⟩ I u4 m4 l4 ⟨hn,P⟩;simp only at hn P I;have b1:=Aml A i n;by_cases V:n<A.length
  ·refine G.lT n A.length ?_;obtain⟨x,a6⟩:∃ x,A[n]?=some x:=⟨_,A01 V⟩;have W:=Ain (i:=i) a6;obtain⟨ba,oa,rfl,ea⟩:=Ac.at' (hA.mono (a4.trans l4)) (j:=n) (e:=Bt x) (by simp[a6]);obtain⟨⟨t,H⟩,q⟩:=x;simp only at W;refine G.N A.length c1 V ea ?_;by_cases Z:t=(i:Int)
   ·rw[if_pos Z]at W;refine G.eT' t i Z<|G.B 118 2 24 (.agg #[zO,zE]) [.agg #[zI t,zS H]] (K1 (t,H)) ?_;intro g6 u6 l6 e6;refine G.k 118 2 24 (.agg #[zO,zE]) PH.mt ((He F A i++Ho A i n).map Ap) [Ap (t,H)] _ g6 0 1 1 P e6 (K1 (t,H)) ?_;intro v7 m7 E;rw[show (He F A i++Ho A i n).map Ap++[Ap (t,H)]=(He F A i++Ho A i (n+1)).map Ap by rw[W];simp]at E;obtain⟨a7,c7,rfl⟩:=E.shape;rw[A03]at E⊢;exact G.i n<|G.b (I (n+1,(a7,c7)) _ _ _ cV (l4.trans l6) ⟨dV,E⟩ dV)
   rw[if_neg Z]at W;refine G.eF' t i Z<|G.i n ?_;rw[<-W]at P⊢;exact G.b (I (n+1,(pa,pc)) _ _ _ cV l4 ⟨dV,P⟩ dV)
  obtain rfl:n=A.length:=oV;refine G.lF A.length A.length<|G.i i ?_;rw[<-hs]at P⊢;exact G.b (hJ (i+1,(pa,pc)) _ _ _ cV (l3.trans l4) ⟨dV,P⟩ dV)
 obtain rfl:i=F.length:=oV;refine G.lF F.length F.length ?_;clear hJ;have a0:∀ p,p∈He F A F.length↔_:=fun p=>Aed (F:=F) cA af (p:=p);have X:Hb Bk (He F A F.length):=Tu cA.srt _;generalize aw:He F A F.length=L at P a0 X aq;have ap:∀ x∈A,(x.1.1 = -1/\0<=lab/\x.1.2 = [])\/(0<=x.1.1/\x.1∈L):=fun x hx=>by
  obtain⟨q1,q2⟩:=cA.val x hx;have ah:C.s x.1≠0:=by rw[<-q1];exact q2
  rcases hb x.1 ah with h|⟨k,f,h1,U,h3⟩
  ·exact .inl h
  refine .inr ⟨oV,(a0 x.1).2 ?_⟩;rcases af f (A1k U) with h4|h4
  ·refine .inl ⟨k,f,?_,U,h4⟩;obtain⟨⟨t,H⟩,q⟩:=x;simp only at h1 h3;rw[h1,h3.resolve_left oV];rfl
  exact .inr ⟨ah,k,f,h1,U,h4⟩
 refine G.l (ι:=Nat) (fun i=>[(2,.p 0 0),(7,sV pa L.length pc),(61,sV a1 A.length c1),(62,iV A.length),(63,iV i)])
  (fun _=>[(0,⟨30,[sV xa T.length xc,sV xb R.length xd,sV xe F.length xf,iV lab]⟩)])
  (fun i u' m'=>i<=A.length/\m'=m3) (fun i=>A.length-i) 0 ⟨oV,rfl⟩ ?_
 rintro J i hJ u4 m4 l4 ⟨b0,rfl⟩;have av:=a4.trans l4;by_cases a3:i<A.length
 ·refine G.lT i A.length ?_;obtain⟨x,a5⟩:∃ x,A[i]?=some x:=⟨_,A01 a3⟩;have hx:=ap x (A1k a5);obtain⟨ba,oa,rfl,ea⟩:=Ac.at' (hA.mono av) (j:=i) (e:=Bt x) (by simp[a5]);obtain⟨⟨t,H⟩,q⟩:=x;simp only at hx;refine G.N A.length c1 a3 ea ?_;rcases hx with ⟨h1,Y,h3⟩|⟨h1,Y⟩
  ·exact G.eT' t (-1) h1<|G.hT' lab 0 Y<|G.q H [] h3<|G.i i<|G.b (hJ (i+1) _ _ _ cV l4 ⟨oV,rfl⟩ oV)
  refine G.eF t (-1)<|G.l (ι:=Nat×Bool) (fun n=>[(2,.p 0 0),(7,sV pa L.length pc),(13,.p 21002 0),(14,bV n.2),(61,sV (some ⟨ba,oa,none⟩) A.length c1),(62,iV A.length),(63,iV i),(82,sV pa L.length pc),(83,iV L.length),(84,iV n.1)])
   (fun _=>[(0,⟨30,[sV xa T.length xc,sV xb R.length xd,sV xe F.length xf,iV lab]⟩),(21002,⟨162,[iV t,tV H,tV (Ae q)]⟩)])
   (fun n u' m'=>n.1<=L.length/\m'=m4/\n.2=(L.take n.1).any fun y=>decide (y=(t,H))) (fun n=>L.length-n.1) (0,false) ⟨oV,rfl,rfl⟩ ?_
  rintro J2 ⟨n,ai⟩ I u5 m5 l5 ⟨hn,rfl,U⟩;simp only at hn U I;by_cases V:n<L.length
  ·refine G.lT n L.length ?_;obtain⟨y,a9⟩:∃ y,L[n]?=some y:=⟨_,A01 V⟩;have m:((L.take (n+1)).any fun y=>decide (y=(t,H)))=(((L.take n).any fun y=>decide (y=(t,H)))||decide (y=(t,H))):=by
    rw[A1n,a9,List.any_append];simp
   obtain⟨gs,cs,ac⟩:=P.ptr (fun e=>by
    have:L.length=0:=by simpa using congrArg List.length e
    omega)
   simp only[Value.slice.injEq]at ac;obtain⟨rfl,_,rfl⟩:=ac;have ao:ElP m5 gs (0+n*2) (Ap y):=P.el (by rw[A1a,a9];rfl);refine G.O L.length pc V ao ?_;cases ai with
   |true =>
    refine G.i n ?_;rw[<-U,Bool.true_or]at m;exact G.b (I (n+1,true) _ _ _ cV l5 ⟨dV,rfl,m.symm⟩ dV)
   |false =>
    rw[<-U,A80]at m;by_cases Z:y=(t,H)
    ·rw[decide_eq_true Z]at m;exact G.eqAgg 118 #[zI y.1,zS y.2] #[zI t,zS H] true kV kV kV (fun w=>by rw[<-decide_eq_true Z];exact Bq.eq y (t,H) w)<|G.i n<|G.b (I (n+1,true) _ _ _ cV l5 ⟨dV,rfl,m.symm⟩ dV)
    rw[decide_eq_false Z]at m;exact G.eqAgg 118 #[zI y.1,zS y.2] #[zI t,zS H] false kV kV kV (fun w=>by rw[<-decide_eq_false Z];exact Bq.eq y (t,H) w)<|G.i n<|G.b (I (n+1,false) _ _ _ cV l5 ⟨dV,rfl,m.symm⟩ dV)
  obtain rfl:n=L.length:=oV;refine G.lF L.length L.length ?_;have ab:((L.take L.length).any fun y=>decide (y=(t,H)))=true:=by
   rw[A15];exact A5h.2 ⟨_,Y,mV⟩
  rw[ab]at U;subst U;exact G.i i<|G.b (hJ (i+1) _ _ _ cV (l4.trans l5) ⟨oV,rfl⟩ oV)
 obtain rfl:i=A.length:=oV;refine G.lF A.length A.length ?_;by_cases aj:24<L.length
 ·exact G.gT L.length 24<|G.drop PH.mt kV (PH.mt_le _)<|G.r (.tuple #[zN,zI 3]) ⟨rfl,.inl ⟨rfl,L,aj,X,a0⟩⟩
 refine G.gF L.length 24<|G.give _ _ _ kV P (fun g=>.inl rfl) ?_;intro u8 l8 al;exact G.r (.tuple #[.slice pa L.length pc,zO]) ⟨rfl,.inr ⟨_,L,rfl,al,oV,X,a0⟩⟩
end
section
variable [Cl] [Co]
section
variable {P:Program} {fn:Func} {Post:Ce}
def Bd9 (P:Program)(pre:zK)(p q r:Nat)(post:zK)(st:List KI×S):Bool:=match st with
 |(.code (.region id ops true)::k,s)=>Alo ops s pre [p,q,r] post&&bef ops ops.size r q&&(Ru P id ops pre s).isSome
 |_=>false
end
section rules
variable {P:Program} [A6 P] {fn:Func} {Post:Ce} {st:List KI×S} {u m:PH}
def Bdm (e:TypeId)(sz X:Nat)(z:Value)(es:zV)(V:A9 sz es)(a0:z.cells.size=sz)(Q:0<sz)(K:0<es.length)(hb:es.length*sz<=16777216)(E:Operand->Value)(o:Oper)(C:Bc P E o.op=.buildS (some (e,sz,X,z)) es.length (es.zipIdx.map fun p=>(p.2,p.1)))(w:World)(H:Bv u m w) :
 Eg P E o w fun v' w'=>∃ T R,Bv T R w'/\B0 u m w T R w'/\(R=m/\∃ g,v'=zG g es.length es.length/\Hc T g 0 sz es):=by
 obtain⟨t,qs,U,e2,hi⟩:=En C;obtain⟨Y,a1,W,pos,after,F⟩:=o;simp only at U;subst U;obtain⟨hu,i,I,J,rfl,rfl⟩:=D4 hi;obtain⟨g1,g2,g3,g4⟩:=H.newU (.cells (A2 es).toArray e (0,0));have L:es.length*i.size≠0:=by have:=A51 K Q;omega
 have h:=Sn es 0 ((Array.range (es.length*i.size)).map (z.cells[· % z.cells.size]!)) V mV;have Z:((Array.range (es.length*i.size)).map (z.cells[· % z.cells.size]!)).toList.drop (es.length*i.size) = []:=mV;simp only[A2w,Z]at h;refine B8 (w':=w.alloc (.cells (A2 es).toArray e (0,0))) (v:=.slice (some ⟨w.heap.size,0,none⟩) es.length es.length) ?_ ⟨_,m,g1,g2,rfl,_,rfl,?_⟩
 ·simp only[execOp,e2];simp[Instr.buildSlice,run_underlying hu,sizeOf,typeInfo,zeroValue,I,J,L,h,newRow,show ¬ 16777216<es.length*i.size by omega]
 intro j x hj ii y hy;refine⟨_,_,_,Ab _ _ _,?_⟩;rw[A3j,A2w];exact Ju V hj hy
theorem G.three (pre:zK)(p q r:Nat)(j:zK)(e:TypeId)(sz bt:Nat)(z:Value)(es:zV)(h:Bd9 P pre p q r j (adv P st)=true)(U:Aj P (Akz P pre (q::p::r::j) (adv P st))=.buildS (some (e,sz,bt,z)) es.length (es.zipIdx.map fun p=>(p.2,p.1)))(ho:A9 sz es)(W:z.cells.size=sz)(V:0<sz)(T:0<es.length)(hb:es.length*sz<=16777216)
 (X:G P fn Post (Akz P pre (p::q::r::j) (adv P st)) u m)
 (Y:∀ g E,PH.le u E->Hc E g 0 sz es->G P fn Post (nx (Akz P pre (q::p::r::j) (adv P st)) (zG g es.length es.length)) E m/\G P fn Post (nx (Akz P pre (q::r::p::j) (adv P st)) (zG g es.length es.length)) E m):G P fn Post st u m:=by
 refine G.stp ⟨?_⟩;generalize adv P st=st' at h U X Y;unfold Bd9 at h;split at h
 ·rename_i id ops k s;rw[A1m,A1m]at h;obtain⟨⟨h1,h0⟩,h2⟩:=h;obtain⟨I,H⟩:=A6a.1 h2;have J:∀ l,Akz P pre l (.code (.region id ops true)::k,s)=(.reg id ops true l::k,I):=fun l=>by unfold Akz;simp only[H]
  rw[J]at X U;rw[J,J]at Y;obtain⟨a3,a0,a1,i',l',a4,a5,o,e1,F,hg,hd,hv,hs,C,a2⟩:=Eq U mV;obtain⟨⟨⟨rfl,rfl,rfl,rfl,rfl⟩,rfl⟩,rfl⟩:=e1;refine Sym.reg_tree A6.mx h1 (Ob.autos H (.three X.out h0 ?_));refine Ob.big (K:=fun v' E Z=>Z=m/\∃ g,v'=zG g es.length es.length/\Hc E g 0 sz es) F hg hd hv hs (by
   obtain⟨t,qs,e2,_⟩:=En C;rw[e2];rfl) (fun v E Z L=>.inl (by rw[L.1];exact PH.le_refl _)) (fun w Q=>Bdm e sz bt z es ho W V T hb _ o C w Q) (fun v E Z R L=>?_)
  obtain⟨rfl,g,rfl,hE⟩:=L;obtain⟨c1,c2⟩:=Y g E R hE;have n1:nx (.reg id ops true (q::p::r::j)::k,I) (zG g es.length es.length)=(.reg id ops true (p::r::j)::k,I.put o.dst (.v (zG g es.length es.length))):=by grind
  have n2:nx (.reg id ops true (q::r::p::j)::k,I) (zG g es.length es.length)=(.reg id ops true (r::p::j)::k,I.put o.dst (.v (zG g es.length es.length))):=by
   unfold nx;simp only[F]
  rw[n1]at c1;rw[n2]at c2;exact .nil ⟨c1.out,c2.out⟩
 cases h
end rules
end
def cfE (m0:Rat)(M:List (Par×Rat)):Option Par->Rat
 |none=>m0
 |some p=>Fo p M
structure Te (u:PH)(v cv:Value)(T:zC)(R:List Br)(F:List Al)(lab:Int)(C:CF)(K k:Nat)(P:List Par):Prop where
 sch:H5 u v T R F lab
 ok:Bl u T R F lab
 cof:No u cv C K
 sC:CFS C
 vC:CFV C
 K:K<=10000
 bel:∀ p,C.s p≠0->Adm F lab p
 mom:Ai6 C k
 prm:Nn F C P
 p24:P.length<=24
 lab0:0<=lab
 d:CFD 16 (10^75) C
def Te.mono {u m:PH}{v j:Value}{T:zC}{R:List Br}{F:List Al}{lab:Int}{C:CF}{K k:Nat}{P:List Par}(h:Te u v j T R F lab C K k P)(e:PH.le u m):Te m v j T R F lab C K k P :=
 ⟨h.sch.mono e,h.ok.mono e,h.cof.mono e,h.sC,h.vC,h.K,h.bel,h.mom,h.prm,h.p24,h.lab0,h.d⟩
def CFD.to {d e N M:Nat}{F:CF}(h:CFD d N F)(j:d<=e)(m:N*12^(e-d)<=M):CFD e M F:=⟨h.c.to j m,fun p=>(h.s p).to j m,fun q=>(h.t q).to j m⟩
theorem A0j {q n d j:Rat}(e:q=n*j)(hi:d*j=1):q*d=n:=by rw[e];grind
section
variable {F:List Al}{lab:Int}{p:Par}{ss:zW}
def Ak0 {p:Par}:∀ (L:List LF) (C:CF),(Iv C L).s p≠0->C.s p≠0\/∃ q,some (some (p,q))∈L
 |[],C,h=>.inl h
 |x::L,C,h=>by
  rcases Ak0 L (C.mul x.cf) h with u|⟨q,E⟩
  ·rcases G1 (a:=x.cf.s p*C.c) (b:=C.s p*x.cf.c) u with m|m
   ·right;have j:=(C1 m).1
    match x,j with
    |none,j=>exact absurd rfl j
    |some none,j=>exact absurd rfl j
    |some (some (p',q)),j =>
     have t:(if p=p' then q else 0)≠0:=j;by_cases e:p=p'
     ·subst e;exact⟨q,A4l ..⟩
     rw[if_neg e]at t;exact absurd rfl t
   exact .inl (C1 m).1
  exact .inr ⟨q,A2f _ E⟩
def Yf (h:(cfT F lab ss).s p≠0):Adm F lab p/\∃ (a:Nat) (q:Rat),(Fh F lab ss)[a]?=some (some (some (p,q)))/\∀ (i:Nat) (f:Al),p.1=(i:Int)->F[i]?=some f->f.2.1=2->q=1:=by
 rcases Ak0 _ _ h with h|⟨q,U⟩
 ·exact absurd rfl h
 obtain⟨a,E,H⟩:=A2y U;have J:a<ss.length:=by rw[G3]at E;exact E
 have e:=Hg (F:=F) (lab:=lab) (w:=ss[a]) (A01 J);have m:Gm F lab a ss[a]=some (some (p,q)):=by
  rw[A01 E,H]at e;exact (A28 e).symm
 have C:(Fh F lab ss)[a]?=some (some (some (p,q))):=by rw[e,m]
 generalize ss[a]=w at m;by_cases L:(a:Int)=lab
 ·have P:Gm F lab a w=Sy w:=by unfold Gm;rw[if_pos L]
  rw[P]at m;unfold Sy at m;split at m
  ·cases m
  simp only[A1f,A2i]at m;obtain⟨rfl,_⟩:=m;exact⟨.inl ⟨rfl,oV,rfl⟩,a,q,C,fun i f t=>by simp only at t;omega⟩
 rcases Gn (F:=F) (w:=w) L with t|⟨i,f,I,T,t⟩
 ·rw[t]at m;cases m
 rw[t]at m;unfold I3 at m;by_cases u:f.2.1=2
 ·rw[if_pos u]at m;simp only[A1f,A2i]at m;obtain⟨rfl,rfl⟩:=m;exact⟨.inr ⟨i,f,rfl,I,.inl u⟩,a,_,C,fun _ _ _ _ _=>rfl⟩
 rw[if_neg u]at m;split at m
 ·split at m<;>cases m
 simp only[A1f,A2i]at m;obtain⟨rfl,_⟩:=m;refine⟨.inr ⟨i,f,rfl,I,.inr rfl⟩,a,q,C,fun j g Q K R=>?_⟩;simp only at Q;obtain rfl:i=j:=oV;rw[I]at K;cases K;exact absurd R u
theorem Aj4 :∀ {L:List Dm},(Cf F lab L).s p≠0->∃ y∈L,(cfT F lab y.1).s p≠0:=by
 intro L;induction L using Ig with
 |h0=>exact fun h=>absurd rfl h
 |h1 L y ih =>
  intro h;rw[Eb]at h;rcases G1 (a:=(Cf F lab L).s p) (b:=(cfT F lab y.1).s p*(y.2.1:Rat)) h with h1|h1
  ·obtain⟨z,hz,h2⟩:=ih h1;exact⟨z,A24 _ hz,h2⟩
  ·exact⟨y,mV,(C1 h1).1⟩
def Awc {T:zC}{i:Nat}{f:Al}(hF:Da T F lab)(t:Bw T ss)(j:-1<=lab)(m:∀ l:Nat,lab=(l:Int)->l<ss.length)(hp:p.1=(i:Int))(C:F[i]?=some f)(E:f.2.1=2):(cfT F lab ss).s p=0\/(cfT F lab ss).s p=1:=by
 by_cases h:(cfT F lab ss).s p=0
 ·exact .inl h
 right;obtain⟨_,a,q,u,H⟩:=Yf h;have e:=H i f hp C E;subst e;cases hc:G4 F lab ss with
 |true=>exact Tv hF t j m hc u
 |false=>rw[Ajl hF t j m hc]at h;exact absurd rfl h
theorem Asv :∀ {L:List Dm},(∀ y∈L,1<=y.2.1/\((cfT F lab y.1).s p=0\/(cfT F lab y.1).s p=1))->∃ k:Nat,(Cf F lab L).s p=(k:Rat)/\((∃ y∈L,(cfT F lab y.1).s p=1)->0<k):=by
 intro L;induction L using Ig with
 |h0=>exact fun _=>⟨0,rfl,fun⟨y,hy,_⟩=>by simp at hy⟩
 |h1 L y ih =>
  intro h;obtain⟨k,hk,hpos⟩:=ih fun z hz=>h z (A24 _ hz);obtain⟨hw,hy⟩:=h y mV;rw[Eb];show ∃ k:Nat,(Cf F lab L).s p+(cfT F lab y.1).s p*(y.2.1:Rat)=(k:Rat)/\_;rw[hk];rcases hy with e|e
  ·refine⟨k,by rw[e];grind,fun⟨z,hz,h1⟩=>hpos ?_⟩;rcases A1h.1 hz with hz|hz
   ·exact⟨z,hz,h1⟩
   ·simp only[A12]at hz;subst hz;rw[e]at h1;exact absurd h1 fV
  ·exact⟨k+y.2.1,by rw[e,Bbs];grind,fun _=>oV⟩
def Aln {u:PH}{T:zC}{R:List Br}{F:List Al}{lab:Int}{L:List Dm}{y:Dm}{x:Par×Rat}{P:List Par}(ok:Bl u T R F lab)(C:∀ y∈L,Bw T y.1/\1<=y.2.1)(K:y∈L)(V:G4 F lab y.1=true)
 (U:∀ p,p∈P↔(∃ (i:Nat) (f:Al),p=Li i/\F[i]?=some f/\f.2.1=1)\/((Cf F lab L).s p≠0/\∃ (i:Nat) (f:Al),p.1=(i:Int)/\F[i]?=some f/\f.2.1=2)) (hx:x∈Dx F y.1 F.length):x.1∈P:=by
 have H:∀ z∈L,∀ l:Nat,lab=(l:Int)->l<z.1.length:=fun z J l X=>by
  obtain⟨n,Y⟩:=ok.l2 l X;have h1:=(A05.1 Y).1;have:=(C z J).1.len;omega
 obtain⟨i,f,hi,E,m⟩:=F9.1 hx;have j:=Qq (lab:=lab) ok.feat (C y K).1 E;obtain⟨n,kd,hT,h,Z⟩:=ok.feat.ok f (A1k E);unfold Jf at m;unfold I3 at j;by_cases t:f.2.1=2
 ·rw[if_pos t]at m j;cases m;refine (U _).2 (.inr ⟨?_,i,f,rfl,E,t⟩);have hs:=Tv ok.feat (C y K).1 ok.l1 (H y K) V j;obtain⟨k,W,I⟩:=Asv (F:=F) (lab:=lab) (p:=((i:Int),y.1.getD f.1 [])) (L:=L) fun z J=>⟨(C z J).2,Awc ok.feat (C z J).1 ok.l1 (H z J) rfl E t⟩;have h0:=I ⟨y,K,hs⟩;show (Cf F lab L).s ((i:Int),y.1.getD f.1 [])≠0;rw[W];intro e;have:k=0:=by exact_mod_cast e
  omega
 rw[if_neg t]at m;split at m
 ·cases m
 cases m;refine (U _).2 (.inl ⟨i,f,rfl,E,?_⟩);rcases h with ⟨Q,_⟩|⟨Q,_⟩
 ·exact Q
 exact absurd Q t
end
def Az0:Ag0 (CF.num 0):=⟨rfl,fun _=>rfl,fun _=>rfl⟩
def Afe:SmW 0:=⟨jV,jV⟩
def Acn {T:zC}{F:List Al}{lab:Int}{ss:zW}(hF:Da T F lab)(u:Bw T ss)(C:-1<=lab)(H:∀ l:Nat,lab=(l:Int)->l<ss.length)(I:G4 F lab ss=true){p:Par}(hp:0<=p.1):(cfT F lab ss).s p=Fo p (Dx F ss F.length):=by
 have E:=Nb F ss F.length (A08 _);by_cases h:(cfT F lab ss).s p=0
 ·rw[h];refine (Na fun j=>?_).symm;obtain⟨x,L,rfl⟩:=A1b.1 j;obtain⟨K,a,m⟩:=An5 (lab:=lab) hF u L;exact K ((Tv hF u C H I (p:=x.1) (q:=x.2) m).symm.trans h)
 obtain⟨_,a,q,m,_⟩:=Yf h;have J:=Tv hF u C H I m;rw[J]at h;rcases A1h.1 (As8 hF u C m h fun l _ e=>by
  rw[e];exact (Um (Aa7 (t:=[48]) ⟨0,Afe,Fz.symm⟩).2).2 rfl) with j|j
 ·unfold Ax2 at j;split at j
  ·simp only[A12,A2i]at j;obtain⟨rfl,_⟩:=j;simp only at hp;omega
  simp at j
 rw[J];exact (Kh (a:=p) (q:=q) E j).symm
def Bb (n:Nat)(f:Nat->Rat):Rat:=B9 f (List.range n)
def Ds (n:Nat)(f:Nat->Rat):Bb (n+1) f=Bb n f+f n:=by unfold Bb;rw[A5d,Ang]
def Uk (f:Nat->Rat):Bb 0 f=0:=rfl
def Ah {n:Nat}{f g:Nat->Rat}(h:∀ i,i<n->f i=g i):Bb n f=Bb n g:=Dt fun i hi=>h i (A6q.1 hi)
theorem Y8 (n:Nat)(f g:Nat->Rat):Bb n (fun i=>f i-g i)=Bb n f-Bb n g:=by
 induction n with
 |zero=>show (0:Rat)=0-0;decide +kernel
 |succ n ih=>rw[Ds,Ds,Ds,ih];grind
def B4 (k:Rat)(n:Nat)(f:Nat->Rat):Bb n (fun i=>k*f i)=k*Bb n f:=Ji k _
section
def Z2 {α β:Type}(f:α->β->Rat):∀ (l:List α) (k:List β),B9 (fun a=>B9 (fun b=>f a b) k) l=B9 (fun b=>B9 (fun a=>f a b) l) k
 |[],k=>(Fv fun _ _=>rfl).symm
 |a::l,k=>by
  show B9 (fun b=>f a b) k+B9 (fun a=>B9 (fun b=>f a b) k) l=B9 (fun b=>f a b+B9 (fun a=>f a b) l) k;rw[Z2 f l k,L7]
theorem Acs {α:Type}{f:α->Rat}:∀ {l:List α},(∀ a∈l,0<=f a)->0<=B9 f l
 |[],_=>Bcq
 |a::l,h=>by
  have j:=h a (A4l ..);have m:=Acs fun x e=>h x (A2f _ e);show 0<=f a+B9 f l;grind
theorem Ww {α:Type}{f:α->Rat}:∀ {l:List α},(∀ a∈l,0<=f a)->B9 f l=0->∀ a∈l,f a=0
 |[],_,_,a,j=>by cases j
 |x::l,h,e,a,j=>by
  have u:=h x (A4l ..);have E:=Acs fun y m=>h y (A2f _ m);have t:f x+B9 f l=0:=e;rcases A1g.1 j with rfl|j
  ·grind
  exact Ww (fun y m=>h y (A2f _ m)) (by grind) a j
def Ajc (C:CF)(e f:Option Par):As C e f=As C f e:=by
 cases e<;>cases f<;>simp only[As]<;>rw[Wi]
section
variable {P:List Par} {C:CF} {b d z:Option Par->Rat} {k:Rat}
def P7 (k:Rat)(b:Option Par->Rat):Option Par->Rat
 |none=>0
 |some p=>k*b (some p)
def Vn (P:List Par)(b:Option Par->Rat):Rat:=B9 (fun p=>b (some p)*b (some p)) P
def As4 (z b:Option Par->Rat)(P:List Par)(C:CF):Rat:=B9 (fun e=>z e*B9 (fun f=>As C e f*b f) (An P)) (An P)
theorem Zz (b:Option Par->Rat):Dh b P C=As4 b b P C:=by
 exact Dt fun e _=>by rw[<-Ji];exact Dt fun f _=>by grind
def S6 (f:Option Par->Rat):B9 f (An P)=f none+B9 (fun p=>f (some p)) P:=by
 unfold An;show f none+_=_;rw[So]
theorem Arq (P:List Par)(b:Option Par->Rat):0<=Vn P b:=Acs fun p _=>by
 rcases A9g (a:=0) (b:=b (some p)) with h|h
 ·exact A4o h h
 have:=A4o (a:=-b (some p)) (b:=-b (some p)) (by grind) (by grind);grind
theorem Ast (K:0<k)(Q:0<C.c)(hp:∀ z,0<=Dh z P C)(m:∀ e∈An P,B9 (fun f=>As C e f*z f) (An P)+P7 k z e=0):∀ e∈An P,z e=0:=by
 have E:As4 z z P C+k*Vn P z=0:=by
  have:As4 z z P C=B9 (fun e=>(-1)*(z e*P7 k z e)) (An P):=Dt fun e j=>by have:=m e j;grind
  rw[this,Ji,S6];have u:B9 (fun p=>z (some p)*P7 k z (some p)) P=k*Vn P z:=by unfold Vn;rw[<-Ji];exact Dt fun p _=>by unfold P7;grind
  rw[u];unfold P7;grind
 rw[<-Zz]at E;have F:=Arq P z;have L:=A4o (Bat K) F;have H:Vn P z=0:=by
  have:k*Vn P z=0:=by grind
  rcases A40.1 this with e|e
  ·grind
  exact e
 have I:∀ p∈P,z (some p)=0:=fun p hp=>by
  have:=Ww (fun q _=>by
   rcases A9g (a:=0) (b:=z (some q)) with h|h
   ·exact A4o h h
   have:=A4o (a:=-z (some q)) (b:=-z (some q)) (by grind) (by grind);grind) H p hp
  rcases A40.1 this with e|e<;>exact e
 have J:z none=0:=by
  have:=m none (by unfold An;simp);rw[S6,Fv fun p hp=>by rw[I p hp,Bau]]at this;have e:C.c*z none=0:=by
   have t:As C none none=C.c:=rfl;rw[t]at this;unfold P7 at this;grind
  rcases A40.1 e with e|e
  ·grind
  exact e
 intro e j;rcases A1g.1 j with rfl|j
 ·exact J
 grind
end
theorem Af3 {T:zC}{F:List Al}{lab:Int}(hF:Da T F lab)(h1:-1<=lab)(h2:∀ l:Nat,lab=(l:Int)->l<T.length)(z:Option Par->Rat)(P:List Par):∀ {L:List Dm},(∀ y∈L,Bw T y.1)->0<=Dh z P (Cf F lab L):=by
 intro L;induction L using Ig with
 |h0=>exact fun _=>by show 0<=Dh z P (CF.num 0);rw[Az0.norm z P];exact Bcq
 |h1 L y ih =>
  intro h;have i1:=ih fun z hz=>h z (A24 _ hz);have hy:=h y mV;have hlen:=hy.len;rw[Eb,Am0];rcases Pf hF hy h1 (fun l hl=>by have:=h2 l hl;omega) with ⟨_,o⟩|⟨_,o⟩
  ·rw[o.norm];generalize Anc z P (cfT F lab y.1).s=v;have hw:(0:Rat)<=(y.2.1:Rat):=by grind
   have hv:0<=v*v:=by
    rcases A9g (a:=0) (b:=v) with h|h
    ·exact A4o h h
    ·have:=A4o (a:=-v) (b:=-v) (by grind) (by grind);grind
   have:=A4o hv hw;grind
  ·rw[o.norm];grind
end
section
variable {F:List Al}{n:Nat}
section
variable {P:Program} [A6 P] {fn:Func} {Post:Ce} {st:List KI×S} {u m:PH}
def G.storeE {t:TypeId}(sz i:Nat)(m0:PH)(es:zV)(g n c j:Nat)(e K x:Value)(h:Aj P (adv P st)=.store (some 1) (.pointer (some ⟨g,0+j*sz+i,none⟩)) x)(ha:Af m0 m (zG g n c) t sz es)(hj:es[j]?=some e)(hi:i<sz)(U:K.cells.toList=e.cells.toList.set i x)(W:x.cells = #[x])(R:Ax x=true)
 (k:∀ m',Af m0 m' (zG g n c) t sz (es.set j K)->G P fn Post (nx (adv P st) undef) u m'):G P fn Post st u m:=by
 obtain⟨C,hh⟩:=ha;obtain⟨E,rfl⟩:=A05.1 hj;rcases hh with ⟨hn,_,_⟩|⟨g',cap,rest,h0,rfl,Z,hc,hl,Y⟩
 ·cases hn
 simp only[Value.slice.injEq,A1f,Addr.mk.injEq]at Z;obtain⟨⟨rfl,_⟩,rfl,rfl⟩:=Z;have Q:=(C _ (A09 E)).1;have T:=(C _ (A09 E)).2;have L:=Ba C;have a0:j*sz+sz<=es.length*sz:=by
  have:=A13 sz E;rw[Nat.succ_mul]at this;exact this
 have I:K.cells.size=sz:=by
  rw[<-A3o,U,A21,A3o];exact Q
 have J:A9 sz (es.set j K):=C.set ⟨I,fun y H=>by
  rw[U]at H;rcases A7c H with H|rfl
  ·exact T y H
  exact R⟩
 refine G.storeM 1 g (0+j*sz+i) t (A2 es++rest) x h (Ab _ _ _) (fun y H=>?_) (by rw[A1d,L];omega) (by rw[W];rfl) (by rw[W];simp[R]) ?_
 ·rcases A1h.1 H with H|H
  ·exact Fu C y H
  exact Y y H
 rw[Dp];have e1:(A2 es++rest).take (0+j*sz+i)++x.cells.toList++(A2 es++rest).drop (0+j*sz+i+1)=A2 (es.set j K)++rest:=by
  have h1:A2 (es.set j K)=(A2 es).set (j*sz+i) x:=by
   have q1:=Rp (e:=K) C I E;have q2:=Rp (e:=es[j]) C Q E;rw[A9w]at q2;rw[q1,U]
   conv=>rhs;rw[q2]
   have V:((A2 es).take (j*sz)).length=j*sz:=by rw[A1e,L];omega
   have X:es[j].cells.toList.length=sz:=by simpa using Q
   rw[A2k,A2k,A4t _ _ oV,V,Nat.add_sub_cancel_left,A8n _ _ oV]
  have h2:(A2 es++rest).set (j*sz+i) x=(A2 es).set (j*sz+i) x++rest:=A8n _ _ oV;rw[h1,<-h2,List.set_eq_take_append_cons_drop,if_pos (by rw[A1d];omega),W,A2w];simp
 rw[e1];refine k _ ⟨J,.inr ⟨g,c,rest,h0,rfl,by rw[A21],by rw[A21];exact hc,?_,Y⟩⟩;rw[A1d,Ba J,A21,<-L,<-A1d];exact hl
end
def Az6 {u:PH}{v:Value}{a:Nat}(h:Ac u v 3 (F.map Cm))(W:F.length<=1000000):zF 105 [v,zI a] u fun r _=>r=.bool (F.any fun f=>f.1==a):=by
 obtain⟨xa,xc,rfl⟩:=h.opn;rw[A03]at h⊢;refine Fn0.o func105<|G.l (ι:=Nat) (fun i=>[(1,iV a),(7,sV xa F.length xc),(8,iV F.length),(9,iV i)]) (fun _=>[])
  (fun i u' T=>i<=F.length/\(∀ j f,j<i->F[j]?=some f->f.1≠a)/\T=PH.mt) (fun i=>F.length-i) 0 ⟨oV,fun j f E=>oV,rfl⟩ ?_
 rintro J i Q u2 X l2 ⟨hi,h0,rfl⟩;by_cases C:i<F.length
 ·refine G.lT i F.length ?_;obtain⟨f,t⟩:∃ f,F[i]?=some f:=⟨_,A01 C⟩;obtain⟨U,V,rfl,L⟩:=Ac.at' (h.mono l2) (j:=i) (e:=Cm f) (by simp[t]);obtain⟨I,Y,Z⟩:=f;refine G.N F.length xc C L ?_;by_cases K:I=a
  ·refine G.eT I a ?_;exact G.r zT ⟨rfl,by
    rw[A5h.2 ⟨_,A1k t,by simpa using K⟩]⟩
  refine G.eF I a<|G.i i ?_;exact G.b (Q (i+1) _ _ _ cV l2 ⟨oV,fun j g E H=>by
   rcases (by omega:j<i\/j=i) with e|rfl
   ·exact h0 j g e H
   rw[t]at H;cases H;exact K,rfl⟩ oV)
 obtain rfl:i=F.length:=oV;refine G.lF F.length F.length ?_;exact G.r zL ⟨rfl,by
  rw[A6p.2 fun f R=>by
   obtain⟨j,E,rfl⟩:=A2y R;simpa using h0 j _ E (A01 E)]⟩
def nmB (j:Nat):zB:=[98]++[Zq j]
def Asb {j:Nat}(h:j<26):Hn (nmB j)=true:=by
 have e:∀ n:Fin 26,Hn (nmB n.val)=true:=jV
 exact e ⟨j,h⟩
theorem Au6 {l:zK}(h1:∀ a∈l,a<n)(h2:∀ (k:Nat) x y,l[k]?=some x->l[k+1]?=some y->x<y):l.length<=n:=by
 have h:∀ k (hk:k<l.length),k<=l[k]:=by
  intro k;induction k with
  |zero=>intro _;omega
  |succ k ih =>
   intro hk;have:=ih oV;have:=h2 k _ _ (A01 oV) (A01 hk);omega
 rcases A2a l.length with e|e
 ·omega
 ·have h3:=h (l.length-1) oV;have h4:=h1 _ (A09 (show l.length-1<l.length by omega));omega
def Aph {u Q:PH}{E:List Br}{r:Br}{J:zP}{K:Nat}(h:Py u n (E++[r]))(U:PH.le u Q)(V:n<=900)(T:Ac Q (.slice J (r.2.1++[n]).length K) 1 (Ai (r.2.1++[n]))):Py Q (n+1) (E++[(r.1,r.2.1++[n],(J,K))]):=by
 have I:r∈E++[r]:=mV;have h0:∀ x∈E,x∈E++[r]:=fun x j=>A24 _ j;have split:∀ x,x∈E++[(r.1,r.2.1++[n],(J,K))]->x∈E\/x=(r.1,r.2.1++[n],(J,K)):=fun x j=>by
  rcases A1h.1 j with j|j
  ·exact .inl j
  exact .inr (by simpa using j)
 refine⟨?_,?_,?_,?_,?_,?_,?_⟩
 ·have:=h.names;rw[A1i]at this⊢;exact this
 ·intro x j;rcases split x j with j|rfl
  ·exact h.ne x (h0 x j)
  simp
 ·intro x j a t;rcases split x j with j|rfl
  ·have:=h.lt x (h0 x j) a t;omega
  rcases A1h.1 t with t|t
  ·have:=h.lt r I a t;omega
  simp at t;omega
 ·intro x j;rcases split x j with j|rfl
  ·exact h.len x (h0 x j)
  have:=Au6 (h.lt r I) (h.asc r I);simp only[A1d,A20];omega
 ·intro x j k a b t C;rcases split x j with j|rfl
  ·exact h.asc x (h0 x j) k a b t C
  simp only at t C;rcases A2e (k+1) r.2.1.length with R|R
  ·rw[A1r oV]at t C;exact h.asc r I k a b t C
  rw[A18 R]at C;have L:k+1-r.2.1.length=0:=by
   obtain⟨q,_⟩:=A05.1 C;simp at q;omega
  rw[L]at C;simp at C;subst C;rw[A1r oV]at t;exact h.lt r I a (A1k t)
 ·intro a t;by_cases e:a=n
  ·subst e;exact⟨_,by simp;right;rfl,mV⟩
  obtain⟨x,j,H⟩:=h.all a oV;rcases A1h.1 j with j|j
  ·exact⟨x,A24 _ j,H⟩
  simp at j;subst j;exact⟨_,by simp;right;rfl,A24 _ H⟩
 intro x j;rcases split x j with j|rfl
 ·exact (h.at' x (h0 x j)).mono U
 exact T
def Aqc {u J:PH}{T:zC}{R H:List Br}{lab:Int}(ok:Bl u T R F lab)(hT:T.length<=11)(V:∀ a∈T,a.1≠nmB T.length)(L:Py J (T.length+1) H)(E:H.length=R.length):Bl J (T++[(nmB T.length,2)]) H F lab:=by
 have W:=Asb (j:=T.length) oV;refine⟨⟨⟨?_,?_⟩,?_⟩,?_,⟨?_,ok.feat.nodup⟩,?_,?_,?_,?_,ok.f2,ok.l1,?_⟩
 ·intro s t;rw[A1i]at t;rcases A1h.1 t with t|t
  ·exact ok.att.names.word s t
  simp at t;subst t;exact W
 ·rw[A1i,A4p];refine⟨ok.att.names.nodup,mV,fun a h b I e=>?_⟩;simp at I;obtain⟨x,X,rfl⟩:=A1b.1 h;exact V x X (e.trans I)
 ·intro a h;rcases A1h.1 h with h|h
  ·exact ok.att.kind a h
  simp at h;subst h;exact⟨mV,mV⟩
 ·rw[A1d];exact L
 ·intro f Q;obtain⟨n,k,C,K⟩:=ok.feat.ok f Q;exact⟨n,k,by rw[A1r (A05.1 C).1];exact C,K⟩
 ·rw[A1d];simp
 ·rw[A1d];simp;omega
 ·rw[E];exact ok.r1
 ·rw[E];exact ok.r2
 intro l U;obtain⟨n,C⟩:=ok.l2 l U;exact⟨n,by rw[A1r (A05.1 C).1];exact C⟩
end
def W8 (T:zC):A9 2 (T.map D9):=by
 intro e j;obtain⟨x,_,rfl⟩:=A1b.1 j;exact⟨rfl,fun y h=>by simp[D9,Value.cells]at h;rcases h with rfl|rfl<;>rfl⟩
def Ar6 (R:List Br):A9 2 (R.map Hs):=by
 intro e h;obtain⟨x,_,rfl⟩:=A1b.1 h;exact Sh x _ mV
def Aww {u:PH}{v:Value}{T:zC}{R:List Br}{F:List Al}{lab:Int}(hX:H5 u v T R F lab)(ok:Bl u T R F lab)(hT:T.length<=11)(hn:∀ a∈T,a.1≠nmB T.length) :
 zF 106 [v,zI 2] u fun r u'=>∃ R',H5 u' r (T++[(nmB T.length,2)]) R' F lab/\Bl u' (T++[(nmB T.length,2)]) R' F lab:=by
 obtain⟨xa,xc,xb,xd,xe,xf,rfl,a9,a7,a3⟩:=hX;have r1:=ok.r1;have r2:=ok.r2;obtain⟨h,r,rfl⟩:∃ h r,R=h++[r]:=⟨R.dropLast,R.getLast (fun e=>by rw[e]at r1;simp at r1),(List.dropLast_concat_getLast _).symm⟩;have ac:=ok.rel.at' r mV;have ah:=ok.rel.len r mV;refine Fn0.o func106<|G.appendL 96 2 24 (.agg #[zE,zO]) PH.mt [] (T.map D9) zN xa T.length xc kV rfl rfl oV (Af.nil _ _ _) a9 (W8 T) gV gV ?_;intro v1 m1 I;rw[A3q]at I;obtain⟨a1,c1,rfl⟩:=I.shape;rw[A03]at I⊢;refine G.c call182 (S0 (p:=[98]) (i:=T.length) oV mV) ?_;rintro v2 u2 l2 rfl;refine G.B 96 2 24 (.agg #[zE,zO]) [.agg #[zS ([98]++[Zq T.length]),zI 2]] (W8 [(nmB T.length,2)]) ?_;intro g3 u3 l3 e3;refine G.k 96 2 24 (.agg #[zE,zO]) PH.mt (T.map D9) [D9 (nmB T.length,2)] (.slice a1 T.length c1) g3 0 1 1 I e3 (W8 [(nmB T.length,2)]) ?_;intro v4 m4 J;rw[show T.map D9++[D9 (nmB T.length,2)]=(T++[(nmB T.length,2)]).map D9 by rw[A1i];rfl]at J;obtain⟨a4,c4,rfl⟩:=J.shape;rw[A03]at J⊢;refine G.appendL 98 2 40 (.agg #[zE,zN]) m4 [] ((h++[r]).map Hs) zN xb (h++[r]).length xd kV rfl rfl oV (Af.nil _ _ _) (a7.mono (l2.trans l3)) (Ar6 _) (by rw[A03];simp at r2⊢;omega) (by rw[A03];simp at r2⊢;omega) ?_;intro v5 m5 C;rw[A3q]at C;obtain⟨U,W,rfl⟩:=C.ptr mV;rw[A03]at C⊢;have ag:(h++[r]).length=h.length+1:=mV
 refine G.s ((h++[r]).length:Int) 1 (h.length:Int)<|G.a U 0 (h++[r]).length W h.length 2 oV ?_;have aa:ElP m5 U (0+h.length*2) (Hs r):=C.el mV;refine G.f 98 U (0+h.length*2) 1 1<|G.v none (aa.fld (j:=1) (xs:=#[zS r.1,.slice r.2.2.1 r.2.1.length r.2.2.2]) rfl rfl) ?_;have E:(Ai r.2.1).length=r.2.1.length:=by simp[Ai]
 refine G.appendL 3 1 8 zO m5 [] (Ai r.2.1) zN r.2.2.1 r.2.1.length r.2.2.2 kV rfl rfl oV (Af.nil _ _ _) (ac.mono (l2.trans l3)) (Av _) (by simp[E];omega) (by simp[E];omega) ?_;intro v6 m6 K;rw[A3q]at K;obtain⟨a6,c6,rfl⟩:=K.shape;rw[E]at K⊢;refine G.buildU 3 1 8 zO (Ai [T.length]) kV (Av [T.length]) rfl oV (by simp[Ai]) (by simp[Ai]) ?_;intro g7 u7 l7 e7;refine G.append 3 1 8 zO m5 (Ai r.2.1) (Ai [T.length]) (.slice a6 r.2.1.length c6) g7 0 1 1 kV rfl rfl oV K e7 (Av [T.length]) rfl oV (by simp[E];omega) (by simp[E];omega) ?_;intro v8 m8 L;rw[show Ai r.2.1++Ai [T.length]=Ai (r.2.1++[T.length]) by simp[Ai]]at L;obtain⟨Q,V,rfl⟩:=L.shape;have X:(Ai (r.2.1++[T.length])).length=(r.2.1++[T.length]).length:=by simp[Ai]
 rw[X]at L⊢;obtain⟨mx,a0,ad,Z⟩:=At.swap (x:=⟨zG U (h++[r]).length W,98,2,(h++[r]).map Hs⟩) (y:=⟨.slice Q (r.2.1++[T.length]).length V,3,1,Ai (r.2.1++[T.length])⟩) L C;refine G.f 98 U (0+h.length*2) 1 1<|G.storeE (t:=98) 2 1 mx ((h++[r]).map Hs) U (h++[r]).length W h.length (Hs r) (Hs (r.1,r.2.1++[T.length],(Q,V))) (.slice Q (r.2.1++[T.length]).length V) kV ad mV oV rfl rfl rfl ?_;intro m9 P;have e9:((h++[r]).map Hs).set h.length (Hs (r.1,r.2.1++[T.length],(Q,V)))=(h++[(r.1,r.2.1++[T.length],(Q,V))]).map Hs:=by
  rw[A1i,A1i,A4t _ _ mV,A03,A4i];rfl
 rw[e9]at P;have Y:PH.le mx m9:=fun g o hg=>P.see hg;obtain⟨my,ai,aj⟩:=Z ⟨zG U (h++[r]).length W,98,2,(h++[(r.1,r.2.1++[T.length],(Q,V))]).map Hs⟩ m9 P;have ab:PH.le m4 m9:=fun g o hg=>Y g o (a0.see hg);refine G.giveP (ma:=m9) (sm:=PH.mt) kV (Ari m9).symm (fun g=>.inr rfl) (fun g=>.inl rfl) ?_;intro af ae H;have a2:=((l2.trans l3).trans l7).trans ae;have a5:Py af (T.length+1) (h++[(r.1,r.2.1++[T.length],(Q,V))]):=Aph ok.rel a2 oV (Af.list a0 (Y.trans H));have m:(h++[(r.1,r.2.1++[T.length],(Q,V))]).length=(h++[r]).length:=mV
 exact G.r (.agg #[.slice a4 (T++[(nmB T.length,2)]).length c4,zG U (h++[r]).length W,.slice xe F.length xf,zI lab]) ⟨rfl,_,⟨_,_,_,_,_,_,by rw[m],Af.list J (ab.trans H),by rw[m];exact Af.list P H,a3.mono a2⟩,Aqc ok hT hn a5 m⟩
section
variable {R:List Br}{T:zC}{a:Nat}{lab:Int}{n:zB}{u:PH}
def An0 (T:zC):Prop:=∀ a∈T,(∃ j,a.1=nmA j)\/∃ j,j<T.length/\a.1=nmB j
def Aqs (h:An0 T)(hT:T.length<26):∀ a∈T,a.1≠nmB T.length:=by
 intro a F e;rcases h a F with ⟨j,m⟩|⟨j,m,t⟩
 ·rw[m]at e;unfold nmA nmB at e;simp at e
 rw[t]at e;unfold nmB at e;simp only[A4x,A3q,A3g,and_true,true_and]at e;have C:=Wv (i:=j) oV;have E:=Wv (i:=T.length) hT;rw[e,E]at C;omega
def An0.snoc (h:An0 T)(k:Nat):An0 (T++[(nmB T.length,k)]):=by
 intro a m;rcases A1h.1 m with m|m
 ·rcases h a m with t|⟨j,C,e⟩
  ·exact .inl t
  exact .inr ⟨j,gV,e⟩
 simp at m;subst m;exact .inr ⟨T.length,mV,rfl⟩
def TOK.nmOK (h:TOK T):An0 T:=by
 intro a m;have:a.1∈T.map (·.1):=A1b.2 ⟨a,m,rfl⟩;rw[h.nm]at this;obtain⟨j,_,e⟩:=A1b.1 this;exact .inl ⟨j,e.symm⟩
def Alx {F:List Al}(ok:Bl u T R F lab)(m:T[a]?=some (n,2))(hF:∀ f∈F,f.1≠a):Bl u T R F (a:Int):=by
 refine⟨ok.att,ok.rel,⟨fun f e=>?_,ok.feat.nodup⟩,ok.t1,ok.t2,ok.r1,ok.r2,ok.f2,oV,fun l t=>?_⟩
 ·obtain⟨n,k,h,j,_⟩:=ok.feat.ok f e;have:=hF f e;exact⟨n,k,h,j,oV⟩
 have:l=a:=oV;subst this;exact⟨n,m⟩
def Asp (ok:Bl u T R [] lab){a h:Nat}(j:T[a]?=some (n,2))(m:(a:Int)≠lab)(t:h<=1):Bl u T R [(a,1,h)] lab:=by
 refine⟨ok.att,ok.rel,⟨fun f e=>?_,mV⟩,ok.t1,ok.t2,ok.r1,ok.r2,mV,ok.l1,ok.l2⟩;simp at e;subst e;exact⟨n,2,j,.inl ⟨rfl,rfl,t⟩,m⟩
def Ace {s:Src}{ts:List Int}{k:Nat}(most:Nat)(ab:1<=most)(af:most<=6)(h:J0 u s ts)(hk:k<=s.n) :
 Ag prog 44 [s.ptr,zI most] u (s.M k) fun v I U=>∃ (T:zC) (R:List Br) (F:List Al) (lab:Int) (k':Nat),H5 I v T R F lab/\Bl I T R F lab/\T.length<=8/\0<=lab/\F≠[]/\k'<=s.n/\U=s.M k'/\F.length<=most:=by
 refine Ag.o func44<|G.A call104 (Ags most ab af h hk) ?_;rintro v1 u1 m1 l1 ⟨T,R,F,lab,k1,hX,ok,ak,a8,rfl,K,_,ac⟩ _;rw[By];have t:=K.nmOK;obtain⟨xa,xc,X,Y,Z,xf,rfl,Q,a1,H⟩:=id hX;have am:=ok.l1;have al:=ok.f2;refine G.joinF (ι:=Int) (fun st=>Ajn prog st [zL]) (fun z=>[(0,.v s.ptr),(4,.p 0 0),(5,.p 1003 0)])
  (fun z=>[(0,⟨30,[sN,sN,sN,iV 0]⟩),(1003,⟨30,[sV xa T.length xc,sV X R.length Y,sV Z F.length xf,iV z]⟩)])
  (fun z I U=>U=s.M k1/\Bl I T R F z) (fun _=>kV) kV ?tail ?way
 case way =>
  intro m;by_cases hl:lab<0
  ·refine G.lT' lab 0 hl<|G.l (ι:=Nat×Int) (fun i=>[(0,.v s.ptr),(4,.p 0 0),(5,.p 1003 0),(15,sV xa T.length xc),(16,iV T.length),(17,iV i.1)])
    (fun i=>[(0,⟨30,[sN,sN,sN,iV 0]⟩),(1003,⟨30,[sV xa T.length xc,sV X R.length Y,sV Z F.length xf,iV i.2]⟩)])
    (fun i I U=>i.1<=T.length/\U=s.M k1/\Bl I T R F i.2) (fun i=>T.length-i.1) (0,lab) ⟨oV,rfl,ok⟩ ?_
   rintro J ⟨i,z⟩ hJ u2 m2 l2 ⟨hi,rfl,ok2⟩;simp only at hi ok2 hJ;by_cases aa:i<T.length
   ·refine G.lT i T.length ?_;obtain⟨x,a6⟩:∃ x,T[i]?=some x:=⟨_,A01 aa⟩;obtain⟨ba,oa,rfl,ea⟩:=Ac.at' (Q.mono l2) (j:=i) (e:=D9 x) (by simp[a6]);obtain⟨xn,xk⟩:=x;refine G.N T.length xc aa ea ?_;by_cases h2:xk=2
    ·subst h2;refine G.eT (2:Nat) 2<|G.c call105 (Az6 (a:=i) (H.mono l2) oV) ?_;rintro v3 u3 L rfl;cases hu:F.any fun f=>f.1==i with
     |true =>
      exact G.i i<|G.b (hJ (i+1,z) _ _ _ cV (l2.trans L) ⟨dV,rfl,ok2.mono L⟩ dV)
     |false =>
      refine G.i i ?_;exact G.b (hJ (i+1,(i:Int)) _ _ _ cV (l2.trans L) ⟨dV,rfl,Alx (ok2.mono L) a6 fun f hf e=>by
       have:=A6p.1 hu f hf;simp[e]at this⟩ dV)
    exact G.eF xk 2<|G.i i<|G.b (hJ (i+1,z) _ _ _ cV l2 ⟨dV,rfl,ok2⟩ dV)
   obtain rfl:i=T.length:=oV;refine G.lF T.length T.length ?_;exact m z _ _ _ kV cV l2 ⟨rfl,ok2⟩
  refine G.lF lab 0 ?_;exact m lab _ _ _ kV cV (PH.le_refl _) ⟨rfl,ok⟩
 rintro z u2 m2 l2 ⟨rfl,ok2⟩;have a7:H5 u2 (.agg #[.slice xa T.length xc,.slice X R.length Y,.slice Z F.length xf,zI z]) T R F z:=⟨_,_,_,_,_,_,rfl,Q.mono l2,a1.mono l2,H.mono l2⟩;have ai:=H.mono l2;clear hX Q a1 ok K H;refine G.joinF (ι:=(zC×(zP×Nat))×(List Br×(zP×Nat))×(zP×Nat)×Int) (fun st=>Ajn prog st [zL]) (fun _=>[(0,.v s.ptr),(4,.p 0 0),(5,.p 1003 0)])
  (fun i=>[(0,⟨30,[sN,sN,sN,iV 0]⟩),(1003,⟨30,[sV i.1.2.1 i.1.1.length i.1.2.2,sV i.2.1.2.1 i.2.1.1.length i.2.1.2.2,sV i.2.2.1.1 F.length i.2.2.1.2,iV i.2.2.2]⟩)])
  (fun i I U=>U=s.M k1/\Bl I i.1.1 i.2.1.1 F i.2.2.2/\H5 I (.agg #[.slice i.1.2.1 i.1.1.length i.1.2.2,.slice i.2.1.2.1 i.2.1.1.length i.2.1.2.2,.slice i.2.2.1.1 F.length i.2.2.1.2,zI i.2.2.2]) i.1.1 i.2.1.1 F i.2.2.2/\An0 i.1.1/\i.1.1.length<=7/\0<=i.2.2.2) (fun _=>kV) kV ?tail2 ?way2
 case way2 =>
  intro m;by_cases hl:z<0
  ·refine G.lT' z 0 hl<|G.c call106 (Aww a7 ok2 oV (Aqs t oV)) ?_;rintro v3 u3 L ⟨W,E,C⟩;obtain⟨ya,yc,yb,yd,ye,yf,rfl,a4,a2,a0⟩:=id E;have a9:(T++[(nmB T.length,2)]).length=T.length+1:=mV;refine G.s ((T++[(nmB T.length,2)]).length:Int) 1 (T.length:Int) ?_;have V:Bl u3 (T++[(nmB T.length,2)]) W F (T.length:Int):=Alx C (n:=nmB T.length) mV fun f hf e=>by
    obtain⟨n,kd,h1,_⟩:=ok2.feat.ok f hf;have:=(A05.1 h1).1;omega
   exact m ((T++[(nmB T.length,2)],(ya,yc)),(W,(yb,yd)),(ye,yf),(T.length:Int)) _ _ _ kV cV L ⟨rfl,V,⟨_,_,_,_,_,_,rfl,a4,a2,a0⟩,t.snoc 2,dV,dV⟩
  refine G.lF z 0 ?_;exact m ((T,(xa,xc)),(R,(X,Y)),(Z,xf),z) _ _ _ kV cV (PH.le_refl _) ⟨rfl,ok2,a7,t,dV,dV⟩
 rintro⟨⟨T,⟨xa,xc⟩⟩,⟨R,⟨X,Y⟩⟩,⟨Z,xf⟩,z⟩ u3 m3 L ⟨rfl,C,E,t,hT7,hz⟩;simp only at C E t hT7 hz;by_cases P:F = []
 ·subst P;refine G.eT' ((([]:List Al).length:Nat):Int) 0 rfl<|G.c call106 (Aww E C oV (Aqs t oV)) ?_;rintro v4 u4 l4 ⟨W,ad,V⟩;obtain⟨ya,yc,yb,yd,ye,yf,rfl,a5,a3,aj⟩:=id ad;have a9:(T++[(nmB T.length,2)]).length=T.length+1:=mV;refine G.s ((T++[(nmB T.length,2)]).length:Int) 1 (T.length:Int)<|G.A call14 (I4 (n:=2) (h.mono (((l1.trans l2).trans L).trans l4)) a8 oV oV) ?_;rintro v5 u5 m5 l5 ⟨r,k5,rfl,hr,ae,rfl⟩ _;rw[By];refine G.B 100 3 24 (.agg #[zO,zO,zO]) [.agg #[zI T.length,zI 1,zI r]] (Kg (T.length,1,r)) ?_;intro g6 u6 l6 e6;have ag:((T.length:Nat):Int)≠z:=by
   intro e;obtain⟨n,hn⟩:=C.l2 T.length e.symm;have:=(A05.1 hn).1;omega
  have ah:Bl u6 (T++[(nmB T.length,2)]) W [(T.length,1,r)] z:=Asp (n:=nmB T.length) (V.mono (l5.trans l6)) mV ag oV;exact G.r (.agg #[.slice ya (T++[(nmB T.length,2)]).length yc,.slice yb W.length yd,zG g6 1 1,zI z]) ⟨_,W,[(T.length,1,r)],z,k5,⟨_,_,_,_,_,_,rfl,a5.mono (l5.trans l6),a3.mono (l5.trans l6),e6.listP⟩,ah,oV,hz,mV,ae,rfl,ab⟩
 refine G.eqlF (F.length:Int) 0 kV (by
  have:F.length≠0:=fun e=>P (A9i.1 e);omega) ?_
 exact G.r (.agg #[.slice xa T.length xc,.slice X R.length Y,.slice Z F.length xf,zI z]) ⟨T,R,F,z,k1,E,C,oV,hz,P,a8,rfl,ac⟩
end
def Awp {n:Nat}(h:n<=8):1374926400^n*7*100<10^100:=by
 have e:1374926400^n<=1374926400^8:=A10 oV h;have j:1374926400^8<10^80:=jV
 have m:(10:Nat)^80*100000<10^100:=jV
 omega
def Aee {u:PH}{T:zC}{R:List Br}{F:List Al}{lab:Int}(ok:Bl u T R F lab)(hT:T.length<=8){L:List Dm}(e:∀ y∈L,Bw T y.1/\y.2.1<=7)(h:L.length<=100):CFS (Cf F lab L)/\CFV (Cf F lab L):=by
 obtain⟨j,m⟩:=Alz ok e;refine⟨j.cfs oV ?_,m⟩;have hp:=Awp hT;have:=A13 (1374926400^T.length*7) h;omega
section
variable {L:List Dm}
def Avj {F:List Al}{lab:Int}:∀ p,(Cf F lab L).s p≠0->Adm F lab p:=fun p hp=>by
 obtain⟨y,h,e⟩:=Aj4 hp;exact (Yf e).1
def WOK.tup {u:PH}{T:zC}(h:WOK u T L):∀ y∈L,Bw T y.1/\y.2.1<=7:=fun y e=>by
 obtain⟨_,j,_,m⟩:=h y e;exact⟨j,m⟩
end
section
variable {F:List Al}{L:List Dm}{T:zC}{lab:Int}
def C9 (T:zC)(ss:zW):Prop:=∀ (i:Nat) (x:zB×Nat) (t:zB),T[i]?=some x->ss[i]?=some t->x.2=3->t = []\/Ae7 t=true
def W9.c9 (h:W9 T L):∀ y∈L,C9 T y.1:=fun y u i x t m j C=>by
 rcases h y u i x t m j with h|⟨_,h⟩|⟨e,_⟩|⟨e,_⟩
 ·exact .inl h
 ·exact .inr h
 ·omega
 omega
def Aw9 {ss:zW}{p:Par}{i:Nat}{f:Al}(hF:Da T F lab)(V:Bw T ss)(u:C9 T ss)(E:(cfT F lab ss).s p≠0)(hp:p.1=(i:Int))(I:F[i]?=some f)(U:f.2.1=2):p.2 = []\/Ae7 p.2=true:=by
 obtain⟨_,a,q,H,_⟩:=Yf E;have m:a<ss.length:=by
  have:=(A05.1 H).1;rwa[G3]at this
 have e:=Hg (F:=F) (lab:=lab) (w:=ss[a]) (A01 m);rw[H]at e;have h:Gm F lab a ss[a]=some (some (p,q)):=(A28 e).symm;obtain⟨x,P,W⟩:=V.at m;have u:=u a x ss[a] P (A01 m);generalize ss[a]=w at h W u;by_cases K:(a:Int)=lab
 ·have Q:Gm F lab a w=Sy w:=by unfold Gm;rw[if_pos K]
  rw[Q]at h;unfold Sy at h;split at h
  ·cases h
  simp only[A1f,A2i]at h;obtain⟨rfl,_⟩:=h;simp only at hp;omega
 rcases Gn (F:=F) (w:=w) K with t|⟨j,g,J,C,t⟩
 ·rw[t]at h;cases h
 rw[t]at h;have R:p.1=(j:Int):=by
  unfold I3 at h;split at h
  ·cases h;rfl
  split at h
  ·split at h<;>cases h
  cases h;rfl
 obtain rfl:j=i:=oV;rw[J]at I;cases I;unfold I3 at h;rw[if_pos U]at h;simp only[A1f,A2i]at h;obtain⟨rfl,_⟩:=h;obtain⟨n,k,t,X,_⟩:=hF.ok f (A1k J);rw[C,P]at t;cases t;exact u oV
theorem Af5 {α β:Type}{f:α->List β}{n:Nat}:∀ {l:List α},(∀ x∈l,(f x).length<=n)->(l.flatMap f).length<=l.length*n
 |[],_=>mV
 |x::l,h=>by
  rw[A6o,A1d,A3f,A16,A3i];have h1:=h x mV;have h2:=Af5 (l:=l) fun y hy=>h y (by simp[hy]);omega
def Atb {P:List Par}(hF:Da T F lab)(hT:∀ y∈L,Bw T y.1)(J:∀ y∈L,C9 T y.1)(E:Nn F (Cf F lab L) P):P.length<=F.length*4:=by
 have e:P ⊆ (List.range F.length).flatMap fun (i:Nat)=>[((i:Int),([]:zB)),((i:Int),Ai7),((i:Int),Qf),((i:Int),Xg)]:=fun p hp=>by
  rcases (E.2 p).1 hp with ⟨i,f,rfl,t,_⟩|⟨u,i,f,h,t,I⟩
  ·exact A57.2 ⟨i,by simpa using (A05.1 t).1,by unfold Li;simp⟩
  refine A57.2 ⟨i,by simpa using (A05.1 t).1,?_⟩;obtain⟨y,H,C⟩:=Aj4 u;obtain⟨K,Q⟩:=p;simp only at h;subst h;rcases Aw9 hF (hT y H) (J y H) C rfl t I with j|j
  ·simp only at j;subst j;simp
  rcases Avi j with m|m|m<;>· simp only at m;subst m;simp
 have h:=List.Nodup.length_le_of_subset (E.1.nodup Et) e;refine A04 h ?_;have:=Af5 (l:=List.range F.length) (n:=4) (f:=fun (i:Nat)=>[((i:Int),([]:zB)),((i:Int),Ai7),((i:Int),Qf),((i:Int),Xg)]) fun x _=>mV;rw[List.length_range]at this;exact this
end
section
variable {F:List Al}{R:List Br}{T:zC}{lab:Int}{u:PH}
def Aya {ss:zW}(ok:Bl u T R F lab)(j:Bw T ss)(m:-1<=lab)(t:∀ l:Nat,lab=(l:Int)->l<ss.length)(C:G4 F lab ss=true)(p:Par):Dn 1 18540 ((cfT F lab ss).s p):=by
 by_cases h:(cfT F lab ss).s p=0
 ·rw[h];exact Dn.zero _ _
 obtain⟨_,a,q,e,_⟩:=Yf h;rw[Tv ok.feat j m t C e];exact (show SmW q/\PV p from N0 ok j _ (A1k e)).1.dn
def Ayj {x:Par->Rat}(h:∀ p,Dn 1 18540 (x p)):∀ e,Dn 1 18540 (Zg x e)
 |none=>(show SmW 1 from⟨jV,jV⟩).dn
 |some p=>h p
structure In (N:Nat)(C:CF):Prop where
 c:∀ e f,Dn 2 N (As C e f)
 r:∀ e,Dn 2 N (Bh C e)
 l:Dn 2 N (C.t (Ay B7 B7))
theorem L0 (ok:Bl u T R F lab)(h1:-1<=lab)(h2:∀ l:Nat,lab=(l:Int)->l<T.length):∀ {L:List Dm},(∀ y∈L,Bw T y.1/\y.2.1<=7)->In (L.length*2406121200) (Cf F lab L):=by
 intro L;induction L using Ig with
 |h0=>exact fun _=>⟨fun e f=>by rw[show Cf F lab []=CF.num 0 from rfl,Az0.cell];exact Dn.zero _ _,fun e=>by cases e<;>exact Dn.zero _ _,Dn.zero _ _⟩
 |h1 L y ih =>
  intro h;have i1:=ih fun z hz=>h z (A24 _ hz);obtain⟨hy,hw⟩:=h y mV;have hlen:=hy.len;have hl:∀ l:Nat,lab=(l:Int)->l<y.1.length:=fun l e=>by have:=h2 l e;omega
  have one:In 343731600 (cfT F lab y.1):=by
   rcases Pf ok.feat hy h1 hl with ⟨hc,o⟩|⟨_,o⟩
   ·have hd:=Aya ok hy h1 hl hc;have he:=Ayj hd;exact⟨fun e f=>by rw[o.cell];exact (he e).mul (he f),fun e=>by rw[o.right];exact (hd B7).mul (he e),by rw[o.t];exact (hd B7).mul (hd B7)⟩
   ·have hn:cfT F lab y.1=cfT F lab y.1:=rfl;refine⟨fun e f=>by rw[o.cell];exact Dn.zero _ _,fun e=>?_,?_⟩
    ·cases e
     ·show Dn 2 343731600 ((cfT F lab y.1).s B7);rw[o.s];exact Dn.zero _ _
     ·show Dn 2 343731600 ((cfT F lab y.1).t _);rw[o.t];exact Dn.zero _ _
    ·rw[o.t];exact Dn.zero _ _
  have add:∀ {q r:Rat},Dn 2 (L.length*2406121200) q->Dn 2 343731600 r->Dn 2 ((L++[y]).length*2406121200) (q+r*(y.2.1:Rat)):=fun hq hr=>by
   refine (hq.add (hr.mul (Auv hw))).mono ?_;rw[A1d,A16];simp
  rw[Eb];exact⟨fun e f=>by rw[T1];exact add (i1.c e f) (one.c e f),fun e=>by rw[Bde];exact add (i1.r e) (one.r e),add i1.l one.l⟩
end
section
variable {α:Type}
def Ah4 (l:List α)(d:α):l=(List.range l.length).map fun j=>l.getD j d:=by
 refine A5l mV fun j e h=>?_;simp[A02,A01 e]
def Qa (f:α->Rat)(l:List α)(d:α):B9 f l=Bb l.length fun j=>f (l.getD j d):=by
 unfold Bb;rw[<-So (f:=f) (fun j=>l.getD j d),<-Ah4]
def F7 (n:Nat)(f g:Nat->Rat):Bb n (fun i=>f i+g i)=Bb n f+Bb n g:=L7 _
theorem Agy {n i:Nat}(t:Rat)(y:Nat->Rat):Bb n (fun j=>(if i=j/\0<i then t else 0)*y j)=if i<n/\0<i then t*y i else 0:=by
 induction n with
 |zero=>rw[Uk,if_neg oV]
 |succ n ih =>
  rw[Ds,ih];by_cases h0:0<i
  ·by_cases h:i<n
   ·rw[if_pos ⟨h,h0⟩,if_neg oV,if_pos ⟨oV,h0⟩];grind
   by_cases e:i=n
   ·rw[if_neg oV,if_pos ⟨e,h0⟩,if_pos ⟨oV,h0⟩,e];grind
   rw[if_neg oV,if_neg oV,if_neg oV];grind
  rw[if_neg oV,if_neg oV,if_neg oV];grind
end

section
variable {k:Nat}{s:Src}{ts:List Int}{u:PH}{v:Value}
def Asx {L:zW}(h:J0 u s ts)(J:k<=s.n)(C:Ac u v 1 (L.map nmV))(F:0<L.length)(H:L.length<=1000000) :
 Ag prog 51 [s.ptr,v] u (s.M k) fun v _ P=>∃ t∈L,∃ m:Nat,v=zS t/\m<=s.n/\P=s.M m:=by
 obtain⟨a,c,rfl⟩:=C.opn;rw[A03]at C⊢;refine Ag.o func51<|G.A call14 (I4 h J F H) ?_;rintro T R Q K ⟨r,m,rfl,I,E,rfl⟩ _;rw[By];obtain⟨b,off,rfl,e⟩:=Ac.at' (C.mono K) (j:=r) (e:=zS L[r]) (by simp[nmV,A01 I]);exact G.N L.length c I e<|G.r _ ⟨L[r],A09 I,m,rfl,E,rfl⟩
structure Fd (q:Rat):Prop where
 pos:0<q
 thirty:∃ p:Int,q*30=p/\p.natAbs<=90
 tx:Tx q
def Awd:∀ t∈[[49],[49,47,50],[51],[49,47,49,48],[55,47,51]],∃ q:Rat,t=Ae q/\Fd q:=by
 intro t e;simp only[A1g,A11,or_false]at e;rcases e with rfl|rfl|rfl|rfl|rfl
 ·exact⟨1,jV,jV,⟨30,jV,fV⟩,jV,jV⟩
 ·exact⟨1/2,jV,jV,⟨15,jV,fV⟩,jV,jV⟩
 ·exact⟨3,jV,jV,⟨90,jV,fV⟩,jV,jV⟩
 ·exact⟨1/10,jV,jV,⟨3,jV,fV⟩,jV,jV⟩
 exact⟨7/3,jV,jV,⟨70,jV,fV⟩,jV,jV⟩
def Afm (h:J0 u s ts)(C:k<=s.n) :
 Ag prog 12 [s.ptr] u (s.M k) fun v _ I=>∃ (q:Rat) (e:Nat),v=zS (Ae q)/\Fd q/\e<=s.n/\I=s.M e:=by
 refine Ag.o func12<|G.B 9 1 16 zE ([[49],[49,47,50],[51],[49,47,49,48],[55,47,51]].map nmV) (G6 _) ?_;intro g K H m;refine G.A call51 (Asx (L:=[[49],[49,47,50],[51],[49,47,49,48],[55,47,51]]) (h.mono H) C m.listP mV mV) ?_;rintro Q P J l2 ⟨t,F,e,rfl,j,rfl⟩ _;rw[By];obtain⟨q,rfl,E⟩:=Awd t F;exact G.r (zS (Ae q)) ⟨q,e,rfl,E,j,rfl⟩
def Afs {v t:Value}{T:zC}{R:List Br}{F:List Al}{lab:Int}{C:CF}{K k:Nat}{P:List Par}{q:Rat}(h:Te u v t T R F lab C K k P)(m:Fd q) :
 zF 59 [t,zS (Ae q)] u fun r _=>r=zI (if k=0 then 12 else 0):=by
 have e:=h.mom;obtain⟨a1,n1,c1,a2,n2,c2,rfl⟩:=id h.cof.opn;refine Fn0.o func59<|G.c call24 (Ee m.tx) ?_;rintro Q I E rfl;refine G.c call25 (Agd m.tx) ?_;rintro U J l2 rfl;refine G.kF' (sgn q.num) 0 (by rw[Acy,Ait m.pos];omega)<|G.c call25 (Agd e.tx) ?_;rintro V L H rfl;by_cases h0:k=0
 ·have j:C.c=0:=by rw[e.c,h0];rfl
  exact G.kT' (sgn C.c.num) 0 (by rw[j];decide)<|G.r (zI 12) ⟨rfl,by rw[if_pos h0]⟩
 exact G.kF' (sgn C.c.num) 0 (by rw[Acy,Ait (e.cpos h0)];omega)<|G.r zO ⟨rfl,by rw[if_neg h0]⟩
end
section
variable {es:zV}{u:PH}
def Bd7 {pv:Value}{P:List Par}(h:Ac u pv 2 (P.map Ap))(R:Hb Bk P)(X:P.length<=1000000):zF 171 [pv] u fun r _=>r=zT:=by
 obtain⟨a,c,rfl⟩:=h.opn;rw[A03]at h⊢;refine Fn0.o func171<|G.l (ι:=Nat) (fun i=>[(0,sV a P.length c),(3,iV i)]) (fun _=>[])
  (fun i u' U=>1<=i/\U=PH.mt) (fun i=>P.length-i) 1 ⟨oV,rfl⟩ ?_
 rintro J i Q u2 Y l2 ⟨hi,rfl⟩;by_cases m:i<P.length
 ·refine G.lT i P.length ?_;have C:P[i]?=some P[i]:=A01 m;have E:P[i-1]?=some (P[i-1]'oV):=A01 oV;have F:Bk (P[i-1]'oV) P[i]<0:=A3n.1 R (i-1) i oV m oV;obtain⟨W,Z,H,K⟩:=Ac.at' (h.mono l2) (j:=i) (e:=Ap P[i]) (by simp[C]);obtain⟨I,V,t,L⟩:=Ac.at' (h.mono l2) (j:=i-1) (e:=Ap (P[i-1]'oV)) (by simp[E]);rw[H]at t;cases t;subst H;refine G.s i 1 (i-1:Nat)<|G.n P.length c L<|G.N P.length c m K<|G.c call113 (Fp _ _ true (decide_eq_true F)) ?_;rintro v3 u3 T rfl;exact G.i i<|G.b (Q (i+1) _ _ _ cV (l2.trans T) ⟨oV,rfl⟩ oV)
 exact G.lF i P.length<|G.z zT
def N4.snoc1 {t:List zW}{a:zP}{c:Nat}{r:zW}(h:N4 u es t)(J:Cj u (.slice a r.length c) r):N4 u (es++[.slice a r.length c]) (t++[r]):=by
 refine⟨by simp[h.1],fun j r' e=>?_⟩;by_cases m:j<t.length
 ·rw[A1r m]at e;obtain⟨E,F,H,I⟩:=h.2 j r' e;exact⟨E,F,by rw[A1r (by rw[h.1];exact m)];exact H,I⟩
 rw[A18 oV]at e;have C:j-t.length=0:=by
  rcases A2a (j-t.length) with h0|h0
  ·exact h0
  rw[A1v gV]at e;cases e
 rw[C]at e;simp at e;subst e;exact⟨a,c,by rw[A18 (by rw[h.1];omega),h.1,C];rfl,J⟩
def Apw {v:Value}{m:zR}(h:Ac u v 4 es)(Q:AtP QP u es m)(hT:∀ q∈m,Tx q)(hl:m.length<=1000):zF 83 [v] u fun r T=>∃ R,r=.tuple #[R,zO]/\Cj T R (m.map Ae):=by
 obtain⟨a,c,rfl⟩:=Ac.opn h;have I:=Q.1;rw[I]at h⊢;refine Fn0.o func83<|G.l (ι:=Nat×(zP×Nat)) (fun i=>[(4,sV i.2.1 i.1 i.2.2),(9,sV a m.length c),(10,iV m.length),(11,iV i.1)]) (fun _=>[])
  (fun i T m'=>i.1<=m.length/\Af PH.mt m' (.slice i.2.1 i.1 i.2.2) 34 1 (Cc ((m.take i.1).map Ae))) (fun i=>m.length-i.1) (0,none,0) ⟨oV,Af.nil _ _ _⟩ ?_
 rintro J ⟨i,pa,pc⟩ P u1 m1 L ⟨hi,H⟩;simp only at hi H P;by_cases E:i<m.length
 ·refine G.lT i m.length ?_;obtain⟨q,C⟩:∃ q,m[i]?=some q:=⟨_,A01 E⟩;have K:m.take (i+1)=m.take i++[q]:=by rw[A1n,C];rfl
  obtain⟨x,Z,F⟩:=Q.2 i q C;obtain⟨f,rfl⟩:=F.opQ;obtain⟨b,o,rfl,e⟩:=Ac.at' (Ac.mono h L) (j:=i) (e:=qv f) Z;refine G.N m.length c E e<|G.c call84 (Ox (F.mono L) (hT q (A1k C))) ?_;rintro v2 u2 l2 rfl;refine G.nF 0 0<|G.B 34 1 16 zE [zS (Ae q)] (Gc [Ae q]) ?_;intro Y u3 l3 W;refine G.append 34 1 16 zE PH.mt (Cc ((m.take i).map Ae)) [zS (Ae q)] (.slice pa i pc) Y 0 1 1 kV rfl rfl oV H W (Gc [Ae q]) rfl oV (by simp[Cc];omega) (by simp[Cc];omega) ?_;intro v4 m4 t;have X:Cc ((m.take i).map Ae)++[zS (Ae q)]=Cc ((m.take (i+1)).map Ae):=by rw[K];simp[Cc]
  rw[X]at t;obtain⟨U,V,rfl⟩:=t.shape;have el:(Cc ((m.take (i+1)).map Ae)).length=i+1:=by simp[Cc];omega
  rw[el]at t⊢;exact G.i i<|G.b (P (i+1,U,V) _ _ _ cV ((L.trans l2).trans l3) ⟨dV,t⟩ dV)
 obtain rfl:i=m.length:=oV;refine G.lF m.length m.length ?_;rw[A15]at H;refine G.give _ _ _ kV H (fun g=>.inl rfl) ?_;intro u6 l6 hF;exact G.r (.tuple #[.slice pa m.length pc,zO]) ⟨rfl,_,rfl,hF⟩
end
section
variable {P:List Par}{m m0:PH}{v:Value}
def Bu (r:Value×zV):Arr:=⟨r.1,34,1,r.2⟩
def oT (v:Value)(rows:List (Value×zV)):Arr:=⟨v,46,1,rows.map (·.1)⟩
def D6 {r:Value×zV}:(Bu r).At m0 m=Af m0 m r.1 34 1 r.2:=rfl
def Aaa {e:List (Value×zV)}:(oT v e).At m0 m=Af m0 m v 46 1 (e.map (·.1)):=rfl
def txV (l:zR):zV:=l.map fun q=>zS (Ae q)
def Bgm (l:zR):(txV l).length=l.length:=by simp[txV]
def Md (l:zR)(q:Rat):txV l++[zS (Ae q)]=txV (l++[q]):=by simp[txV]
def E7 (q:Rat):A9 1 [zS (Ae q)]:=Gc [Ae q]
def J7 (l:zR):txV l=Cc (l.map Ae):=by simp[txV,Cc]
def Lh (C:CF)(P:List Par):zM:=(An P).map fun e=>(An P).map (As C e)
def Ex {i:Nat}:(An P).take (i+1)=none::(P.take i).map some:=by unfold An;rw[List.take_succ_cons,A5g]
def Afv {u:PH}{v cv:Value}{T:zC}{R:List Br}{F:List Al}{lab:Int}{C:CF}{K k:Nat}(h:Te u v cv T R F lab C K k P) :
 Ag prog 58 [v,cv] u PH.mt fun r u' m'=>∃ (pa:zP) (pc:Nat) (xa:zP) (xc:Nat) (ra:zP) (rc:Nat) (E:List (Value×zV)),
  r=.tuple #[.agg #[.slice pa P.length pc,.slice xa (P.length+1) xc,.slice ra (P.length+1) rc],zO]/\Ac u' (.slice pa P.length pc) 2 (P.map Ap)/\E.map (·.2)=(Lh C P).map txV /\
  Bag m' (Bu (.slice ra (P.length+1) rc,txV ((An P).map (Bh C)))::oT (.slice xa (P.length+1) xc) E::E.map Bu):=by
 have b1:=Aif h.sch h.ok h.cof h.sC h.vC h.K h.bel;have bz:=h.p24;have hK:=h.K;have c0:=h.lab0;have hS:=fun (u':PH) (l:PH.le u u') (p:Par)=>At9 p (h.cof.mono l) oV;have hQ:=fun (u':PH) (l:PH.le u u') (p q:Par)=>U2 p q (h.cof.mono l) oV;have ag:=Cp P;obtain⟨xa,xc,xb,xd,xe,xf,rfl,_⟩:=id h.sch;obtain⟨a1,n1,c1,a2,n2,c2,rfl⟩:=id h.cof.opn;refine Ag.o func58<|G.c call37 b1 ?_;intro v1 u1 l1 hp;obtain⟨ps,L,rfl,hL,_,ai⟩:=hp.resolve_left fun⟨_,L,bf,ai⟩=>by rw[ai.eq h.prm]at bf;omega
 rw[ai.eq h.prm]at hL;obtain⟨pa,pc,rfl⟩:=hL.opn;rw[A03]at hL⊢;refine G.nF 0 0<|G.lF lab 0<|G.c call137 (hS u1 l1 B7) ?_;rintro v2 u2 l2 rfl;refine G.buildM 34 1 16 zE [zS (Ae (C.s B7))] kV (E7 _) rfl oV mV mV ?_;intro g3 m3 bg;refine G.buildM 34 1 16 zE [zS (Ae C.c)] kV (E7 _) rfl oV mV mV ?_;intro g4 m4 bh;refine G.l (ι:=Nat×(zP×Nat)×(zP×Nat)) (fun i=>[(3,.p 1 0),(4,.p 2 0),(6,sV pa P.length pc),(8,.p 6001 0),(9,.p 7006 0),(10,sV i.2.1.1 (i.1+1) i.2.1.2),(42,sV pa P.length pc),(43,iV P.length),(44,iV i.1)])
  (fun i=>[(1,⟨38,[tV (Ae C.c),sV a1 n1 c1,sV a2 n2 c2]⟩),(2,⟨57,[sN,sN,sN]⟩),(6001,⟨118,[iV (-1),tV []]⟩),
   (7006,⟨57,[.v (.slice pa P.length pc),.v zN,.v (.slice i.2.2.1 (i.1+1) i.2.2.2)]⟩)])
  (fun i u' m'=>i.1<=P.length/\Bag m' [Bu (.slice i.2.1.1 (i.1+1) i.2.1.2,txV (((An P).take (i.1+1)).map (As C none))),Bu (.slice i.2.2.1 (i.1+1) i.2.2.2,txV (((An P).take (i.1+1)).map (Bh C)))]) (fun i=>P.length-i.1) (0,(some ⟨g4,0,none⟩,1),(some ⟨g3,0,none⟩,1))
  ⟨oV,m3,bh,PH.mt,bg,trivial⟩ ?_
 rintro J ⟨i,⟨fa,fc⟩,⟨ra,rc⟩⟩ hJ u5 m5 l5 ⟨hi,H⟩;simp only at hi H hJ;have ad:=(l1.trans l2).trans l5;by_cases a0:i<P.length
 ·refine G.lT i P.length ?_;obtain⟨p,a3⟩:∃ p,P[i]?=some p:=⟨_,A01 a0⟩;have ab:(An P).take (i+1+1)=(An P).take (i+1)++[some p]:=by rw[Ex,Ex,A1n,a3];simp
  obtain⟨bp,op,rfl,ep⟩:=Ac.at' (hL.mono (l2.trans l5)) (j:=i) (e:=Ap p) (by simp[a3]);refine G.N P.length pc a0 ep<|G.c call137 (hS u5 ad p) ?_;rintro v6 u6 l6 rfl;refine G.B 34 1 16 zE [zS (Ae (C.s p))] (E7 _) ?_;intro g7 u7 l7 e7;obtain⟨m0,U,Q⟩:=H.focus 0 rfl;rw[D6]at U;have Z:(txV (((An P).take (i+1)).map (As C none))).length=i+1:=by rw[Bgm,A03,A1e];omega
  refine G.append 34 1 16 zE m0 (txV (((An P).take (i+1)).map (As C none))) [zS (Ae (C.s p))] (.slice fa (i+1) fc) g7 0 1 1 kV rfl rfl oV U e7 (E7 _) rfl oV (by rw[Z];omega) (by rw[Z];omega) ?_;intro v8 m8 a6;have e8:txV (((An P).take (i+1)).map (As C none))++[zS (Ae (C.s p))]=txV (((An P).take (i+1+1)).map (As C none)):=by rw[ab,A1i,Md];rfl
  rw[e8]at a6;have ak:(txV (((An P).take (i+1+1)).map (As C none))).length=i+1+1:=by rw[Bgm,A03,A1e];omega
  obtain⟨a8,c8,rfl⟩:=a6.shape;rw[ak]at a6⊢;have aj:=Q (Bu (.slice a8 (i+1+1) c8,txV (((An P).take (i+1+1)).map (As C none)))) m8 a6;have br:=(ad.trans l6).trans l7;refine G.c call66 (hQ u7 br B7 p) ?_;rintro v9 u9 l9 rfl;refine G.B 34 1 16 zE [zS (Ae (C.t (Ay B7 p)))] (E7 _) ?_;intro ae c5 bm b7;obtain⟨bs,b3,al⟩:=aj.focus 1 rfl;rw[D6]at b3;have b0:(txV (((An P).take (i+1)).map (Bh C))).length=i+1:=by rw[Bgm,A03,A1e];omega
  refine G.append 34 1 16 zE bs (txV (((An P).take (i+1)).map (Bh C))) [zS (Ae (C.t (Ay B7 p)))] (.slice ra (i+1) rc) ae 0 1 1 kV rfl rfl oV b3 b7 (E7 _) rfl oV (by rw[b0];omega) (by rw[b0];omega) ?_;intro ca b6 V;have b8:txV (((An P).take (i+1)).map (Bh C))++[zS (Ae (C.t (Ay B7 p)))]=txV (((An P).take (i+1+1)).map (Bh C)):=by rw[ab,A1i,Md];rfl
  rw[b8]at V;have bi:(txV (((An P).take (i+1+1)).map (Bh C))).length=i+1+1:=by rw[Bgm,A03,A1e];omega
  obtain⟨an,aq,rfl⟩:=V.shape;rw[bi]at V⊢;have a9:=al (Bu (.slice an (i+1+1) aq,txV (((An P).take (i+1+1)).map (Bh C)))) b6 V;exact G.i i<|G.b (hJ (i+1,(a8,c8),(an,aq)) _ _ _ cV ((((l5.trans l6).trans l7).trans l9).trans bm) ⟨dV,a9⟩ dV)
 obtain rfl:i=P.length:=oV;refine G.lF P.length P.length ?_;clear hJ;rw[show (An P).take (P.length+1)=An P by rw[A1j oV]]at H;have ad:=(l1.trans l2).trans l5;have c3:(txV ((An P).map (As C none))).length=P.length+1:=by rw[Bgm,A03,ag]
 refine G.B 46 1 24 zN [.slice fa (P.length+1) fc] (B5 _ _ _) ?_;intro g6 u6 l6 e6;refine G.append 46 1 24 zN m5 [] [.slice fa (P.length+1) fc] zN g6 0 1 1 kV rfl rfl oV (Af.nil _ _ _) e6 (B5 _ _ _) rfl oV mV mV ?_;intro v7 m7 af;obtain⟨a7,c7,rfl⟩:=af.shape;have ay:Bag m7 (Bu (.slice ra (P.length+1) rc,txV ((An P).map (Bh C)))::oT (.slice a7 1 c7) [(.slice fa (P.length+1) fc,txV ((An P).map (As C none)))]::[(Value.slice fa (P.length+1) fc,txV ((An P).map (As C none)))].map Bu) :=
  Bag.perm (A5r (l₁:=[oT (.slice a7 1 c7) [(.slice fa (P.length+1) fc,txV ((An P).map (As C none)))],Bu (.slice fa (P.length+1) fc,txV ((An P).map (As C none)))]) (l₂:=[Bu (.slice ra (P.length+1) rc,txV ((An P).map (Bh C)))])) ⟨m5,af,H⟩
 have bo:=ad.trans l6;have ah:=hL.mono ((l2.trans l5).trans l6);have bj:∀ i,i<=P.length->((Lh C P).take (i+1)).length=i+1:=fun i hi=>by rw[A1e];unfold Lh;rw[A03,ag];omega
 refine G.l (ι:=Nat×(zP×Nat)×List (Value×zV)) (fun i=>[(3,.p 1 0),(4,.p 2 0),(6,sV pa P.length pc),(9,.p 7006 0),(70,sV pa P.length pc),(71,iV P.length),(72,iV i.1)])
  (fun i=>[(1,⟨38,[tV (Ae C.c),sV a1 n1 c1,sV a2 n2 c2]⟩),(2,⟨57,[sN,sN,sN]⟩),
   (7006,⟨57,[.v (.slice pa P.length pc),.v (.slice i.2.1.1 (i.1+1) i.2.1.2),.v (.slice ra (P.length+1) rc)]⟩)])
  (fun i u' m'=>i.1<=P.length/\i.2.2.map (·.2)=((Lh C P).take (i.1+1)).map txV/\Bag m' (Bu (.slice ra (P.length+1) rc,txV ((An P).map (Bh C)))::oT (.slice i.2.1.1 (i.1+1) i.2.1.2) i.2.2::i.2.2.map Bu)) (fun i=>P.length-i.1)
  (0,(a7,c7),[(.slice fa (P.length+1) fc,txV ((An P).map (As C none)))]) ⟨oV,by unfold Lh An;rfl,ay⟩ ?_
 clear ay af H;rintro J ⟨i,⟨a4,a5⟩,E⟩ hJ u8 m8 l8 ⟨hi,I,H⟩;simp only at hi I H hJ;have bk:E.length=i+1:=by have:=congrArg List.length I;rw[A03,A03,bj i hi]at this;exact this
 by_cases a0:i<P.length
 ·refine G.lT i P.length ?_;obtain⟨p,a3⟩:∃ p,P[i]?=some p:=⟨_,A01 a0⟩;have ab:(An P).take (i+1+1)=(An P).take (i+1)++[some p]:=by rw[Ex,Ex,A1n,a3];simp
  have b5:=bo.trans l8;obtain⟨bp,op,e0,ep⟩:=Ac.at' (ah.mono l8) (j:=i) (e:=Ap p) (by simp[a3]);subst e0;refine G.N P.length pc a0 ep<|G.c call137 (hS u8 b5 p) ?_;rintro v9 u9 l9 rfl;refine G.buildM 34 1 16 zE [zS (Ae (C.s p))] kV (E7 _) rfl oV mV mV ?_;intro ae c4 av;refine G.l (ι:=Nat×(zP×Nat)) (fun j=>[(3,.p 1 0),(4,.p 2 0),(6,sV (some ⟨bp,op,none⟩) P.length pc),(9,.p 7006 0),(14,.p 18002 0),(15,sV j.2.1 (j.1+1) j.2.2),(70,sV (some ⟨bp,op,none⟩) P.length pc),(71,iV P.length),(72,iV i),(80,sV (some ⟨bp,op,none⟩) P.length pc),(81,iV P.length),(82,iV j.1)])
   (fun j=>[(1,⟨38,[tV (Ae C.c),sV a1 n1 c1,sV a2 n2 c2]⟩),(2,⟨57,[sN,sN,sN]⟩),
    (7006,⟨57,[.v (.slice (some ⟨bp,op,none⟩) P.length pc),.v (.slice a4 (i+1) a5),.v (.slice ra (P.length+1) rc)]⟩),(18002,⟨118,[.v (zI p.1),.v (zS p.2)]⟩)])
   (fun j u' m'=>j.1<=P.length/\Bag m' (Bu (.slice j.2.1 (j.1+1) j.2.2,txV (((An P).take (j.1+1)).map (As C (some p))))::Bu (.slice ra (P.length+1) rc,txV ((An P).map (Bh C)))::oT (.slice a4 (i+1) a5) E::E.map Bu)) (fun j=>P.length-j.1)
   (0,some ⟨ae,0,none⟩,1) ⟨oV,m8,av,H⟩ ?_
  rintro J2 ⟨j,la,lc⟩ aw bw b6 ac ⟨hj,aa⟩;simp only at hj aa aw;have b4:=(b5.trans l9).trans ac;by_cases az:j<P.length
  ·refine G.lT j P.length ?_;obtain⟨q,b2⟩:∃ q,P[j]?=some q:=⟨_,A01 az⟩;have bl:(An P).take (j+1+1)=(An P).take (j+1)++[some q]:=by rw[Ex,Ex,A1n,b2];simp
   obtain⟨bq,oq,e0,eq⟩:=Ac.at' (ah.mono ((l8.trans l9).trans ac)) (j:=j) (e:=Ap q) (by simp[b2]);cases e0;refine G.N P.length pc az eq<|G.c call66 (hQ bw b4 p q) ?_;rintro cb bx am rfl;refine G.B 34 1 16 zE [zS (Ae (C.t (Ay p q)))] (E7 _) ?_;intro be c6 bn ba;obtain⟨m0,U,Q⟩:=aa.focus 0 rfl;rw[D6]at U;have Z:(txV (((An P).take (j+1)).map (As C (some p)))).length=j+1:=by rw[Bgm,A03,A1e];omega
   refine G.append 34 1 16 zE m0 (txV (((An P).take (j+1)).map (As C (some p)))) [zS (Ae (C.t (Ay p q)))] (.slice la (j+1) lc) be 0 1 1 kV rfl rfl oV U ba (E7 _) rfl oV (by rw[Z];omega) (by rw[Z];omega) ?_;intro cd bu X;have bb:txV (((An P).take (j+1)).map (As C (some p)))++[zS (Ae (C.t (Ay p q)))]=txV (((An P).take (j+1+1)).map (As C (some p))):=by rw[bl,A1i,Md];rfl
   rw[bb]at X;have ak:(txV (((An P).take (j+1+1)).map (As C (some p)))).length=j+1+1:=by rw[Bgm,A03,A1e];omega
   obtain⟨ap,au,rfl⟩:=X.shape;rw[ak]at X⊢;have Y:=Q (Bu (.slice ap (j+1+1) au,txV (((An P).take (j+1+1)).map (As C (some p))))) bu X;exact G.i j<|G.b (aw (j+1,ap,au) _ _ _ cV ((ac.trans am).trans bn) ⟨dV,Y⟩ dV)
  obtain rfl:j=P.length:=oV;refine G.lF P.length P.length ?_;rw[show (An P).take (P.length+1)=An P by rw[A1j oV]]at aa;refine G.B 46 1 24 zN [.slice la (P.length+1) lc] (B5 _ _ _) ?_;intro bd bx am b9;obtain⟨m0,U,Q⟩:=aa.focus 2 rfl;rw[Aaa]at U;refine G.k 46 1 24 zN m0 (E.map (·.1)) [.slice la (P.length+1) lc] (.slice a4 (i+1) a5) bd 0 1 1 U b9 (B5 _ _ _) ?_;intro cc bt W;have em:E.map (·.1)++[Value.slice la (P.length+1) lc]=(E++[(Value.slice la (P.length+1) lc,txV ((An P).map (As C (some p))))]).map (·.1):=mV;rw[em]at W;obtain⟨ao,ar,rfl⟩:=W.shape;have el:((E++[(Value.slice la (P.length+1) lc,txV ((An P).map (As C (some p))))]).map (·.1)).length=i+1+1:=by simp[bk]
  rw[el]at W⊢;have ax:=Q (oT (.slice ao (i+1+1) ar) (E++[(Value.slice la (P.length+1) lc,txV ((An P).map (As C (some p))))])) bt W;have Y:=Bag.perm S8 ax;refine G.i i<|G.b (hJ (i+1,(ao,ar),E++[(Value.slice la (P.length+1) lc,txV ((An P).map (As C (some p))))]) _ _ _ cV (((l8.trans l9).trans ac).trans am) ⟨dV,?_,by simpa using Y⟩ dV);dsimp only;rw[A1i,I];unfold Lh;rw[<-A5g,<-A5g,ab,A1i,A1i];rfl
 obtain rfl:i=P.length:=oV;refine G.lF P.length P.length ?_;rw[A1j (by unfold Lh;rw[A03,ag];omega)]at I;exact G.r (.tuple #[.agg #[.slice pa P.length pc,.slice a4 (P.length+1) a5,.slice ra (P.length+1) rc],zO]) ⟨pa,pc,a4,a5,ra,rc,E,rfl,ah.mono l8,I,H⟩
end
section
variable {C:CF}{F:List Al}{K c i k n:Nat}{P:List Par}{R:List Br}{T:zC}{X:zM}{cv v:Value}{lab:Int}{m u:PH}{o s:Arr}{q:Rat}{r:Value×zV}{rows:List (Value×zV)}
def Lw (h:rows[i]?=some r):(s::o::rows.map Bu)[i+2]?=some (Bu r):=by simp[h]
def Agw :(s::o::rows.map Bu).set (i+2) (Bu r)=s::o::(rows.set i r).map Bu:=by
 simp[A2g]
def Aho {x:Value}{es es':zV}(h:rows[i]?=some (x,es)):oT v (rows.set i (x,es'))=oT v rows:=by
 unfold oT
 congr 1
 rw[A2g];exact Ny (by rw[A1a,h];rfl)
def Ayw {g n c i:Nat}(t:Bag m (s::oT (zG g n c) rows::rows.map Bu))(Y:rows.map (·.2)=X.map txV)(Q:Rec n n X)(hi:i<n) :
 ∃ H L,rows[i]?=some (zG H n L,txV (gM X i))/\ElP m g (0+i*1) (zG H n L)/\∀ j,j<n->ElP m H (0+j*1) (zS (Ae (gR (gM X i) j))):=by
 have a0:rows.length=n:=by have:=congrArg List.length Y;simpa[Q.1] using this
 have h:rows[i]?=some rows[i]:=A01 oV;obtain⟨⟨vi,V⟩,Z⟩:∃ x,rows[i]=x:=⟨_,rfl⟩;rw[Z]at h;have U:V=txV (gM X i):=by
  have W:(rows.map (·.2))[i]?=some V:=by rw[A1a,h];rfl
  have J:i<X.length:=by rw[Q.1];exact hi
  rw[Y,A1a,A01 J]at W;rw[Ch J];simpa using W.symm
 subst U;have E:(txV (gM X i)).length=n:=by rw[Bgm,Q.2 i hi]
 obtain⟨H,L,e⟩:=t.ptr (i+2) (Lw h) (by intro e;simp only[Bu]at e;rw[e]at E;simp at E;omega);simp only[Bu]at e;rw[E]at e;subst e;refine⟨H,L,h,t.el 1 (x:=oT _ rows) rfl rfl (by show (rows.map (·.1))[i]?=_;rw[A1a,h];rfl),fun j hj=>?_⟩;have I:j<(gM X i).length:=by rw[Q.2 i hi];exact hj
 exact t.el (i+2) (x:=Bu _) (Lw h) rfl (by show (txV (gM X i))[j]?=_;unfold txV;rw[A1a,A01 I,Cu I];rfl)
def V9 {v:Value}{a:zP}(h:Bag m (s::oT (.slice a n c) rows::rows.map Bu))(V:rows.map (·.2)=X.map txV)(U:PH.le m u):C7 u (.slice a n c) (Cv X):=by
 obtain⟨m0,h0,_⟩:=h.focus 1 rfl;have I:rows.length=X.length:=by have:=congrArg List.length V;simpa using this
 rw[Aaa]at h0;refine⟨rows.map (·.1),h0.list U,by simp[Cv,I],fun j r t=>?_⟩;unfold Cv at t;rw[A1a]at t;cases hx:X[j]? with
 |none=>rw[hx]at t;cases t
 |some x =>
  rw[hx]at t;simp only[A4c,A1f]at t;subst t;obtain⟨Y,_⟩:=A05.1 hx;have e:rows[j]?=some rows[j]:=A01 oV;obtain⟨⟨vi,L⟩,W⟩:∃ x,rows[j]=x:=⟨_,rfl⟩;rw[W]at e;have H:L=txV x:=by
   have E:(rows.map (·.2))[j]?=some L:=by rw[A1a,e];rfl
   rw[V,A1a,hx]at E;simpa using E.symm
  subst H;obtain⟨Z,E,_⟩:=h.focus (j+2) (Lw e);rw[D6]at E;obtain⟨a1,c1,J⟩:=E.shape;simp only at J;subst J;have Q:=E.list U;simp only[Bgm]at Q;refine⟨a1,c1,by rw[A1a,e];simp[Bgm],?_⟩;rw[A03];unfold Cj;rw[<-J7];exact Q
def D0 (q:Rat)(X:zM):Nat->zM
 |0=>X
 |1=>X
 |i+2=>(D0 q X (i+1)).set (i+1) ((gM (D0 q X (i+1)) (i+1)).set (i+1) (gR (gM (D0 q X (i+1)) (i+1)) (i+1)+q))
def Nx {q:Rat}{X:zM}{n:Nat}(e:Rec n n X):∀ i,i<=n->Rec n n (D0 q X i)
 |0,_=>e
 |1,_=>e
 |i+2,h=>by
  have j:=Nx e (q:=q) (i+1) oV;exact I8 j oV (by rw[A21,j.2 (i+1) oV])
theorem Vv {q:Rat}{X:zM}{n:Nat}(H:Rec n n X):∀ i,i<=n->∀ a b,a<n->b<n->en (D0 q X i) a b=en X a b+if a=b/\0<a/\a<i then q else 0
 |0,_,a,b,_,_=>by rw[if_neg oV];show en X a b=en X a b+0;grind
 |1,_,a,b,_,_=>by rw[if_neg oV];show en X a b=en X a b+0;grind
 |i+2,h,a,b,ha,hb=>by
  have e:=Vv H (q:=q) (i+1) oV a b ha hb;have I:=Nx H (q:=q) (i+1) oV;have J:i+1<(gM (D0 q X (i+1)) (i+1)).length:=by rw[I.2 (i+1) oV];omega
  show gR (gM ((D0 q X (i+1)).set (i+1) _) a) b=_;rw[Kb (by rw[I.1];omega)];by_cases j:i+1=a
  ·rw[if_pos j,Aht J];by_cases t:i+1=b
   ·subst j;subst t;rw[if_pos rfl,if_pos ⟨rfl,oV,oV⟩];rw[if_neg oV]at e;show en (D0 q X (i+1)) (i+1) (i+1)+q=_;rw[e];grind
   subst j;rw[if_neg t,if_neg oV];rw[if_neg oV]at e;exact e
  rw[if_neg j];show en (D0 q X (i+1)) a b=_;rw[e];by_cases E:a=b/\0<a/\a<i+1
  ·rw[if_pos E,if_pos oV]
  rw[if_neg E,if_neg oV]
def Azh {r:zR}(h:X[i]?=some r):gM X i=r:=by unfold gM;rw[A02,h];rfl
def Aep {l:zR}{r:Rat}(h:l[i]?=some r):gR l i=r:=by unfold gR;rw[A02,h];rfl
def Aj2 (C:CF)(P:List Par)(hi:i<P.length+1):gM (Lh C P) i=(An P).map (As C ((An P).getD i none)):=by
 have e:i<(An P).length:=by rw[Cp];exact hi
 refine Azh ?_;unfold Lh;rw[A1a,A01 e,A02,A01 e];rfl
def Sj (C:CF)(P:List Par):Rec (P.length+1) (P.length+1) (Lh C P) :=
 ⟨by unfold Lh;rw[A03,Cp],fun i hi=>by rw[Aj2 C P hi,A03,Cp]⟩
def Abs (C:CF)(P:List Par){i j:Nat}(hi:i<P.length+1)(h:j<P.length+1):en (Lh C P) i j=As C ((An P).getD i none) ((An P).getD j none):=by
 have e:j<(An P).length:=by rw[Cp];exact h
 unfold en;rw[Aj2 C P hi];refine Aep ?_;rw[A1a,A02 (l:=An P) (i:=j),A01 e];rfl
def Fd.de (h:Fd q):De 2 2 q:=by
 obtain⟨p,e,j⟩:=h.thirty;exact⟨p,30,e,oV,oV,oV⟩
def Te.cellDe (h:Te u v cv T R F lab C K k P)(e f:Option Par):De 75 18 (As C e f):=by
 cases e<;>cases f
 ·show De 75 18 C.c;rw[h.mom.c];exact (De.nat (a:=2) (by have:=h.mom.lt;omega)).mono oV oV
 ·exact h.mom.s _
 ·exact h.mom.s _
 exact h.mom.t _
theorem Ae1 (h:Te u v cv T R F lab C K k P)(hq:Fd q) :
 zF 16 [v,cv,zS (Ae q)] u fun r Q=>(∃ e:Int,e≠0/\(k=0/\e=12\/e=3/\k≠0/\11<P.length)/\r=.tuple #[.agg #[zN,zN,zN],zI e]) \/
  (k≠0/\P.length<=11/\∃ (pa:zP) (pc:Nat) (xa:zP) (xc:Nat) (ra:zP) (rc:Nat),r=.tuple #[.agg #[.slice pa P.length pc,.slice xa (P.length+1) xc,.slice ra (P.length+1) rc],zO]/\Ac Q (.slice pa P.length pc) 2 (P.map Ap) /\
   C7 Q (.slice xa (P.length+1) xc) (Cv (D0 q (Lh C P) (P.length+1)))/\Cj Q (.slice ra (P.length+1) rc) (((An P).map (Bh C)).map Ae)):=by
 have ad:=Afv h;have ab:=fun (Q:PH) (l:PH.le u Q)=>Afs (h.mono l) hq;have ac:=h.cellDe;obtain⟨xa,xc,xb,xd,xe,xf,rfl,_⟩:=id h.sch;obtain⟨a1,n1,c1,a2,n2,c2,rfl⟩:=id h.cof.opn;refine Fn0.o func16<|G.callO _ _ kV call58 ad ?_;rintro v1 u1 m1 l1 ⟨pa,pc,ya,L,ra,rc,rows,rfl,a8,t,E⟩ _;rw[By];refine G.nF 0 0<|G.c call59 (ab u1 l1) ?_;rintro v2 u2 l2 rfl;by_cases h0:k=0
 ·rw[if_pos h0];exact G.nT 12 0<|G.drop PH.mt kV (PH.mt_le _)<|G.r (.tuple #[.agg #[zN,zN,zN],zI 12]) ⟨rfl,.inl ⟨12,oV,.inl ⟨h0,rfl⟩,rfl⟩⟩
 rw[if_neg h0];refine G.nF 0 0 ?_;by_cases ae:P.length+1>12
 ·exact G.gT (P.length+1:Nat) 12<|G.drop PH.mt kV (PH.mt_le _)<|G.r (.tuple #[.agg #[zN,zN,zN],zI 3]) ⟨rfl,.inl ⟨3,oV,.inr ⟨rfl,h0,oV⟩,rfl⟩⟩
 refine G.gF (P.length+1:Nat) 12 ?_;have hX:=Sj C P;generalize aa:Lh C P=X at t hX;have a9:∀ i j,i<P.length+1->j<P.length+1->De 75 18 (en X i j):=fun i j hi hj=>by rw[<-aa,Abs C P hi hj];exact ac _ _
 have a5:rows.length=P.length+1:=by have:=congrArg List.length t;simpa[hX.1] using this
 obtain⟨go,co,eo⟩:=E.ptr 1 rfl (fun e=>by
  have:(rows.map (·.1)).length=0:=by rw[show rows.map (·.1) = [] from e];rfl
  rw[A03]at this;omega)
 have a6:(Value.slice ya (P.length+1) L)=zG go (P.length+1) co:=by
  have e1:(oT (.slice ya (P.length+1) L) rows).v=Value.slice ya (P.length+1) L:=rfl;rw[e1]at eo;rw[eo];have:(oT (.slice ya (P.length+1) L) rows).es.length=P.length+1:=by show (rows.map (·.1)).length=_;rw[A03,a5]
  rw[this]
 cases a6;refine G.l (ι:=Nat×List (Value×zV)) (fun i=>[(2,tV (Ae q)),(6,.p 2 0),(8,.p 1006 0),(11,iV i.1)])
  (fun _=>[(2,⟨57,[sN,sN,sN]⟩),(1006,⟨57,[sV pa P.length pc,sV (zA go) (P.length+1) L,sV ra (P.length+1) rc]⟩)])
  (fun i Q m'=>1<=i.1/\i.1<=P.length+1/\i.2.map (·.2)=(D0 q X i.1).map txV/\Bag m' (Bu (.slice ra (P.length+1) rc,txV ((An P).map (Bh C)))::oT (zG go (P.length+1) L) i.2::i.2.map Bu)) (fun i=>P.length+1-i.1)
  (1,rows) ⟨oV,oV,t,E⟩ ?_
 clear E t a5;rintro J ⟨i,rows⟩ hJ u3 m3 l3 ⟨a7,hi,t,E⟩;simp only at a7 hi t E hJ;have W:=Nx (q:=q) hX i hi;by_cases H:i<P.length+1
 ·refine G.lT i (P.length+1:Nat) ?_;obtain⟨gi,U,a4,e1,e2⟩:=Ayw E t W H;have Z:gR (gM (D0 q X i) i) i=en X i i:=by
   have:=Vv (q:=q) hX i hi i i H H;rw[if_neg oV]at this;show en (D0 q X i) i i=_;rw[this];grind
  have hd:=a9 i i H H;refine G.O (P.length+1) L H e1<|G.O (P.length+1) U H (e2 i H) ?_;rw[Z];have ha:=hd.add hq.de (f:=77) oV oV;refine G.c call60 (Aug (hd.tx oV oV oV oV) hq.tx (ha.tx oV oV oV oV)) ?_;rintro v4 u4 l4 rfl;refine G.nF 0 0<|G.O (P.length+1) L H e1<|G.a gi 0 (P.length+1) U i 1 H ?_;obtain⟨m0,I,a3⟩:=E.focus (i+2) (Lw a4);rw[D6]at I;have af:(txV (gM (D0 q X i) i)).length=P.length+1:=by rw[Bgm,W.2 i H]
  refine G.storeA 1 m0 (txV (gM (D0 q X i) i)) gi (P.length+1) U i (zS (Ae (en X i i+q))) kV I oV rfl rfl ?_;intro m5 V;have es:(txV (gM (D0 q X i) i)).set i (zS (Ae (en X i i+q)))=txV ((gM (D0 q X i) i).set i (gR (gM (D0 q X i) i) i+q)):=by
   rw[Z];unfold txV;rw[A2g]
  rw[es]at V;have Y:=a3 (Bu (zG gi (P.length+1) U,txV ((gM (D0 q X i) i).set i (gR (gM (D0 q X i) i) i+q)))) m5 V;rw[Agw,<-Aho a4 (es':=txV ((gM (D0 q X i) i).set i (gR (gM (D0 q X i) i) i+q)))]at Y;refine G.i i<|G.b (hJ (i+1,rows.set i (zG gi (P.length+1) U,txV ((gM (D0 q X i) i).set i (gR (gM (D0 q X i) i) i+q)))) _ _ _ cV (l3.trans l4) ⟨dV,dV,?_,Y⟩ dV);dsimp only;obtain⟨j,rfl⟩:∃ j,i=j+1:=⟨i-1,oV⟩;rw[A2g,t,<-A2g];rfl
 obtain rfl:i=P.length+1:=oV;refine G.lF (P.length+1:Nat) (P.length+1:Nat)<|G.giveP (ma:=m3) (sm:=PH.mt) kV (by funext g;unfold PH.or;cases m3 g<;>rfl) (fun g=>.inr rfl) (fun g=>.inl rfl) ?_
 intro u6 l6 a0;obtain⟨m0,I,_⟩:=E.focus 0 rfl;rw[D6]at I;have hR:Cj u6 (.slice ra (P.length+1) rc) (((An P).map (Bh C)).map Ae):=by
  unfold Cj;rw[<-J7];exact I.list a0
 exact G.r (.tuple #[.agg #[.slice pa P.length pc,zG go (P.length+1) L,.slice ra (P.length+1) rc],zO]) ⟨rfl,.inr ⟨h0,oV,pa,pc,_,L,ra,rc,rfl,a8.mono ((l2.trans l3).trans l6),V9 (v:=zT) E t a0,hR⟩⟩
end
section
variable {n q:Nat}
structure Tq (q:Rat):Prop where
 tx:Tx q
 den:q.den ∣ 21600
 num:q.num.natAbs<=3000000000000
def A0p {q d:Nat}(h:q ∣ 21600)(e:d ∣ 21600):q*(d/Nat.gcd q d) ∣ 21600:=by
 rw[<-Nat.mul_div_assoc _ (Ba0 _ _)];exact Ba7 h e
def leW (h:q ∣ 21600):0<q/\q<=21600:=⟨Nat.pos_of_dvd_of_pos h oV,A48 oV h⟩
def nlM (h:n<1000000000000000000):nl n<=2:=A4 (by simpa using h)
def Awq (h:n<100000000000000000):Lib.nDigits n<=17:=Cz (k:=17) oV oV
def Amo {u:PH}{v:Value}{A:zM}{n w:Nat}(h:C7 u v (Cv A))(hA:A.length<=12)(hr:∀ r∈A,r.length=w)(hw:w<=12)(hT:∀ r∈A,∀ q∈r,Tq q)(hn:n<=12):zF 138 [v,zI n] u fun v' _=>v'=zL:=by
 obtain⟨a,c,rfl⟩:=h.opn;rw[A3]at h⊢;refine Fn0.o func138<|G.c call67 (Ac6 (n:=1) oV oV) ?_;intro v1 u1 l1 k1;obtain⟨f1,rfl⟩:=k1.opB;refine G.l (ι:=Nat×B3×Nat) (fun i=>[(0,sV a A.length c),(1,iV n),(5,.p 1001 0),(18,iV A.length),(19,iV i.1)]) (fun i=>[(1001,⟨67,bc i.2.1⟩)])
  (fun i u' X=>i.1<=A.length/\i.2.2 ∣ 21600/\Do u' (bv i.2.1) (i.2.2:Int)/\X=PH.mt) (fun i=>A.length-i.1) (0,f1,1) ⟨A1t _,Ba6 _,k1,rfl⟩ ?_
 rintro J ⟨i,f,q⟩ hJ u2 m2 l2 ⟨hi,I,H,rfl⟩;simp only at hi I H hJ;by_cases m:i<A.length
 ·refine G.lT i A.length ?_;obtain⟨b1,o1,a1,c1,rfl,Q,Z⟩:=(h.mono (l1.trans l2)).row (Dw (A01 m));rw[A03,hr _ (A09 m)]at Q Z;refine G.N A.length c m Q<|G.l (ι:=Nat×B3×Nat) (fun k=>[(0,sV (some ⟨b1,o1,none⟩) A.length c),(1,iV n),(5,.p 1001 0),(18,iV A.length),(19,iV i),(6,iV i),(26,iV w),(27,iV k.1)]) (fun k=>[(1001,⟨67,bc k.2.1⟩)])
   (fun k u' X=>k.1<=w/\k.2.2 ∣ 21600/\Do u' (bv k.2.1) (k.2.2:Int)/\X=PH.mt) (fun k=>w-k.1) (0,f,q) ⟨A1t _,I,H,rfl⟩ ?_
  clear H I;rintro J2 ⟨k,f,q⟩ F u3 m3 P ⟨hk,I,H,rfl⟩;simp only at hk I H F;by_cases E:k<w
  ·refine G.lT k w ?_;have C:k<A[i].length:=by rw[hr _ (A09 m)];exact E
   have t:Tq A[i][k]:=hT _ (A09 m) _ (A09 C);obtain⟨b2,o2,rfl,e3⟩:=Ac.at' (Ac.mono Z P) (j:=k) (e:=zS (Ae A[i][k])) (by simp[Cc,A01 C]);refine G.N A.length c m (Q.mono P)<|G.N w c1 E e3<|G.c call27 (G8 t.tx) ?_;intro v4 u4 K k4;obtain⟨b4,a4,n4,c4,ah,an,aj,rfl,_,_,a6⟩:=k4.opn;have hd:=t.den;generalize A[i][k]=x at *
   obtain⟨a8,a0⟩:=leW hd;obtain⟨T,a3⟩:=leW I;have al:0<Nat.gcd q x.den:=Nat.gcd_pos_of_pos_left _ T;refine G.c call145 (Abo (H.mono K) a6 (A04 (nl1 oV) oV) (A04 (nl1 oV) oV)) ?_;intro v5 u5 Y k5;simp only[A1s]at k5;obtain⟨f5,rfl⟩:=k5.opB;have ae:Nat.gcd q x.den<=q:=Nat.gcd_le_left _ T;refine G.c call147 (Q5 (a6.mono Y) k5 (A04 (nl1 oV) oV) (A04 (nl1 oV) oV) oV) ?_;rintro v6 u6 l6 ⟨x6,y6,rfl,U,V⟩;obtain⟨f6,rfl⟩:=U.opB;obtain⟨a7,rfl⟩:=V.opB;have e6:((x.den:Int)).tdiv ((Nat.gcd q x.den:Nat):Int)=((x.den/Nat.gcd q x.den:Nat):Int):=by
    rw[A32 oV];rfl
   rw[e6]at U;have L:=A0p I hd;have a9:x.den/Nat.gcd q x.den<=x.den:=A3u _ _;refine G.c call74 (Gg (H.mono (((K.trans Y).trans l6))) U (A04 (nl1 oV) oV) (A04 (nlN oV) oV)) ?_;intro v7 u7 l7 W;obtain⟨f7,rfl⟩:=W.opB;rw[<-A4d]at W;generalize q*(x.den/Nat.gcd q x.den)=r at *
   obtain⟨am,ag⟩:=leW L;refine G.c call206 (Q0 W (A04 (nlM oV) oV)) ?_;rintro v8 u8 l8 rfl;have R:Lib.nDigits (r:Int).natAbs<=17:=Awq oV;generalize Lib.nDigits (r:Int).natAbs=D at *
   have ab:n*D<=12*17:=A25 hn R;exact G.mul (n:Int) (D:Int) ((n*D:Nat):Int) kV (by rw[A4d]) oV oV<|G.gF (n*D:Nat) 600<|G.i k<|G.b (F (k+1,f7,r) _ _ _ cV (((((P.trans K).trans Y).trans l6).trans l7).trans l8) ⟨dV,L,W.mono l8,rfl⟩ dV)
  exact G.lF k w<|G.i i<|G.b (hJ (i+1,f,q) _ _ _ cV (l2.trans P) ⟨dV,I,H,rfl⟩ dV)
 refine G.lF i A.length ?_;clear hJ m hi;refine G.l (ι:=Nat) (fun i=>[(0,sV a A.length c),(1,iV n),(5,.p 1001 0),(58,iV A.length),(59,iV i)]) (fun i=>[(1001,⟨67,bc f⟩)])
  (fun i u' X=>i<=A.length/\X=PH.mt) (fun i=>A.length-i) 0 ⟨A1t _,rfl⟩ ?_
 rintro J i hJ u3 m3 P ⟨hi,rfl⟩;by_cases m:i<A.length
 ·refine G.lT i A.length ?_;obtain⟨b1,o1,a1,c1,rfl,Q,Z⟩:=(h.mono ((l1.trans l2).trans P)).row (Dw (A01 m));rw[A03,hr _ (A09 m)]at Q Z;refine G.N A.length c m Q<|G.l (ι:=Nat) (fun k=>[(0,sV (some ⟨b1,o1,none⟩) A.length c),(1,iV n),(5,.p 1001 0),(58,iV A.length),(59,iV i),(11,iV i),(66,iV w),(67,iV k)]) (fun k=>[(1001,⟨67,bc f⟩)])
   (fun k u' X=>k<=w/\X=PH.mt) (fun k=>w-k) 0 ⟨A1t _,rfl⟩ ?_
  rintro J2 k F u4 m4 K ⟨hk,rfl⟩;by_cases E:k<w
  ·refine G.lT k w ?_;have C:k<A[i].length:=by rw[hr _ (A09 m)];exact E
   have t:Tq A[i][k]:=hT _ (A09 m) _ (A09 C);obtain⟨b2,o2,rfl,e3⟩:=Ac.at' (Ac.mono Z K) (j:=k) (e:=zS (Ae A[i][k])) (by simp[Cc,A01 C]);refine G.N A.length c m (Q.mono K)<|G.N w c1 E e3<|G.c call27 (G8 t.tx) ?_;intro v5 u5 Y k5;obtain⟨b5,a5,n5,c5,ai,ao,ak,rfl,_,ad,ac⟩:=k5.opn;have hd:=t.den;have a2:=t.num;generalize A[i][k]=x at *
   obtain⟨a8,a0⟩:=leW hd;obtain⟨T,a3⟩:=leW I;have aa:=H.mono ((P.trans K).trans Y);refine G.c call147 (Q5 aa ac (A04 (nlM oV) oV) (A04 (nl1 oV) oV) oV) ?_;rintro v6 u6 l6 ⟨x6,y6,rfl,U,V⟩;obtain⟨f6,rfl⟩:=U.opB;obtain⟨a7,rfl⟩:=V.opB;have e6:((q:Int)).tdiv (x.den:Int)=((q/x.den:Nat):Int):=by
    rw[A32 oV];rfl
   rw[e6]at U;have a9:q/x.den<=q:=A3u _ _;refine G.c call74 (Gg (ad.mono l6) U (A04 (nlM oV) oV) (A04 (nlN oV) oV)) ?_;intro v7 u7 l7 W;obtain⟨f7,rfl⟩:=W.opB;have af:(x.num*((q/x.den:Nat):Int)).natAbs<=3000000000000*21600:=by
    rw[A26,A1s];exact A25 a2 oV
   refine G.c call206 (Q0 W (A04 (nlM oV) oV)) ?_;rintro v8 u8 l8 rfl;have R:Lib.nDigits (x.num*((q/x.den:Nat):Int)).natAbs<=17:=Awq oV;generalize Lib.nDigits (x.num*((q/x.den:Nat):Int)).natAbs=D at *
   have ab:n*D<=12*17:=A25 hn R;exact G.mul (n:Int) (D:Int) ((n*D:Nat):Int) kV (by rw[A4d]) oV oV<|G.gF (n*D:Nat) 600<|G.i k<|G.b (F (k+1) _ _ _ cV ((((K.trans Y).trans l6).trans l7).trans l8) ⟨oV,rfl⟩ oV)
  exact G.lF k w<|G.i i<|G.b (hJ (i+1) _ _ _ cV (P.trans K) ⟨oV,rfl⟩ oV)
 exact G.lF i A.length<|G.gF n 600<|G.z zL
end
end Go.Proofs.YtemmheaocgmebaaGreatDoor
