/- Parts of one proof, joined by a program. -/
import Derived.Test.YtemmheaocgmebaaGreatDoorU11
set_option linter.defProp false
set_option linter.unusedVariables false
set_option linter.unusedSimpArgs false
set_option linter.unusedSectionVars false
set_option maxHeartbeats 16000000
namespace Go.Proofs.YtemmheaocgmebaaGreatDoor
open Go.Proofs.Tryz
open Go.RowKit Go.MapKept
def A9x:=@List.mem_of_mem_erase
def A3a:=@List.erase_cons_head
def A5e:=@List.erase_cons_tail
def A9h:=@List.map_map
def A31:=@List.getElem?_range
def A7f:=@Rat.intCast_inj
def Akc {u:PH}{v:Value}{A:List (List Rat)}{L:Nat}(h:C7 u v (Cv A))(hT:∀ r∈A,∀ q∈r,Tx q)(hl:A.length<=1000000)(ah:∀ r∈A,r.length<=1000000)(hL:∀ r∈A,∀ q∈r,q.den ∣ L)(bd:0<L)(be:nl L<=1000000000) :
 Ag prog 120 [v] u PH.mt fun v' T m'=>∃ D f a5 c5 R,0<D/\D ∣ L/\(∀ r∈A,∀ q∈r,q.den ∣ D)/\v'=.agg #[.bool f.b,.slice f.a f.n f.c,.slice a5 A.length c5]/\Bi T (nv f) (D:Int)/\NAt T R (A.map (Bp D))/\Bag m' (oN (.slice a5 A.length c5) R::R.map C3):=by
 obtain⟨a,c,rfl⟩:=h.opn;rw[A3]at h⊢;have ae:∀ D:Nat,D ∣ L->nl (D:Int).natAbs<=1000000000:=fun D U=>A04 (C4 (A48 bd U)) be;refine Ag.o func120<|G.c call121 (Kf (z:=1) oV oV) ?_;intro v1 u1 l1 k1;obtain⟨b1,a1,n1,c1,rfl⟩:=k1.opn;refine G.l (ι:=Nat×List Value×(Option Addr×Nat×Nat)×DI)
  (fun i=>[(2,.p 0 0),(3,.p 1002 0),(4,sV i.2.2.1.1 i.2.2.1.2.1 i.2.2.1.2.2),(19,sV a A.length c),(20,iV A.length),(21,iV i.1)])
  (fun i=>[(0,⟨187,[bV false,sV none 0 0,sV none 0 0]⟩),(1002,⟨187,[bV i.2.2.2.b,sV i.2.2.2.a i.2.2.2.n i.2.2.2.c,sV none 0 0]⟩)])
  (fun i T m'=>i.1<=A.length/\AtP F6 T i.2.1 (A.take i.1)/\Af PH.mt m' (.slice i.2.2.1.1 i.2.2.1.2.1 i.2.2.1.2.2) 135 1 i.2.1/\Yd T i.2.2.2 L/\∀ r∈A.take i.1,∀ q∈r,q.den ∣ i.2.2.2.D)
  (fun i=>A.length-i.1) (0,[],(none,0,0),⟨b1,a1,n1,c1,1⟩)
  ⟨A1t _,AtP.nil,Af.nil _ _ _,⟨k1,Nat.one_pos,Nat.one_dvd _⟩,fun r K=>by simp at K⟩ ?_
 rintro J ⟨k,Kp,⟨a2,n2,c2⟩,⟨db,da,dn,dc,D⟩⟩ hJ u2 m2 l2 ⟨hk,hF,hA,U,X⟩;simp only at hk hF hA U X hJ;have bk:=hF.1;rw[A1e]at bk;by_cases P:k<A.length
 ·refine G.lT k A.length ?_;have F:A[k]?=some A[k]:=A01 P;have g:=A09 P;obtain⟨ba,oa,a3,c3,rfl,e3,s3⟩:=(h.mono (l1.trans l2)).row (Dw F);rw[A03]at e3 s3;refine G.a ba oa A.length c k 1 oV<|G.lU none ba (oa+k*1) _ e3<|G.c call141 (T0 s3 (hT _ g) (ah _ g)) ?_;intro v4 u4 l4 k4;obtain⟨a4,c4,rfl⟩:=k4.lp.opn;refine G.l (ι:=Nat×DI)
   (fun i=>[(2,.p 0 0),(3,.p 1002 0),(4,sV a2 n2 c2),(19,sV (some ⟨ba,oa,none⟩) A.length c),(20,iV A.length),(21,iV k),(7,sV a4 A[k].length c4),(27,sV a4 A[k].length c4),(28,iV (A[k].length)),(29,iV i.1)])
   (fun i=>[(0,⟨187,[bV false,sV none 0 0,sV none 0 0]⟩),(1002,⟨187,[bV i.2.b,sV i.2.a i.2.n i.2.c,sV none 0 0]⟩)])
   (fun i T m'=>i.1<=A[k].length/\m'=m2/\Yd T i.2 L/\(∀ r∈A.take k,∀ q∈r,q.den ∣ i.2.D)/\∀ q∈A[k].take i.1,q.den ∣ i.2.D)
   (fun i=>A[k].length-i.1) (0,⟨db,da,dn,dc,D⟩)
   ⟨A1t _,rfl,U.mono l4,X,fun q I=>by simp at I⟩ ?_
  rintro J2 ⟨j,⟨eb,ea,en,ec,E⟩⟩ N u5 m5 V ⟨hj,rfl,hE,ag,Z⟩;simp only at hj hE ag Z N;by_cases e:j<A[k].length
  ·refine G.lT j (A[k].length:Int) ?_;have Q:A[k][j]?=some A[k][j]:=A01 e;have Y:=A09 e;have a0:=hT _ g _ Y;obtain⟨b6,o6,e6,rfl,h6,f6⟩:=(k4.mono V).lp.at Q;obtain⟨x1,x2,x3,x4,x5,x6,x7,x8,rfl⟩:=f6.opn;refine G.a b6 o6 A[k].length c4 j 4 e<|G.lU (some 4) b6 (o6+j*4) _ h6<|G.c call189 (Sk f6) ?_;intro v7 u7 l7 k7;obtain⟨b7,a7,n7,c7,rfl⟩:=k7.opn;refine G.c call188 (Alk ((hE.mono l7).1) k7 (A04 (ae _ hE.2.2) oV) (A04 (Bd a0.den) oV) (by have:=hE.2.1;dsimp only at this⊢;omega)) ?_;intro v8 u8 l8 k8;rw[Apj]at k8;obtain⟨b8,a8,n8,c8,rfl⟩:=k8.opn;refine G.add (j:Int) 1 ((j+1:Nat):Int) kV oV oV (by have:=ah _ g;omega)<|G.b (N (j+1,⟨b8,a8,n8,c8,Nat.lcm E A[k][j].den⟩) _ _ _ cV ((V.trans l7).trans l8) ⟨dV,rfl,⟨k8,?_,?_⟩,?_,?_⟩ dV)
   ·have:=hE.2.1;simp only at this⊢;exact Nat.lcm_pos this (A[k][j]).den_pos
   ·exact Nat.lcm_dvd hE.2.2 (hL _ g _ Y)
   ·exact fun r K q I=>A74 (ag r K q I) (A78 _ _)
   intro q I;dsimp only at I⊢;rw[A1n,Q]at I;rcases A1h.1 I with I|I
   ·exact A74 (Z q I) (A78 _ _)
   simp at I;subst I;exact Nat.dvd_lcm_right _ _
  have:j=A[k].length:=oV;subst this;rw[A15]at Z;refine G.lF (A[k].length:Int) (A[k].length:Int)<|G.B 135 1 24 (.slice none 0 0) [.slice a4 A[k].length c4] (B5 _ _ _) ?_;intro g6 u6 l6 e6;refine G.append 135 1 24 (.slice none 0 0) PH.mt Kp [.slice a4 A[k].length c4] (.slice a2 n2 c2) g6 0 1 1 kV rfl rfl oV hA e6 (B5 _ _ _) rfl oV oV oV ?_;intro v7 m7 ap;obtain⟨a7,c7,rfl⟩:=ap.shape;refine G.i k<|G.b (hJ (k+1,Kp++[Value.slice a4 A[k].length c4],(a7,(Kp++[Value.slice a4 A[k].length c4]).length,c7),⟨eb,ea,en,ec,E⟩) _ _ _ cV (((l2.trans l4).trans V).trans l6) ⟨dV,?_,ap,hE.mono l6,?_⟩ dV)
  ·dsimp only;rw[A1n,F];exact (hF.mono (fun _ _ h=>h.mono ((l4.trans V).trans l6))).snoc (k4.mono (V.trans l6))
  intro r K;dsimp only at K⊢;rw[A1n,F]at K;rcases A1h.1 K with K|K
  ·exact ag r K
  simp at K;subst K;exact Z
 have:k=A.length:=oV;subst this;rw[A15]at hF X;refine G.lF A.length A.length<|G.give PH.mt Kp _ kV hA (fun _=>.inl rfl) ?_;intro u3 l3 af;have bn:Kp.length=A.length:=by rw[hF.1]
 obtain⟨_,_,e0⟩:=af.opn;simp only[Value.slice.injEq]at e0;obtain⟨rfl,rfl,rfl⟩:=e0;rw[bn]at af⊢;have bc:Aeq u3 (.slice a2 A.length c2) A:=⟨Kp,af,hF.mono (fun _ _ h=>h.mono l3)⟩;refine G.l (ι:=Nat×List (Value×List Value)×(Option Addr×Nat))
  (fun i=>[(2,.p 0 0),(3,.p 1002 0),(45,sV a2 A.length c2),(46,iV A.length),(47,iV i.1)])
  (fun i=>[(0,⟨187,[bV false,sV none 0 0,sV none 0 0]⟩),(1002,⟨187,[bV db,sV da dn dc,sV i.2.2.1 i.1 i.2.2.2]⟩)])
  (fun i T m'=>i.1<=A.length/\NAt T i.2.1 ((A.take i.1).map (Bp D))/\Bag m' (oN (.slice i.2.2.1 i.1 i.2.2.2) i.2.1::i.2.1.map C3))
  (fun i=>A.length-i.1) (0,[],(none,0))
  ⟨A1t _,⟨rfl,fun i r h=>by simp at h⟩,PH.mt,Af.nil _ _ _,trivial⟩ ?_
 rintro J2 ⟨k,H,⟨a5,c5⟩⟩ N u5 m5 V ⟨bm,hN,ad⟩;simp only at bm hN ad N;have a9:=hN.1;rw[A03,A1e]at a9;by_cases P:k<A.length
 ·refine G.lT k A.length ?_;have F:A[k]?=some A[k]:=A01 P;have g:=A09 P;have ch:=ah _ g;obtain⟨b6,o6,e6,rfl,h6,f6⟩:=LP.at (bc.mono V) F;obtain⟨a7,c7,rfl⟩:=f6.lp.opn;refine G.a b6 o6 A.length c2 k 1 oV<|G.lU none b6 (o6+k*1) _ h6<|G.make 141 2 32 (.agg #[.bool false,.slice none 0 0]) A[k].length kV rfl rfl oV oV oV ?_;rintro v8 m8 aq ⟨a8,rfl⟩;obtain⟨t,rfl,ce⟩:=aq.some';refine G.l (ι:=Nat×List Value)
   (fun i=>[(2,.p 0 0),(3,.p 1002 0),(45,sV (some ⟨b6,o6,none⟩) A.length c2),(46,iV A.length),(47,iV k),(12,sV (some ⟨t,0,none⟩) A[k].length A[k].length),(54,sV a7 A[k].length c7),(55,iV (A[k].length)),(56,iV i.1)])
   (fun i=>[(0,⟨187,[bV false,sV none 0 0,sV none 0 0]⟩),(1002,⟨187,[bV db,sV da dn dc,sV a5 k c5]⟩)])
   (fun i T m'=>i.1<=A[k].length/\AtP Bi T i.2 (Bp D (A[k].take i.1))/\Af m5 m' (.slice (some ⟨t,0,none⟩) A[k].length A[k].length) 141 2 (i.2++List.replicate (A[k].length-i.1) (.agg #[.bool false,.slice none 0 0])))
   (fun i=>A[k].length-i.1) (0,[])
   ⟨A1t _,AtP.nil,by simpa using aq⟩ ?_
  rintro J3 ⟨j,done⟩ ar u9 m9 l9 ⟨bl,O,W⟩;simp only at bl O W ar;have au:=O.1;rw[Bp,A03,A1e]at au;by_cases e:j<A[k].length
  ·refine G.lT j (A[k].length:Int) ?_;have Q:A[k][j]?=some A[k][j]:=A01 e;have Y:=A09 e;have a0:=hT _ g _ Y;have cg:=(A[k][j]).den_pos;obtain⟨am,b4,cc,rfl,bb,ac⟩:=(f6.mono l9).lp.at Q;obtain⟨x1,x2,x3,x4,x5,x6,x7,x8,rfl⟩:=ac.opn;refine G.a am b4 A[k].length c7 j 4 e<|G.lU (some 4) am (b4+j*4) _ bb<|G.c call189 (Sk ac) ?_;intro cq bp m ax;obtain⟨bv,br,cj,c0,rfl⟩:=ax.opn;refine G.c call190 (M1 ((U.mono (((l3.trans V).trans l9).trans m)).1) ax (A04 (ae _ U.2.2) oV) (A04 (Bd a0.den) oV) oV) ?_;rintro bq cn aj ⟨cr,cs,rfl,ai,bo⟩;obtain⟨bw,bs,ck,c6,rfl⟩:=ai.opn;obtain⟨bx,bt,cl,ca,rfl⟩:=bo.opn;refine G.c call191 (Ael (ac.mono (m.trans aj))) ?_;intro ct co ak ay;obtain⟨bz,bu,cm,cb,rfl⟩:=ay.opn;have bj:((D:Int)/(A[k][j].den:Int))=((D/A[k][j].den:Nat):Int):=by push_cast;rfl
   rw[bj]at ai;refine G.c call126 (Ea ay (ai.mono ak) (A04 (Bd a0.1) oV) (by rw[A1s];exact A04 (Tk _ _) (A04 (ae _ U.2.2) oV))) ?_;intro cu cp b0 az;obtain⟨an,al,b3,ao,rfl⟩:=az.opn;refine G.a t 0 A[k].length A[k].length j 2 e<|G.storeA 2 m5 _ t A[k].length A[k].length j (.agg #[.bool an,.slice al b3 ao]) kV W gV rfl rfl ?_;intro ci a6;rw[Afh oV e]at a6;refine G.i j<|G.b (ar (j+1,done++[.agg #[.bool an,.slice al b3 ao]]) _ _ _ cV ((((l9.trans m).trans aj).trans ak).trans b0) ⟨dV,?_,a6⟩ dV);dsimp only;rw[A1n,Q,Bp,A1i];exact (O.mono (fun _ _ h=>h.mono (((m.trans aj).trans ak).trans b0))).snoc az
  have:j=A[k].length:=oV;subst this;rw[A15]at O;rw[A4i,A42,A1x]at W;refine G.lF (A[k].length:Int) (A[k].length:Int) ?_;have cd:done.length=A[k].length:=oV;refine G.B 190 1 24 (.slice none 0 0) [.slice (some ⟨t,0,none⟩) A[k].length A[k].length] (B5 _ _ _) ?_;intro b9 bp m b5;have bh:Bag m9 (C3 (.slice (some ⟨t,0,none⟩) A[k].length A[k].length,done)::oN (.slice a5 k c5) H::H.map C3):=⟨m5,W,ad⟩;obtain⟨m0,aw,av⟩:=bh.focus 1 rfl;rw[Akm]at aw;have bi:(H.map (·.1)).length=k:=by rw[A03,a9];omega
  refine G.append 190 1 24 (.slice none 0 0) m0 (H.map (·.1)) [.slice (some ⟨t,0,none⟩) A[k].length A[k].length] (.slice a5 k c5) b9 0 1 1 kV rfl rfl oV aw b5 (B5 _ _ _) rfl oV oV oV ?_;intro bq b2 C;obtain⟨aa,ab,rfl⟩:=C.shape;have e7:H.map (·.1)++[Value.slice (some ⟨t,0,none⟩) A[k].length A[k].length]=(H++[(Value.slice (some ⟨t,0,none⟩) A[k].length A[k].length,done)]).map (·.1):=mV;rw[e7]at C⊢;have el:((H++[(Value.slice (some ⟨t,0,none⟩) A[k].length A[k].length,done)]).map (·.1)).length=k+1:=by rw[<-e7,A1d,bi];rfl
  rw[el]at C⊢;have bf:=av (oN (.slice aa (k+1) ab) (H++[(Value.slice (some ⟨t,0,none⟩) A[k].length A[k].length,done)])) b2 C;have bg:Bag b2 (oN (.slice aa (k+1) ab) (H++[(Value.slice (some ⟨t,0,none⟩) A[k].length A[k].length,done)])::(H++[(Value.slice (some ⟨t,0,none⟩) A[k].length A[k].length,done)]).map C3):=by
   refine Bag.perm ?_ bf;rw[A1i];exact (List.Perm.swap _ _ _).trans (List.Perm.cons _ (A5r (l₁:=[C3 (Value.slice (some ⟨t,0,none⟩) A[k].length A[k].length,done)])))
  refine G.i k<|G.b (N (k+1,H++[(Value.slice (some ⟨t,0,none⟩) A[k].length A[k].length,done)],(aa,ab)) _ _ _ cV ((V.trans l9).trans m) ⟨dV,?_,bg⟩ dV);dsimp only;rw[A1n,F,A1i];exact (hN.mono (l9.trans m)).snoc (q:=Bp D A[k]) (O.mono (fun _ _ h=>h.mono m))
 have:k=A.length:=oV;subst this;rw[A15]at hN;exact G.lF A.length A.length<|G.r (.agg #[.bool db,.slice da dn dc,.slice a5 A.length c5]) ⟨D,⟨db,da,dn,dc⟩,a5,c5,H,U.2.1,U.2.2,X,rfl,(U.mono (l3.trans V)).1,hN,ad⟩
section
theorem Aem {q:Rat}{D:Nat}(h:q.den ∣ D):((q.num*((D/q.den:Nat):Int):Int):Rat)=q*(D:Rat):=by
 obtain⟨k,rfl⟩:=h;rw[Nat.mul_div_cancel_left _ q.den_pos,A3c,A7e,A2r];have e:q*(q.den:Rat)=(q.num:Rat):=by
  have e:q=(q.num:Rat)/(((q.den:Int)):Rat):=by rw[<-A37,A7h]
  have hi:=Bap _ (T4 q.den_pos);rw[A2r,A8v]at e;exact A0j e hi
 rw[<-e];grind
def Wf {D:Nat}{r:List Rat}{j:Nat}(e:j<r.length):gZ (Bp D r) j=(gR r j).num*((D/(gR r j).den:Nat):Int):=by
 unfold Bp;rw[Ol (by simpa using e),A3v,Cu e]
def Abw {A:List (List Rat)}{i:Nat}(h:i<A.length):gM A i∈A:=by rw[Ch h];exact A09 h
section
variable {A:List (List Rat)} {b:List Rat} {D D':Nat}
def Oy (f:Nat->Int):∀ n:Nat,((Ca n f:Int):Rat)=Bb n (fun j=>(f j:Rat))
 |0=>by rw[Uk];rfl
 |n+1=>by rw[Ca,A7d,Oy f n,Ds]
end
end
section
variable {A:List (List Rat)}{m u:PH}{n:Nat}
def Awb {v:Value}(h:C7 u v (Cv A))(e:Sq A):Fn0 prog 118 [v] u fun g _=>g=.int .i64 0:=by
 obtain⟨a,c,rfl⟩:=h.opn;refine Fn0.o func118<|G.c call186 (Adf h e) ?_;rintro z t j rfl;exact G.eT' 0 0 rfl<|G.nF A.length A.length<|G.r (.int .i64 0) ⟨rfl,rfl⟩
structure Th (q:Rat):Prop where
 tx:Tx q
 den:q.den ∣ 21600
 num:q.num.natAbs<=3000000000000
def Awy (h:n<100000000000000000):Lib.nDigits n<=17:=Cz (k:=17) oV oV
def Asd (hT:∀ r∈A,∀ q∈r,Th q):Y5 A 21600 17 where
 den:=fun r h q g=>(hT r h q g).den
 pos:=oV
 nl:=A04 (nlM oV) oV
 dig:=fun D z h0=>by
  have e:D<=21600:=A48 oV z;refine⟨Awy oV,fun r h q g C=>Awy ?_⟩;rw[A26,A1s];have j:=(hT r h q g).num;have t:D/q.den<=21600:=A04 (A3u _ _) e;have:=A25 j t;omega
def Aow {n w E:Nat}:∀ (f c:Nat) (s:BZ),SzZ s.X (zs E c)->nl s.v.natAbs<=zs E c->E8 n w s.X->s.P.length<=n->SzZ (Fm n f c s).X (zs E (c+f))/\nl (Fm n f c s).v.natAbs<=zs E (c+f)
 |0,c,s,h1,h2,_,_=>⟨h1,h2⟩
 |f+1,c,s,h1,h2,h3,h4=>by
  obtain⟨e,g,h,j,_⟩:=Al2 (c:=c) h1 h2 h3 h4;have t:zs E (c+1)=2*zs E c+2:=rfl;have:=Aow (E:=E) f (c+1) (I0 n c s) (e.mono oV) (A04 g oV) h j;unfold Fm;rw[show c+(f+1)=c+1+f by omega];exact this
def Az1 (h:n<=12):zs 2 n<=1000000000:=A04 (Aqf 2 h) fV
def Aus {l:List Arr}(h:Bag m l):Bag m (Np (.slice none 0 0) []::Np (.slice none 0 0) []::l):=⟨m,Af.nil _ _ _,m,Af.nil _ _ _,h⟩
def Am1 {n c:Nat}{a:Option Addr}{e:List (Value×List Value)}{X:List (List Int)}(g:Bag m (oN (.slice a n c) e::e.map C3))(h:NAt u e X)(j:PH.le m u):Nl u (.slice a n c) X:=Agf (Aus g) h j
end
section
variable [Cl] [Co]
section
variable {P:Program} {id:Nat} {ops:Array Oper} {dr:Bool} {Fin:S->PH->PH->Prop} {c:Cx} {Q:Exit->Act->World->Prop}
def Qh (P:Program)(id:Nat)(ops:Array Oper)(post:List Nat)(Fin:S->PH->PH->Prop):Nat->List Nat->S->PH->PH->Prop
 |0,_,s,u,m=>Ob P id ops true Fin post s u m
 |n+1,A,s,u,m=>∀ a∈A,(∀ b∈A,b≠a->bef ops ops.size a b=false)->Ob P id ops true (Qh P id ops post Fin n (A.erase a)) [a] s u m
theorem Ob.wpAnyT {s0:S}(N:On s0)(hE:(List.range ops.size).all (Kd ops)=true)(hF:∀ s u m ρ a w,Fin s u m->Rel c s u m ρ a w->Q .normal a w){j A0:List Nat}(Y:∀ y∈j,∀ a∈A0,bef ops ops.size y a=true)(a4:∀ a∈A0,∀ y∈j,dir ops a y=false) :
 ∀ (n k:Nat) (A pre:List Nat) (C:Array Bool) {s:S} {u m:PH} {ρ:Nat->Nat} {a:Act} {w:World},A.length=k->(∀ x∈A,x∈A0)->A.Pairwise (fun x y=>dir ops x y=false)->pre.length+(k+j.length)=n->Km ops C (pre++(A++j)) ->
  (pre++j).Pairwise (fun x y=>Ge ops s0 x y=true)->(∀ x∈pre,∀ y∈A,Ge ops s0 x y=true)->Gb ops s0 s->Ob P id ops true (Qh P id ops j Fin k A) pre s u m->Rel c s u m ρ a w->Go.wpAny P .any ops Q n C a w:=by
 intro n;induction n with
 |zero =>
  intro k A pre C s u m ρ a w X L U O g hP J H hO Z;obtain rfl:k=0:=oV;obtain rfl:=A2l X;exact g.any N hE hF (by simp only[A1d,A30];omega) hP H (Ob.append hO) Z
 |succ n ih =>
  intro k A pre C s u m ρ a w X L U O g hP J H hO Z;cases A with
  |nil =>
   simp at X;subst X;exact g.any N hE hF gV hP H (Ob.append hO) Z
  |cons b A' =>
   obtain⟨k,rfl⟩:∃ k',k=k'+1:=⟨k-1,by simp at X;omega⟩;refine⟨fun R=>?_,fun i hi=>?_⟩
   ·cases pre with
    |nil =>
     have:=Km.first (t:=b) (T:=A'++j) g hE fun x E=>by
      rcases A1h.1 E with E|E
      ·simp_all
      grind
     rw[R]at this;cases this
    |cons t T' =>
     have:=Km.first (t:=t) (T:=T'++(b::A'++j)) g hE fun x E=>by
      rcases A1h.1 E with E|E
      ·exact Gq (A34 hP (by simp[E]))
      rcases A1h.1 E with E|E
      ·exact Gq (J t mV x E)
      exact Gq (A34 hP (by simp[E]))
     rw[R]at this;cases this
   obtain⟨h1,h2,o,ho,F⟩:=Tz.1 hi;have I:=(g.mem i h1).1 h2;rcases A1h.1 I with I|I
   ·obtain⟨A1,B1,rfl⟩:=A6k I;have z:Km ops C (A1++i::(B1++(b::A'++j))):=by grind
    have a1:(A1++i::(B1++j)).Pairwise (fun x y=>Ge ops s0 x y=true):=by grind
    have a0:=z.swaps (A:=A1) (s0:=s0) (fun x E=>by simp[E]) ho F fun x E=>(A35.1 a1).2.2 x E i mV;have V:=Ob.bubble N A1 a0 Z.lv H hO;refine wpOp_mono (fun a' w' ⟨s',u',m',ρ',r1,ra,r2⟩=>?_) (V.step (Q:=Q) Z);refine ih (k+1) (b::A') (A1++B1) _ X L U (by simp at O⊢;omega) (by rw[A2k];exact z.next ho F) ?_ (fun x E y hy=>J x (by simp at E⊢;rcases E with h|h<;>simp[h]) y hy) (H.trans ra) r2 r1
    rw[A2k];exact a1.sublist (List.Sublist.append_left (List.sublist_cons_self i _) A1)
   rcases A1h.1 I with I|I
   ·have a3:(pre++(b::A'++j)).Perm (pre++i::((b::A').erase i++j)):=by
     refine List.Perm.append_left pre ?_;rw[<-A4x];exact (List.perm_cons_erase I).append_right j
    have z:=g.perm a3;have a0:=z.swaps (A:=pre) (s0:=s0) (fun x E=>by simp[E]) ho F fun x E=>J x E i I;have W:∀ b'∈b::A',b'≠i->bef ops ops.size i b'=false:=fun b' a2 a5=>by
     cases e:bef ops ops.size i b' with
     |false=>rfl
     |true=>exact (g.no (x:=b') (by simp at a2⊢;rcases a2 with h|h<;>simp[h]) (Ib g.cl ops.size i (fun o' K=>by rw[ho]at K;obtain rfl:=A28 K;exact F) e)).elim
    have V:=Ob.bubble (B:=[]) N pre a0 Z.lv H (Ob.append (l2:=[i]) (hO.fin fun s u m h=>h i I W));refine wpOp_mono (fun a' w' ⟨s',u',m',ρ',r1,ra,r2⟩=>?_) (V.step (Q:=Q) Z);rw[A1x]at r2;exact ih k ((b::A').erase i) pre _ (by rw[List.length_erase_of_mem I];simp at X⊢;omega) (fun x E=>L x (A9x E)) (U.sublist List.erase_sublist) oV (z.next ho F) hP (fun x E y hy=>J x E y (A9x hy)) (H.trans ra) r2 r1
   exfalso;exact g.no (x:=b) mV (Ib g.cl ops.size i (fun o' K=>by rw[ho]at K;obtain rfl:=A28 K;exact F) (Y i I b (L b mV)))
def Akn (ops:Array Oper):List Nat->Bool
 |[]=>true
 |x::l=>l.all (fun y=>!dir ops x y)&&Akn ops l
def W6:∀ {l:List Nat},Akn ops l=true->l.Pairwise (fun x y=>dir ops x y=false)
 |[],_=>.nil
 |x::l,h=>by
  unfold Akn at h;rw[A1m,A1o]at h;exact .cons (fun y e=>by simpa using h.1 y e) (W6 h.2)
def Alo (ops:Array Oper)(s:S)(pre A post:List Nat):Bool :=
 Nat.beq (pre.length+(A.length+post.length)) ops.size&&(List.range ops.size).all (fun i=>(pre++(A++post)).contains i)&&(pre++(A++post)).all (fun i=>Nat.blt i ops.size)&&decide ((pre++(A++post)).Nodup)&&Qp ops s (pre++post) &&
  pre.all (fun x=>A.all fun y=>Ge ops s x y)&&Akn ops A&&(List.range ops.size).all (Kd ops)&&post.all (fun y=>A.all fun a=>bef ops ops.size y a)&&A.all (fun a=>post.all fun y=>!dir ops a y)
end
section
variable {P:Program} {fn:Func} {Post:Ce}
theorem Sym.reg_tree (U:P.follows .mixedOrders=true){id:Nat}{ops:Array Oper}{pre A e:List Nat}{s:S}(C:Alo ops s pre A e=true){k:List KI}{u m:PH}
 (h:Ob P id ops true (Qh P id ops e (Hm P fn Post k) A.length A) pre s u m):Hm P fn Post (.code (.region id ops true)::k) s u m:=by
 intro c ρ a w F n;unfold Alo at C;simp only[A1m]at C;obtain⟨⟨⟨⟨⟨⟨⟨⟨⟨t,K⟩,H⟩,z⟩,L⟩,I⟩,N⟩,O⟩,J⟩,g⟩:=C;have t:=A1y t;rw[A1o]at K H I J g;have z:=of_decide_eq_true z;refine wp_region_any U ?_;refine Ob.wpAnyT (c:=c) (A0:=A) n.lv O (fun s u m ρ a w R n=>R c ρ a w F n) (fun y j a E=>by have:=J y j;rw[A1o]at this;exact this a E) (fun a E y j=>by have:=g a E;rw[A1o]at this;simpa using this y j) _ A.length A pre _ rfl (fun _ h=>h) (W6 N) t
  ⟨mV,fun i hi=>?_,fun i hi=>A8f▸H i hi,z,fun i hi=>?_⟩ (G0 L) (fun x V y j=>by have:=I x V;rw[A1o]at this;exact this y j) (Gb.refl _ _) h n.drew
 ·simp_all
 simp only[A2t]at hi;by_cases T:i<ops.size
 ·grind
 grind
def S.put4 (s:S)(d1 d2 d3 d4:Nat)(x1 x2 x3 x4:SV):S:=(((s.put (some d1) x1).put (some d2) x2).put (some d3) x3).put (some d4) x4
def I6 (s:S)(d1 d2 d3 d4:Nat)(x1 x2 x3 x4:SV)(t:Nat):(s.put4 d1 d2 d3 d4 x1 x2 x3 x4).tm t=if t=d4 then x4 else if t=d3 then x3 else if t=d2 then x2 else if t=d1 then x1 else s.tm t:=by
 unfold S.put4;have key:∀ (s:S) (d:Nat) (x:SV),(s.put (some d) x).tm t=if t=d then x else s.tm t:=fun s d x=>by
  by_cases e:t=d
  ·subst e;rw[Az,if_pos rfl]
  rw[Ct _ _ _ e,if_neg e]
 rw[key,key,key,key]
theorem Aos (s:S)(d1 d2 d3 d4:Nat):s=s.put4 d1 d2 d3 d4 (s.tm d1) (s.tm d2) (s.tm d3) (s.tm d4):=by
 refine S.ext' rfl (funext fun t=>?_) rfl;rw[I6];split
 ·grind
 grind
section
variable {s:S} {d1 d2 d3 d4:Nat} {x1 x2 x3 x4 y:SV} (h:d1≠d2/\d1≠d3/\d1≠d4/\d2≠d3/\d2≠d4/\d3≠d4)
include h
def Axl:(s.put4 d1 d2 d3 d4 x1 x2 x3 x4).put (some d1) y=s.put4 d1 d2 d3 d4 y x2 x3 x4:=by
 refine S.ext' rfl (funext fun t=>?_) rfl;rw[I6];by_cases e:t=d1
 ·subst e;rw[Az,if_neg h.2.2.1,if_neg h.2.1,if_neg h.1,if_pos rfl]
 rw[Ct _ _ _ e,I6,if_neg e,if_neg e]
def Ax4:(s.put4 d1 d2 d3 d4 x1 x2 x3 x4).put (some d2) y=s.put4 d1 d2 d3 d4 x1 y x3 x4:=by
 refine S.ext' rfl (funext fun t=>?_) rfl;rw[I6];by_cases e:t=d2
 ·subst e;rw[Az,if_neg h.2.2.2.2.1,if_neg h.2.2.2.1,if_pos rfl]
 rw[Ct _ _ _ e,I6,if_neg e,if_neg e]
def Axd:(s.put4 d1 d2 d3 d4 x1 x2 x3 x4).put (some d3) y=s.put4 d1 d2 d3 d4 x1 x2 y x4:=by
 refine S.ext' rfl (funext fun t=>?_) rfl;rw[I6];by_cases e:t=d3
 ·subst e;rw[Az,if_neg h.2.2.2.2.2,if_pos rfl]
 rw[Ct _ _ _ e,I6,if_neg e,if_neg e]
def Axt:(s.put4 d1 d2 d3 d4 x1 x2 x3 x4).put (some d4) y=s.put4 d1 d2 d3 d4 x1 x2 x3 y:=by
 refine S.ext' rfl (funext fun t=>?_) rfl;rw[I6];by_cases e:t=d4
 ·subst e;rw[Az,if_pos rfl]
 rw[Ct _ _ _ e,I6,if_neg e,if_neg e]
end
theorem Ob.layM {P:Program}[A6 P]{id:Nat}{ops:Array Oper}{Fin:S->PH->PH->Prop}{a d:Nat}{kk:List KI}{s:S}{u m:PH}(e:TypeId)(sz bt:Nat)(z:Value)(es:List Value)
 (h:Aj P (.reg id ops true [a]::kk,s)=.buildS (some (e,sz,bt,z)) es.length (es.zipIdx.map fun p=>(p.2,p.1))) (hd:(ops[a]?).bind (·.dst)=some d) (H:A9 sz es) (a6:z.cells.size=sz) (Y:0<sz) (V:0<es.length) (hb:es.length*sz<=16777216)
 (k:∀ g C,Af m C (.slice (some ⟨g,0,none⟩) es.length es.length) e sz es->Fin (s.put (some d) (.v (.slice (some ⟨g,0,none⟩) es.length es.length))) u C):Ob P id ops true Fin [a] s u m:=by
 obtain⟨a7,a0,a2,i',l',a8,aa,o,F,X,hg,N,hv,hs,n,a5⟩:=Eq h mV;obtain⟨⟨⟨rfl,rfl,rfl,rfl,rfl⟩,rfl⟩,rfl⟩:=F;have E:o.dst=some d:=by grind
 refine Ob.big (K:=fun v' Z C=>Z=u/\PH.le m C/\∃ g,v'=.slice (some ⟨g,0,none⟩) es.length es.length/\Af m C (.slice (some ⟨g,0,none⟩) es.length es.length) e sz es) X hg N hv hs (by
  obtain⟨t,qs,I,_⟩:=En n;rw[I];rfl) (fun v Z C L=>.inl L.2.1) (fun w R=>?_) (fun v Z C a4 L=>?_)
 ·obtain⟨t,qs,F,I,hi⟩:=En n;obtain⟨a3,a9,a1,pos,after,J⟩:=o;simp only at F;subst F;obtain⟨hu,i,T,U,rfl,rfl⟩:=D4 hi;obtain⟨g1,g2,g3,g4⟩:=R.newM (cs:=(A2 es).toArray) (t:=e) (by simpa using Fu H);have O:=Ba H;have W:es.length*i.size≠0:=by have:=A51 V Y;omega
  have j:=Sn es 0 ((Array.range (es.length*i.size)).map (z.cells[· % z.cells.size]!)) H mV;have e0:((Array.range (es.length*i.size)).map (z.cells[· % z.cells.size]!)).toList.drop (es.length*i.size) = []:=mV;simp only[A2w,e0]at j;refine B8 (w':=w.alloc (.cells (A2 es).toArray e (0,0))) (v:=.slice (some ⟨w.heap.size,0,none⟩) es.length es.length) ?_ ⟨u,_,g1,g2,rfl,Jw _ g3,_,rfl,H,.inr ⟨w.heap.size,es.length,[],g3,by rw[A1x],rfl,A08 _,by rw[A1x,O],mV⟩⟩;simp only[execOp,I];simp[Instr.buildSlice,run_underlying hu,sizeOf,typeInfo,zeroValue,T,U,W,j,newRow,show ¬ 16777216<es.length*i.size by omega]
 obtain⟨rfl,_,g,rfl,hA⟩:=L;rw[E];exact .nil (k g C hA)
theorem Ob.callV {P:Program}[A6 P]{id:Nat}{ops:Array Oper}{Fin:S->PH->PH->Prop}{a d:Nat}{kk:List KI}{s:S}{u m:PH}(f:Nat)(args:List Value){R:Value->PH->Prop}
 (h:Aj P (.reg id ops true [a]::kk,s)=.call f args) (hd:(ops[a]?).bind (·.dst)=some d) (V:∀ args w,(callFunc f args).run P w=.ok (.enter f args) w) (c:Fn0 P f args u R)
 (k:∀ v j,PH.le u j->R v j->Fin (s.put (some d) (.v v)) j m):Ob P id ops true Fin [a] s u m:=by
 obtain⟨a0,J,L,i',l',a1,a2,o,C,I,X,F,hv,Z,g,Y⟩:=Eq h mV;obtain⟨⟨⟨rfl,rfl,rfl,rfl,rfl⟩,rfl⟩,rfl⟩:=C;have n:o.dst=some d:=by grind
 refine Ob.big (K:=fun v' j z=>z=m/\R v' j) I X F hv Z (Dv _ _ g) (fun v j z E=>.inl (by rw[E.1];exact PH.le_refl _)) (fun w t=>?_) (fun v j z H E=>?_)
 ·refine Hq g V w _ ?_;refine (c w t.noM).mono fun e w' W=>?_;obtain⟨v,j,z,C,N,O,rfl,T⟩:=W;obtain⟨g1,g2⟩:=t.frame N O;exact⟨v,C,j,m,g1,g2,rfl,T⟩
 obtain⟨rfl,U⟩:=E;rw[n];exact .nil (k v j H U)
end
def Ahj (P:Program)(pre l:List Nat)(d1 d2 d3 d4:Nat)(x1 x2 x3 x4:SV)(st:List KI×S):List KI×S:=match st with
 |(.code (.region id ops true)::k,s)=>match Ru P id ops pre s with
  |some s'=>(.reg id ops true l::k,s'.put4 d1 d2 d3 d4 x1 x2 x3 x4)
  |none=>st
 |_=>st
def Azj (P:Program)(pre:List Nat)(q1 q2 r1 r2:Nat)(post:List Nat)(d1 d2 d3 d4:Nat)(st:List KI×S):Bool:=match st with
 |(.code (.region _ ops true)::_,s)=>Alo ops s pre [q1,q2,r1,r2] post&&(match st.1 with|.code (.region id ops _)::_=>(Ru P id ops pre s).isSome|_=>false)&&bef ops ops.size q2 q1&&bef ops ops.size r2 r1 &&
  decide ((ops[q1]?).bind (·.dst)=some d1/\(ops[q2]?).bind (·.dst)=some d2/\(ops[r1]?).bind (·.dst)=some d3/\(ops[r2]?).bind (·.dst)=some d4)&&decide (d1≠d2/\d1≠d3/\d1≠d4/\d2≠d3/\d2≠d4/\d3≠d4)&&decide ([q1,q2,r1,r2].Nodup)
 |_=>false
structure Lay where
 e:TypeId
 sz:Nat
 bt:Nat
 z:Value
 es:List Value
structure Asm (L:Lay):Prop where
 ho:A9 L.sz L.es
 hzs:L.z.cells.size=L.sz
 hsz:0<L.sz
 hn0:0<L.es.length
 hb:L.es.length*L.sz<=16777216
def Lay.stop (L:Lay):Vm:=.buildS (some (L.e,L.sz,L.bt,L.z)) L.es.length (L.es.zipIdx.map fun p=>(p.2,p.1))
def Lay.v (L:Lay)(g:Nat):Value:=.slice (some ⟨g,0,none⟩) L.es.length L.es.length
def Lay.arr (L:Lay)(g:Nat):Arr:=⟨L.v g,L.e,L.sz,L.es⟩
section rules
variable {P:Program} [A6 P] {fn:Func} {Post:Ce} {st:List KI×S} {u m:PH}
theorem G.fan (pre:List Nat)(q1 q2 r1 r2:Nat)(t:List Nat)(d1 d2 d3 d4:Nat)(C:Lay)(L:Nat->Lay)(K:Lay)(T:Value)(f:Nat)(args:List Value)(h:Azj P pre q1 q2 r1 r2 t d1 d2 d3 d4 (adv P st)=true)
 (H1:∀ x1 x2 x3 x4,Aj P (Ahj P pre [q1] d1 d2 d3 d4 x1 x2 x3 x4 (adv P st))=C.stop) (o1:Asm C)
 (H2:∀ g x2 x3 x4,Aj P (Ahj P pre [q2] d1 d2 d3 d4 (.v (C.v g)) x2 x3 x4 (adv P st))=(L g).stop) (o2:∀ g,Asm (L g))
 (H3:∀ x1 x2 x3 x4,Aj P (Ahj P pre [r1] d1 d2 d3 d4 x1 x2 x3 x4 (adv P st))=.call f args) (hc:∀ args w,(callFunc f args).run P w=.ok (.enter f args) w) (c:∀ n,PH.le u n->Fn0 P f args n fun v _=>v=T)
 (H4:∀ x1 x2 x4,Aj P (Ahj P pre [r2] d1 d2 d3 d4 x1 x2 (.v T) x4 (adv P st))=K.stop) (o4:Asm K)
 (k:∀ g1 g2 N n j,PH.le u n->Bag j [K.arr N,(L g1).arr g2,C.arr g1]->G P fn Post (Ahj P pre t d1 d2 d3 d4 (.v (C.v g1)) (.v ((L g1).v g2)) (.v T) (.v (K.v N)) (adv P st)) n j):G P fn Post st u m:=by
 refine G.stp ⟨?_⟩;generalize adv P st=st' at h H1 H2 H3 H4 k;unfold Azj at h;split at h
 ·rename_i id ops kk s;simp only[A1m]at h;obtain⟨⟨⟨⟨⟨⟨h1,h2⟩,hq⟩,hr⟩,hd⟩,R⟩,a0⟩:=h;obtain⟨I,a5⟩:=A6a.1 h2;obtain⟨e1,e2,e3,e4⟩:=of_decide_eq_true hd;have R:=of_decide_eq_true R;have a0:=of_decide_eq_true a0;simp only[A4j,A1g,A11,or_false,not_or,not_false_eq_true,List.nodup_nil,and_true]at a0;obtain⟨⟨ag,ad,ae⟩,⟨a6,a7⟩,af⟩:=a0;have e0:∀ l x1 x2 x3 x4,Ahj P pre l d1 d2 d3 d4 x1 x2 x3 x4 (.code (.region id ops true)::kk,s)=(.reg id ops true l::kk,I.put4 d1 d2 d3 d4 x1 x2 x3 x4):=fun l x1 x2 x3 x4=>by unfold Ahj;simp only[a5]
  simp only[e0]at H1 H2 H3 H4 k;refine Sym.reg_tree A6.mx h1 (Ob.autos a5 ?_);rw[Aos I d1 d2 d3 d4];generalize I.tm d1=x1;generalize I.tm d2=x2;generalize I.tm d3=x3;generalize I.tm d4=x4;have W:∀ {Fin x1 x2 x3 x4 u m},(∀ g j,(C.arr g).At m j->Fin (I.put4 d1 d2 d3 d4 (.v (C.v g)) x2 x3 x4) u j)->Ob P id ops true Fin [q1] (I.put4 d1 d2 d3 d4 x1 x2 x3 x4) u m:=fun {Fin x1 x2 x3 x4 u m} hk =>
   Ob.layM C.e C.sz C.bt C.z C.es (H1 x1 x2 x3 x4) e1 o1.ho o1.hzs o1.hsz o1.hn0 o1.hb fun g j E=>by rw[Axl R];exact hk g j E
  have X:∀ {Fin g1 x2 x3 x4 u m},(∀ g j,((L g1).arr g).At m j->Fin (I.put4 d1 d2 d3 d4 (.v (C.v g1)) (.v ((L g1).v g)) x3 x4) u j)->Ob P id ops true Fin [q2] (I.put4 d1 d2 d3 d4 (.v (C.v g1)) x2 x3 x4) u m:=fun {Fin g1 x2 x3 x4 u m} hk =>
   Ob.layM (L g1).e (L g1).sz (L g1).bt (L g1).z (L g1).es (H2 g1 x2 x3 x4) e2 (o2 g1).ho (o2 g1).hzs (o2 g1).hsz (o2 g1).hn0 (o2 g1).hb fun g j E=>by rw[Ax4 R];exact hk g j E
  have a2:∀ {Fin x1 x2 x3 x4 m} (u1:PH),PH.le u u1->(∀ n,PH.le u1 n->Fin (I.put4 d1 d2 d3 d4 x1 x2 (.v T) x4) n m)->Ob P id ops true Fin [r1] (I.put4 d1 d2 d3 d4 x1 x2 x3 x4) u1 m:=fun {Fin x1 x2 x3 x4 m} u1 hle hk =>
   Ob.callV f args (H3 x1 x2 x3 x4) e3 hc (c u1 hle) fun v n H hv=>by rw[Axd R,hv];exact hk n H
  have Y:∀ {Fin x1 x2 x4 u m},(∀ g j,(K.arr g).At m j->Fin (I.put4 d1 d2 d3 d4 x1 x2 (.v T) (.v (K.v g))) u j)->Ob P id ops true Fin [r2] (I.put4 d1 d2 d3 d4 x1 x2 (.v T) x4) u m:=fun {Fin x1 x2 x4 u m} hk =>
   Ob.layM K.e K.sz K.bt K.z K.es (H4 x1 x2 x4) e4 o4.ho o4.hzs o4.hsz o4.hn0 o4.hb fun g j E=>by rw[Axt R];exact hk g j E
  have a1:∀ {g1 g2 N n j},PH.le u n->Bag j [K.arr N,(L g1).arr g2,C.arr g1]->Qh P id ops t (Hm P fn Post kk) 0 [] (I.put4 d1 d2 d3 d4 (.v (C.v g1)) (.v ((L g1).v g2)) (.v T) (.v (K.v N))) n j:=fun H O=>(k _ _ _ _ _ H O).out;have ab:∀ {g1 g2 x4 n j},PH.le u n->Bag j [(L g1).arr g2,C.arr g1]->Qh P id ops t (Hm P fn Post kk) 1 [r2] (I.put4 d1 d2 d3 d4 (.v (C.v g1)) (.v ((L g1).v g2)) (.v T) x4) n j:=fun {g1 g2 x4 n j} H O a F _=>by
   simp only[A1g,A11,or_false]at F;subst F;rw[A3a];exact Y fun g J E=>a1 H ⟨j,E,O⟩
  have a8:∀ {g1 N x2 n j},PH.le u n->Bag j [K.arr N,C.arr g1]->Qh P id ops t (Hm P fn Post kk) 1 [q2] (I.put4 d1 d2 d3 d4 (.v (C.v g1)) x2 (.v T) (.v (K.v N))) n j:=fun {g1 N x2 n j} H O a F _=>by
   simp only[A1g,A11,or_false]at F;subst F;rw[A3a];exact X fun g J E=>a1 H (Bag.perm (List.Perm.swap _ _ _) (show Bag J [(L g1).arr g,K.arr N,C.arr g1] from⟨j,E,O⟩))
  have Z:∀ {g1 x2 x4 n j},PH.le u n->Bag j [C.arr g1]->Qh P id ops t (Hm P fn Post kk) 2 [q2,r2] (I.put4 d1 d2 d3 d4 (.v (C.v g1)) x2 (.v T) x4) n j:=fun {g1 x2 x4 n j} H O a F _=>by
   simp only[A1g,A11,or_false]at F;rcases F with rfl|rfl
   ·rw[A3a];exact X fun g J E=>ab H ⟨j,E,O⟩
   rw[A5e (by simpa using a7),A3a];exact Y fun g J E=>a8 H ⟨j,E,O⟩
  have a4:∀ {g1 g2 x3 x4 n j},PH.le u n->Bag j [(L g1).arr g2,C.arr g1]->Qh P id ops t (Hm P fn Post kk) 2 [r1,r2] (I.put4 d1 d2 d3 d4 (.v (C.v g1)) (.v ((L g1).v g2)) x3 x4) n j:=fun {g1 g2 x3 x4 n j} H O a F U=>by
   simp only[A1g,A11,or_false]at F;rcases F with rfl|rfl
   ·rw[A3a];exact a2 _ H fun ac V=>ab (H.trans V) O
   have:=U r1 mV af;rw[hr]at this;cases this
  have a3:∀ {N x1 x2 n j},PH.le u n->Bag j [K.arr N]->Qh P id ops t (Hm P fn Post kk) 2 [q1,q2] (I.put4 d1 d2 d3 d4 x1 x2 (.v T) (.v (K.v N))) n j:=fun {N x1 x2 n j} H O a F U=>by
   simp only[A1g,A11,or_false]at F;rcases F with rfl|rfl
   ·rw[A3a];exact W fun g J E=>a8 H (Bag.perm (List.Perm.swap _ _ _) (show Bag J [C.arr g,K.arr N] from⟨j,E,O⟩))
   grind
  have a9:∀ {g1 x2 x3 x4 n j},PH.le u n->Bag j [C.arr g1]->Qh P id ops t (Hm P fn Post kk) 3 [q2,r1,r2] (I.put4 d1 d2 d3 d4 (.v (C.v g1)) x2 x3 x4) n j:=fun {g1 x2 x3 x4 n j} H O a F U=>by
   simp only[A1g,A11,or_false]at F;rcases F with rfl|rfl|rfl
   ·rw[A3a];exact X fun g J E=>a4 H ⟨j,E,O⟩
   ·rw[A5e (by simpa using a6),A3a];exact a2 _ H fun ac V=>Z (H.trans V) O
   grind
  have aa:∀ {x1 x2 x4 n j},PH.le u n->Qh P id ops t (Hm P fn Post kk) 3 [q1,q2,r2] (I.put4 d1 d2 d3 d4 x1 x2 (.v T) x4) n j:=fun {x1 x2 x4 n j} H a F U=>by
   simp only[A1g,A11,or_false]at F;rcases F with rfl|rfl|rfl
   ·rw[A3a];exact W fun g J E=>Z H ⟨j,E,trivial⟩
   ·grind
   rw[A5e (by simpa using ae),A5e (by simpa using a7),A3a];exact Y fun g J E=>a3 H ⟨j,E,trivial⟩
  intro a F U;simp only[A1g,A11,or_false]at F;rcases F with rfl|rfl|rfl|rfl
  ·rw[A3a];exact W fun g J E=>a9 (PH.le_refl _) ⟨m,E,trivial⟩
  ·grind
  ·rw[A5e (by simpa using ad),A5e (by simpa using a6),A3a];exact a2 _ (PH.le_refl _) fun ac V=>aa V
  grind
 cases h
end rules
end
section
structure Aam (u:PH)(v cv:Value)(T:List (List UInt8×Nat))(R:List Br)(F:List Al)(lab:Int)(C:CF)(K k:Nat):Prop where
 sch:H5 u v T R F lab
 ok:Bl u T R F lab
 cof:No u cv C K
 sC:CFS C
 vC:CFV C
 K:K<=10000
 bel:∀ p,C.s p≠0->Adm F lab p
 mom:Ai6 C k
 p24:∀ P,Nn F C P->P.length<=24
 lab0:0<=lab
section
variable {u:PH} {v cv:Value} {T:List (List UInt8×Nat)} {R:List Br} {F:List Al} {lab:Int} {C:CF} {K k:Nat} {P:List Par}
def Yo (C:CF)(P:List Par)(i:Nat):List (List Rat):=((An P).take (i+1)).map (As C none)::(P.take i).map fun p=>(An P).map (As C (some p))
def An3:Yo C P P.length=Lh C P:=by
 unfold Yo Lh;rw[show (An P).take (P.length+1)=An P by rw[A1j (by rw[Cp];omega)],A15]
 conv=>rhs;rw[show An P=none::P.map some from rfl]
 rw[A2u,A9h];rfl
def Ajb (h:Aam u v cv T R F lab C K k) :
 Ag prog 184 [v,cv] u PH.mt fun r u' m'=>∃ (P:List Par) (pa:Option Addr) (pc:Nat) (xa:Option Addr) (xc:Nat) (ra:Option Addr) (rc:Nat) (n:List (Value×List Value)),Nn F C P /\
  r=.tuple #[.agg #[.slice pa P.length pc,.slice xa (P.length+1) xc,.slice ra (P.length+1) rc],.int .i64 0]/\Ac u' (.slice pa P.length pc) 2 (P.map Ap)/\n.map (·.2)=(Lh C P).map txV /\
  Bag m' (Bu (.slice ra (P.length+1) rc,txV ((An P).map (Bh C)))::oT (.slice xa (P.length+1) xc) n::n.map Bu):=by
 have b3:=Ahd h.sch h.ok h.cof h.sC h.vC (A04 h.K oV) h.bel;have am:=h.p24;have hK:=h.K;have cc:=h.lab0;have hS:=fun (u':PH) (l:PH.le u u') (p:Par)=>A0d p (h.cof.mono l) oV;have hQ:=fun (u':PH) (l:PH.le u u') (p q:Par)=>Afd p q (h.cof.mono l) oV;obtain⟨xa,xc,xb,xd,xe,xf,rfl,_⟩:=id h.sch;obtain⟨a1,n1,c1,a2,n2,c2,rfl⟩:=id h.cof.opn;refine Ag.o func184<|G.c call232 b3 ?_;intro v1 u1 l1 hp;obtain⟨ps,P,rfl,hL,_,a0⟩:=hp.resolve_left fun⟨_,L,h1,a0⟩=>by have:=am L a0;omega
 have cb:=am P a0;have cd:=Cp P;obtain⟨pa,pc,rfl⟩:=hL.opn;rw[A03]at hL⊢;refine G.nF 0 0<|G.lF lab 0<|G.fan [0,1,2,5,6,10] 3 4 7 8 [9,11] 33 34 37 38 ⟨34,1,16,.string (mkS []),[.string (mkS (Ae C.c))]⟩ (fun g=>⟨46,1,24,.slice none 0 0,[.slice (some ⟨g,0,none⟩) 1 1]⟩) ⟨34,1,16,.string (mkS []),[.string (mkS (Ae (C.s B7)))]⟩ (.string (mkS (Ae (C.s B7)))) _ _ kV
  (fun _ _ _ _=>kV) ⟨E7 _,rfl,Nat.one_pos,Nat.one_pos,mV⟩ (fun _ _ _ _=>kV) (fun _=>⟨B5 _ _ _,rfl,Nat.one_pos,Nat.one_pos,mV⟩) (fun _ _ _ _=>kV) call233 (fun u' l=>hS u' (l1.trans l) B7) (fun _ _ _=>kV) ⟨E7 _,rfl,Nat.one_pos,Nat.one_pos,mV⟩ ?_
 intro g3 g4 g5 u2 m5 l2 av;refine G.l (ι:=Nat×(Option Addr×Nat)×(Option Addr×Nat)×List (Value×List Value)) (fun i=>[(3,.p 1 0),(4,.p 2 0),(6,sV pa P.length pc),(8,.p 6001 0),(9,.p 7010 0),(40,sV pa P.length pc),(41,iV P.length),(42,iV i.1)])
  (fun i=>[(1,⟨38,[tV (Ae C.c),sV a1 n1 c1,sV a2 n2 c2]⟩),(2,⟨57,[sV none 0 0,sV none 0 0,sV none 0 0]⟩),(6001,⟨118,[iV (-1),tV []]⟩),
   (7010,⟨57,[.v (.slice pa P.length pc),.v (.slice i.2.1.1 (i.1+1) i.2.1.2),.v (.slice i.2.2.1.1 (i.1+1) i.2.2.1.2)]⟩)])
  (fun i u' m'=>i.1<=P.length/\i.2.2.2.map (·.2)=(Yo C P i.1).map txV/\Bag m' (Bu (.slice i.2.2.1.1 (i.1+1) i.2.2.1.2,txV (((An P).take (i.1+1)).map (Bh C)))::oT (.slice i.2.1.1 (i.1+1) i.2.1.2) i.2.2.2::i.2.2.2.map Bu)) (fun i=>P.length-i.1)
  (0,(some ⟨g4,0,none⟩,1),(some ⟨g5,0,none⟩,1),[(.slice (some ⟨g3,0,none⟩) 1 1,txV [C.c])])
  ⟨oV,by unfold Yo An;rfl,av⟩ ?_
 clear av;rintro J ⟨i,⟨ya,O⟩,⟨ra,rc⟩,n⟩ hJ u5 m5 l5 ⟨hi,z,E⟩;simp only at hi z E hJ;have bc:=(l1.trans l2).trans l5;have b5:n.length=i+1:=by have:=congrArg List.length z;rw[A03,A03]at this;rw[this];simp[Yo];omega
 by_cases b1:i<P.length
 ·refine G.lT i P.length ?_;obtain⟨p,ae⟩:∃ p,P[i]?=some p:=⟨_,A01 b1⟩;have b7:(An P).take (i+1+1)=(An P).take (i+1)++[some p]:=by rw[Ex,Ex,A1n,ae];simp
  obtain⟨bp,op,e0,ep⟩:=Ac.at' (hL.mono (l2.trans l5)) (j:=i) (e:=Ap p) (by simp[ae]);subst e0;refine G.a bp op P.length pc i 2 b1<|G.lU (some 2) bp (op+i*2) (.agg #[.int .i64 p.1,.string (mkS p.2)]) ep ?_;obtain⟨go,co,eo⟩:=E.ptr 1 rfl (fun e=>by
   have:(n.map (·.1)).length=0:=by rw[show n.map (·.1) = [] from e];rfl
   rw[A03]at this;omega)
  have bk:(Value.slice ya (i+1) O)=.slice (some ⟨go,0,none⟩) (i+1) co:=by
   have e1:(oT (.slice ya (i+1) O) n).v=Value.slice ya (i+1) O:=rfl;rw[e1]at eo;rw[eo];have:(oT (.slice ya (i+1) O) n).es.length=i+1:=by show (n.map (·.1)).length=_;rw[A03,b5]
   rw[this]
  cases bk;obtain⟨⟨v0,e0⟩,X⟩:∃ x,n[0]?=some x:=⟨_,A01 oV⟩;have bs:e0=txV (((An P).take (i+1)).map (As C none)):=by
   have h1:=congrArg (fun l=>l[0]?) z;simp only[A1a,X]at h1;simpa[Yo] using h1
  subst bs;have ad:(txV (((An P).take (i+1)).map (As C none))).length=i+1:=by rw[Cw,A03,A1e];omega
  obtain⟨z0,a5,ez⟩:=E.shape 2 (x:=Bu (v0,txV (((An P).take (i+1)).map (As C none)))) (by simp[X]);simp only[Bu]at ez;rw[ad]at ez;subst ez;have b2:ElP m5 go (0+0*1) (.slice z0 (i+1) a5):=E.el 1 (x:=oT (.slice (some ⟨go,0,none⟩) (i+1) O) n) rfl rfl (by show (n.map (·.1))[0]?=_;rw[A1a,X];rfl);refine G.a go 0 (i+1) O 0 1 oV<|G.lM none go (0+0*1) (.slice z0 (i+1) a5) b2<|G.c call233 (hS u5 bc p) ?_;rintro v6 u6 l6 rfl;refine G.B 34 1 16 (.string (mkS [])) [.string (mkS (Ae (C.s p)))] (E7 _) ?_;intro g7 u7 l7 e7;obtain⟨m0,N,H⟩:=E.focus 2 (x:=Bu (.slice z0 (i+1) a5,txV (((An P).take (i+1)).map (As C none)))) (by simp[X]);rw[D6]at N;refine G.append 34 1 16 (.string (mkS [])) m0 (txV (((An P).take (i+1)).map (As C none))) [.string (mkS (Ae (C.s p)))] (.slice z0 (i+1) a5) g7 0 1 1 kV rfl rfl oV N e7 (E7 _) rfl oV (by rw[ad];omega) (by rw[ad];omega) ?_;intro v8 m8 Z;have e8:txV (((An P).take (i+1)).map (As C none))++[.string (mkS (Ae (C.s p)))]=txV (((An P).take (i+1+1)).map (As C none)):=by rw[b7,A1i,Md];rfl
  rw[e8]at Z;have bt:(txV (((An P).take (i+1+1)).map (As C none))).length=i+1+1:=by rw[Cw,A03,A1e];omega
  obtain⟨a8,c8,rfl⟩:=Z.shape;rw[bt]at Z⊢;have aw:=H (Bu (.slice a8 (i+1+1) c8,txV (((An P).take (i+1+1)).map (As C none)))) m8 Z;obtain⟨m1,ag,W⟩:=aw.focus 1 rfl;rw[Aaa]at ag;refine G.a go 0 (i+1) O 0 1 oV<|G.storeA 1 m1 _ go (i+1) O 0 (.slice a8 (i+1+1) c8) kV ag gV rfl rfl ?_;intro m9 br;have ax:=W (oT (.slice (some ⟨go,0,none⟩) (i+1) O) (n.set 0 (.slice a8 (i+1+1) c8,txV (((An P).take (i+1+1)).map (As C none))))) m9 (by rw[Aaa,A2g];exact br);obtain⟨m,I⟩:∃ r,r=n.set 0 (.slice a8 (i+1+1) c8,txV (((An P).take (i+1+1)).map (As C none))):=⟨_,rfl⟩;have a7:Bag m9 (Bu (.slice ra (i+1) rc,txV (((An P).take (i+1)).map (Bh C)))::oT (.slice (some ⟨go,0,none⟩) (i+1) O) m::m.map Bu):=by
   rw[I,A2g];simpa using ax
  have bw:m.map (·.2)=(((An P).take (i+1+1)).map (As C none)::(P.take i).map fun p=>(An P).map (As C (some p))).map txV:=by
   rw[I,A2g,z];rfl
  have b6:m.length=i+1:=by rw[I,A21];exact b5
  clear ax aw H W N ag E z X b2;have bd:=(bc.trans l6).trans l7;refine G.c call233 (hS u7 bd p) ?_;rintro cm ch ah rfl;refine G.buildM 34 1 16 (.string (mkS [])) [.string (mkS (Ae (C.s p)))] kV (E7 _) rfl oV mV mV ?_;intro bl ce a6;have ba:=bd.trans ah;have an:=hL.mono ((((l2.trans l5).trans l6).trans l7).trans ah);refine G.l (ι:=Nat×(Option Addr×Nat)) (fun j=>[(3,.p 1 0),(4,.p 2 0),(6,sV (some ⟨bp,op,none⟩) P.length pc),(8,.p 6001 0),(9,.p 7010 0),(11,.p 10002 0),(12,sV j.2.1 (j.1+1) j.2.2),(40,sV (some ⟨bp,op,none⟩) P.length pc),(41,iV P.length),(42,iV i),(62,sV (some ⟨bp,op,none⟩) P.length pc),(63,iV P.length),(64,iV j.1)])
   (fun j=>[(1,⟨38,[tV (Ae C.c),sV a1 n1 c1,sV a2 n2 c2]⟩),(2,⟨57,[sV none 0 0,sV none 0 0,sV none 0 0]⟩),(6001,⟨118,[iV (-1),tV []]⟩),
    (7010,⟨57,[.v (.slice (some ⟨bp,op,none⟩) P.length pc),.v (.slice (some ⟨go,0,none⟩) (i+1) O),.v (.slice ra (i+1) rc)]⟩),(10002,⟨118,[.v (.int .i64 p.1),.v (.string (mkS p.2))]⟩)])
   (fun j u' m'=>j.1<=P.length/\Bag m' (Bu (.slice j.2.1 (j.1+1) j.2.2,txV (((An P).take (j.1+1)).map (As C (some p))))::Bu (.slice ra (i+1) rc,txV (((An P).take (i+1)).map (Bh C)))::oT (.slice (some ⟨go,0,none⟩) (i+1) O) m::m.map Bu)) (fun j=>P.length-j.1)
   (0,some ⟨bl,0,none⟩,1) ⟨oV,m9,a6,a7⟩ ?_
  clear a7 a6;rintro J2 ⟨j,la,Y⟩ ac c7 cg a4 ⟨hj,a3⟩;simp only at hj a3 ac;have a9:=ba.trans a4;by_cases ay:j<P.length
  ·refine G.lT j P.length ?_;obtain⟨q,b4⟩:∃ q,P[j]?=some q:=⟨_,A01 ay⟩;have bx:(An P).take (j+1+1)=(An P).take (j+1)++[some q]:=by rw[Ex,Ex,A1n,b4];simp
   obtain⟨bq,oq,e0,eq⟩:=Ac.at' (an.mono a4) (j:=j) (e:=Ap q) (by simp[b4]);cases e0;refine G.a bp op P.length pc j 2 ay<|G.lU (some 2) bp (op+j*2) (.agg #[.int .i64 q.1,.string (mkS q.2)]) eq<|G.c call54 (hQ c7 a9 p q) ?_;rintro cn ci bz rfl;refine G.B 34 1 16 (.string (mkS [])) [.string (mkS (Ae (C.t (Ay p q))))] (E7 _) ?_;intro bm cj c0 bf;obtain⟨m0,N,H⟩:=a3.focus 0 rfl;rw[D6]at N;have az:(txV (((An P).take (j+1)).map (As C (some p)))).length=j+1:=by rw[Cw,A03,A1e];omega
   refine G.append 34 1 16 (.string (mkS [])) m0 (txV (((An P).take (j+1)).map (As C (some p)))) [.string (mkS (Ae (C.t (Ay p q))))] (.slice la (j+1) Y) bm 0 1 1 kV rfl rfl oV N bf (E7 _) rfl oV (by rw[az];omega) (by rw[az];omega) ?_;intro cp c5 Q;have bg:txV (((An P).take (j+1)).map (As C (some p)))++[.string (mkS (Ae (C.t (Ay p q))))]=txV (((An P).take (j+1+1)).map (As C (some p))):=by rw[bx,A1i,Md];rfl
   rw[bg]at Q;have bu:(txV (((An P).take (j+1+1)).map (As C (some p)))).length=j+1+1:=by rw[Cw,A03,A1e];omega
   obtain⟨ai,ak,rfl⟩:=Q.shape;rw[bu]at Q⊢;have ao:=H (Bu (.slice ai (j+1+1) ak,txV (((An P).take (j+1+1)).map (As C (some p))))) c5 Q;exact G.i j<|G.b (ac (j+1,ai,ak) _ _ _ cV ((a4.trans bz).trans c0) ⟨dV,ao⟩ dV)
  obtain rfl:j=P.length:=oV
  refine G.lF P.length P.length ?_;clear ac;rw[show (An P).take (P.length+1)=An P by rw[A1j oV]]at a3;refine G.B 46 1 24 (.slice none 0 0) [.slice la (P.length+1) Y] (B5 _ _ _) ?_;intro bn ca b9 bh;obtain⟨m0,N,H⟩:=a3.focus 2 rfl;rw[Aaa]at N;refine G.k 46 1 24 (.slice none 0 0) m0 (m.map (·.1)) [.slice la (P.length+1) Y] (.slice (some ⟨go,0,none⟩) (i+1) O) bn 0 1 1 N bh (B5 _ _ _) ?_;intro cq be U;have em:m.map (·.1)++[Value.slice la (P.length+1) Y]=(m++[(Value.slice la (P.length+1) Y,txV ((An P).map (As C (some p))))]).map (·.1):=mV
  rw[em]at U;obtain⟨aa,ab,rfl⟩:=U.shape;have el:((m++[(Value.slice la (P.length+1) Y,txV ((An P).map (As C (some p))))]).map (·.1)).length=i+1+1:=by simp[b6]
  rw[el]at U⊢;have ap:=H (oT (.slice aa (i+1+1) ab) (m++[(Value.slice la (P.length+1) Y,txV ((An P).map (As C (some p))))])) be U;have aq:=Bag.perm S8 ap;have bb:=a9.trans b9;refine G.c call54 (hQ ca bb B7 p) ?_;rintro cr ck c3 rfl;refine G.B 34 1 16 (.string (mkS [])) [.string (mkS (Ae (C.t (Ay B7 p))))] (E7 _) ?_;intro bo cl c4 bi;have ar:Bag be (Bu (.slice ra (i+1) rc,txV (((An P).take (i+1)).map (Bh C)))::oT (.slice aa (i+1+1) ab) (m++[(Value.slice la (P.length+1) Y,txV ((An P).map (As C (some p))))])::(m++[(Value.slice la (P.length+1) Y,txV ((An P).map (As C (some p))))]).map Bu):=by simpa using aq
  obtain⟨m2,b8,af⟩:=ar.focus 0 rfl;rw[D6]at b8;have b0:(txV (((An P).take (i+1)).map (Bh C))).length=i+1:=by rw[Cw,A03,A1e];omega
  refine G.append 34 1 16 (.string (mkS [])) m2 (txV (((An P).take (i+1)).map (Bh C))) [.string (mkS (Ae (C.t (Ay B7 p))))] (.slice ra (i+1) rc) bo 0 1 1 kV rfl rfl oV b8 bi (E7 _) rfl oV (by rw[b0];omega) (by rw[b0];omega) ?_;intro cs c6 V;have bj:txV (((An P).take (i+1)).map (Bh C))++[.string (mkS (Ae (C.t (Ay B7 p))))]=txV (((An P).take (i+1+1)).map (Bh C)):=by rw[b7,A1i,Md];rfl
  rw[bj]at V;have bv:(txV (((An P).take (i+1+1)).map (Bh C))).length=i+1+1:=by rw[Cw,A03,A1e];omega
  obtain⟨aj,al,rfl⟩:=V.shape;rw[bv]at V⊢;have au:=af (Bu (.slice aj (i+1+1) al,txV (((An P).take (i+1+1)).map (Bh C)))) c6 V;refine G.i i<|G.b (hJ (i+1,(aa,ab),(aj,al),m++[(Value.slice la (P.length+1) Y,txV ((An P).map (As C (some p))))]) _ _ _ cV (((((((l5.trans l6).trans l7).trans ah).trans a4).trans b9).trans c3).trans c4) ⟨dV,?_,au⟩ dV);dsimp only;rw[A1i,bw];unfold Yo;rw[show P.take (i+1)=P.take i++[p] by rw[A1n,ae];rfl];simp
 obtain rfl:i=P.length:=oV
 refine G.lF P.length P.length ?_;rw[An3]at z;rw[show (An P).take (P.length+1)=An P by rw[A1j oV]]at E;exact G.r (.tuple #[.agg #[.slice pa P.length pc,.slice ya (P.length+1) O,.slice ra (P.length+1) rc],.int .i64 0]) ⟨P,pa,pc,ya,O,ra,rc,n,a0,rfl,hL.mono (l2.trans l5),z,E⟩
end
end
def Iz {u:PH}{T:List (List UInt8×Nat)}{R:List Br}{F:List Al}{lab:Int}(ok:Bl u T R F lab):∀ l:Nat,lab=(l:Int)->l<T.length:=fun l e=>by
 obtain⟨n,g⟩:=ok.l2 l e;exact (A05.1 g).1
def Au1:SmW 2:=⟨jV,jV⟩
section
def R4 {q:Rat}(h:0<q):0<q.num:=by
 have g:0<=q.num:=Rat.num_nonneg.2 (Bat h);have j:q.num≠0:=fun e=>by
  rw[A4r]at e;rw[e]at h;exact absurd h jV
 omega
def Atv {u:PH}{p q:Rat}(ht:Hx u)(hp:Tx p)(m:Tx q)(hs:Tx (p+q)):Fn0 prog 117 [.string (mkS (Ae p)),.string (mkS (Ae q))] u fun v _=>v=.tuple #[.string (mkS (Ae (p+q))),.int .i64 0]:=by
 have h:Fn0 prog 185 [.string (mkS (Ae p)),.string (mkS (Ae q)),.func (.func 129) #[] #[]] u fun v _=>v=.tuple #[.string (mkS (Ae (p+q))),.int .i64 0]:=by
  refine Fn0.o func185<|G.B 34 1 16 (.string (mkS [])) [.string (mkS (Ae p)),.string (mkS (Ae q))] (Gc [Ae p,Ae q]) ?_;intro g J H Y;have Z:Cj J (.slice (some ⟨g,0,none⟩) 2 2) ([p,q].map Ae):=⟨_,2,rfl,A08 _,fun j e hj=>⟨g,0,rfl,Y j e hj⟩⟩;refine G.c call234 (Ajw Z (by intro x n;simp at n;rcases n with rfl|rfl;exact hp;exact m) mV) ?_;rintro v2 u2 l2 rfl;refine G.c call133 (Gs hp) ?_;intro v3 u3 l3 t;obtain⟨b3,a3,n3,c3,P,L,a0,V,rfl⟩:=t.opn;refine G.c call133 (Gs m) ?_;intro v4 u4 I z;obtain⟨b4,a4,n4,c4,Q,N,a1,W,rfl⟩:=z.opn;refine G.c call129 (Lq (t.mono I) z (hp.sz.mono oV) (m.sz.mono oV)) ?_;intro v5 u5 l5 E;obtain⟨b5,a5,n5,c5,U,O,a2,X,rfl⟩:=E.opn;refine G.c call71 (Uf (ht.mono ((((H.trans l2).trans l3).trans I).trans l5)) E hs) ?_;rintro v6 u6 l6 rfl;exact G.r _ ⟨rfl,rfl⟩
 refine Fn0.o func117<|G.c call185 h ?_;rintro v1 J H rfl;exact G.r _ ⟨rfl,rfl⟩
structure Ay8 (q:Rat):Prop where
 tx:Tx q
 pos:0<q
 de:De 3 2 q
def Fd.w {q:Rat}(h:Fd q):Ay8 q:=⟨h.tx,h.pos,h.de.mono oV oV⟩
section
variable {u:PH} {v cv:Value} {T:List (List UInt8×Nat)} {R:List Br} {F:List Al} {lab:Int} {C:CF} {K k:Nat} {q:Rat}
theorem An9 (h:Aam u v cv T R F lab C K k)(hq:Ay8 q) :
 Ag prog 116 [v,cv,.string (mkS (Ae q))] u PH.mt fun r u' m'=>∃ (P:List Par) (pa:Option Addr) (pc:Nat) (xa:Option Addr) (xc:Nat) (ra:Option Addr) (rc:Nat) (rows:List (Value×List Value)),Nn F C P /\
  r=.tuple #[.agg #[.slice pa P.length pc,.slice xa (P.length+1) xc,.slice ra (P.length+1) rc],.int .i64 (if k=0 then 12 else 0)]/\Ac u' (.slice pa P.length pc) 2 (P.map Ap)/\rows.map (·.2)=(Lh C P).map txV /\
  Bag m' (Bu (.slice ra (P.length+1) rc,txV ((An P).map (Bh C)))::oT (.slice xa (P.length+1) xc) rows::rows.map Bu):=by
 have hmx:=Ajb h;have hS:=h.mom;obtain⟨xa,xc,xb,xd,xe,xf,rfl,_⟩:=id h.sch;obtain⟨a1,n1,c1,a2,n2,c2,rfl⟩:=id h.cof.opn;refine Ag.o func116 ?_;refine G.callO _ _ kV call184 hmx ?_;rintro v1 u1 m1 l1 ⟨P,pa,pc,ya,yc,ra,rc,rows,hPL,rfl,hP,hrows,hbag⟩ _;rw[By];refine G.nF 0 0 ?_;refine G.c call169 (Gu hq.tx) ?_;rintro v2 u2 l2 rfl;refine G.c call103 (S7 hq.tx) ?_;rintro v3 u3 l3 rfl;have hqn:sgn q.num=1:=C5 (R4 hq.pos);refine G.kF (sgn q.num) 0 ?_;refine G.c call103 (S7 hS.tx) ?_;rintro v4 u4 l4 rfl;by_cases h0:k=0
 ·rw[if_pos h0];have hz:sgn C.c.num=0:=A0g.2 (by rw[hS.c,h0];rfl);refine G.kT (sgn C.c.num) 0 ?_;exact G.r (.tuple #[.agg #[.slice pa P.length pc,.slice ya (P.length+1) yc,.slice ra (P.length+1) rc],.int .i64 12]) ⟨P,pa,pc,ya,yc,ra,rc,rows,hPL,rfl,hP.mono ((l2.trans l3).trans l4),hrows,hbag⟩
 ·rw[if_neg h0];have hz:sgn C.c.num=1:=C5 (R4 (hS.cpos h0));refine G.kF (sgn C.c.num) 0 ?_;exact G.r (.tuple #[.agg #[.slice pa P.length pc,.slice ya (P.length+1) yc,.slice ra (P.length+1) rc],.int .i64 0]) ⟨P,pa,pc,ya,yc,ra,rc,rows,hPL,rfl,hP.mono ((l2.trans l3).trans l4),hrows,hbag⟩
end
end
def K9 (m:PH)(gn:Nat)(e:Int):PH:=if e=0 then m else m.upd gn (.cells #[.slice none 0 0,.slice none 0 0,.slice none 0 0] 57 (0,0))
def Apo {P:Program}{T:TypeId}{z:Value}{u m:PH}{w:World}{t:Nat}{s1 s2 s3 t1 t2 t3:Value}(C:Bv u m w)(X:m t=some (.cells #[s1,s2,s3] T (0,0)))(h1:Ax t1=true)(h2:Ax t2=true)(h3:Ax t3=true)(hz:∀ K,pv P K (.build T #[])=some (.agg #[t1,t2,t3]))(hs:szB P T=some 3)
 {Q:Exit->Act->World->Prop} {F H:Oper} (Z:F.op=.build T #[]) (d0:F.dst=some 4) (W:F.guard=none) (p1:H.op=.store T (.tmp 1) (.tmp 4)) (U:H.dst=none) (g1:H.guard=none) {id:Nat} {a:Act} (ha:a.eval (.tmp 1)=.pointer (some ⟨t,0,none⟩)) (hl:4<a.tmps.size)
 (hk:∀ R w',R.defers=a.defers->Bv u (m.upd t (.cells #[t1,t2,t3] T (0,0))) w'->B0 u m w u (m.upd t (.cells #[t1,t2,t3] T (0,0))) w'->Q .normal R w'):(Code.region id #[F,H] false).wp P Q a w:=by
 obtain⟨a0,a1,n,pos,after,L⟩:=F;obtain⟨V,Y,g,j,e,I⟩:=H;simp only at Z d0 W p1 U g1;subst Z d0 W p1 U g1;have e0:(execOp a.eval ⟨some 4,.build T #[],n,pos,after,none⟩).run P w=.ok (.value (.agg #[t1,t2,t3])) w:=Agc (hz _) w;have N:(a.put (some 4) (.agg #[t1,t2,t3])).eval (.tmp 1)=.pointer (some ⟨t,0,none⟩):=by
  rw[<-ha];simp[Act.eval,Act.put]
 have O:(a.put (some 4) (.agg #[t1,t2,t3])).eval (.tmp 4)=.agg #[t1,t2,t3]:=by
  simp[Act.eval,Act.put,hl]
 have h:∀ x∈(#[t1,t2,t3]:Array Value).toList,Ax x=true:=fun x J=>by
  simp at J;rcases J with rfl|rfl|rfl<;>assumption
 obtain⟨k1,k2⟩:=C.setM X h;have e1:(execOp (a.put (some 4) (.agg #[t1,t2,t3])).eval ⟨none,.store T (.tmp 1) (.tmp 4),g,j,e,none⟩).run P w=.ok .skip (w.setRow t #[t1,t2,t3]):=by
  have E:=run_storeCells_at P t 0 T [t1,t2,t3] 0 #[s1,s2,s3] w (C.pm t _ X) mV (fun x J=>Gl (h x (by simpa using J)));simp only[execOp,N,O];simp[Instr.storeAt,Instr.sureAddr,storeVar,Bf hs,Value.cells]at E⊢;rw[E];rfl
 refine wp_region ?_;refine .inl ?_;show Oper.upon P ⟨some 4,.build T #[],n,pos,after,none⟩ a _ _ ((execOp a.eval ⟨some 4,.build T #[],n,pos,after,none⟩).run P w);rw[e0,Oper.upon_value];show wpOps P _ _ [1] (a.put (some 4) (.agg #[t1,t2,t3])) w;refine .inl ?_;show Oper.upon P ⟨none,.store T (.tmp 1) (.tmp 4),g,j,e,none⟩ (a.put (some 4) (.agg #[t1,t2,t3])) _ _ ((execOp (a.put (some 4) (.agg #[t1,t2,t3])).eval ⟨none,.store T (.tmp 1) (.tmp 4),g,j,e,none⟩).run P w);rw[e1,Oper.upon_skip];exact hk _ _ rfl k1 k2
theorem Aja {u m:PH}{ge gn:Nat}{e:Int}{s1 s2 s3:Value}(he:m ge=some (.cells #[.int .i64 e] 39 (0,0)))(hn:m gn=some (.cells #[s1,s2,s3] 57 (0,0)))(h1:Ax s1=true)(h2:Ax s2=true)(h3:Ax s3=true) :
 Aix prog 115 [.pointer (some ⟨ge,0,none⟩),.pointer (some ⟨gn,0,none⟩)] u m (fun u' m'=>u'=u/\m'=K9 m gn e):=by
 intro w hgd;refine (callsDIn_of_wp (R:=fun e' w'=>∃ v u' m',e'=.returned v/\Bv u' m' w'/\B0 u m w u' m' w'/\u'=u/\m'=K9 m gn e) func115 rfl trivial (wpIn_wide.2 ?_) rfl).mono (fun e' md w' h=>h);have hl:∀ ev:Operand->Value,∀ o:Oper,o.op=.load 39 (.tmp 0)->ev (.tmp 0)=.pointer (some ⟨ge,0,none⟩)->(execOp ev o).run prog w=.ok (.value (.int .i64 e)) w:=fun ev o ho hv=>by
  obtain⟨dst,opp,type,pos,after,guard⟩:=o;simp only at ho;subst ho;have hel:ElP m ge 0 (.int .i64 e):=fun i x hi=>by
   match i,hi with
   |0,hi=>exact⟨_,_,_,he,by simpa[Value.cells] using hi⟩
  have hr:=Kj (P:=prog) (t:=39) (k:=none) kV rfl hel hgd.pm;simp[execOp,Instr.loadAt,Instr.sureAddr,hv];rw[hr];rfl
 have hb:∀ ev:Operand->Value,∀ o:Oper,o.op=.binOp .neq 39 (.tmp 2) (.const (.int .i64 0)) 39->ev (.tmp 2)=.int .i64 e->ev (.const (.int .i64 0))=.int .i64 0->(execOp ev o).run prog w=.ok (.value (.bool (decide (e≠0)))) w:=fun ev o ho hv hv2=>by
  obtain⟨dst,opp,type,pos,after,guard⟩:=o;simp only at ho;subst ho;have hg:∀ t X Y,(eqGuard .neq t X Y (.int .i64 e) (.int .i64 0)).run prog w=.ok () w:=fun t X Y=>C0 t X Y w;have hr:∀ t,(binOp .neq t (.int .i64 e) (.int .i64 0)).run prog w=.ok (.bool (decide (e≠0))) w:=fun t=>by
   simp[binOp,Op.intCmp]
   try (rw[A9j];simp)
  simp[execOp,hv,hv2,hg,hr]
 refine wp_seq (wp_region ?_);refine .inl ?_;show Oper.upon _ _ _ _ _ ((execOp _ _).run _ _);rw[hl _ _ rfl rfl,Oper.upon_value];refine .inl ?_;show Oper.upon _ _ _ _ _ ((execOp _ _).run _ _);rw[hb _ _ rfl rfl rfl,Oper.upon_value];by_cases h0:e=0
 ·rw[show decide (e≠0)=false by simp[h0]];refine wp_cond_false rfl (wp_skip ?_);refine bodyPost_end (results_none rfl _ _ _) rfl ?_;exact⟨_,_,_,rfl,hgd,B0.refl _ _ _,rfl,by unfold K9;rw[if_pos h0]⟩
 ·rw[show decide (e≠0)=true by simp[h0]];refine wp_cond_true rfl ?_;refine Apo (z:=undef) hgd hn (t1:=.slice none 0 0) (t2:=.slice none 0 0) (t3:=.slice none 0 0) rfl rfl rfl (fun env=>kV) kV rfl rfl rfl rfl rfl rfl rfl (Nat.lt_of_lt_of_eq (by decide:4<5) rfl) ?_;intro a' w' hd k1 k2;refine bodyPost_end (results_none rfl _ _ _) hd ?_;exact⟨_,_,_,rfl,k1,k2,rfl,by unfold K9;rw[if_neg h0]⟩
section
variable [Cl] [Co]
section
variable {P:Program} [A6 P] {id:Nat} {ops:Array Oper} {Fin:S->PH->PH->Prop} {a d:Nat} {kk:List KI} {s:S} {u m:PH}
def Ob.loadO (I:Option Nat)(b off:Nat)(e:Value)(h:Aj P (.reg id ops true [a]::kk,s)=.load (some I) (.pointer (some ⟨b,off,none⟩)))(H:(ops[a]?).bind (·.dst)=some d)(V:Wg I e=true)(R:ElP m b off e)(k:Fin (s.put (some d) (.v e)) u m):Ob P id ops true Fin [a] s u m:=by
 obtain⟨Y,J,L,i',l',Z,a1,o,j,z,T,E,W,F,g,U⟩:=Eq h mV;simp only[A2i,A3g,KI.reg.injEq]at j;obtain⟨⟨⟨rfl,rfl,rfl,rfl,rfl⟩,rfl⟩,rfl⟩:=j;have n:o.dst=some d:=by rw[z]at H;simpa using H
 refine Ob.ask (v:=e) z T E W F (Aby g mV) (fun w hp=>?_) ?_
 ·obtain⟨t,X,j,O,Q⟩:=Ui g;obtain⟨N,a0,K,pos,after,C⟩:=o;simp only at j;subst j;simp[execOp,Instr.loadAt,Instr.sureAddr,O,Kj Q V R ((hp (.inl rfl)).2 (.inl rfl))]
 rw[n];exact .nil k
def Ob.storeO (sz b off:Nat)(t:TypeId)(cs:List Value)(e:Value)(h:Aj P (.reg id ops true [a]::kk,s)=.store (some sz) (.pointer (some ⟨b,off,none⟩)) e)(hd:(ops[a]?).bind (·.dst)=none)(hw:L6 ops a ((ops[a]?.getD default).op)=true)(hb:m b=some (.cells cs.toArray t (0,0)))(ho:∀ x∈cs,Ax x=true)(hl:off+sz<=cs.length)(R:e.cells.size=sz)(O:e.cells.toList.all Ax=true)
 (k:Fin s u (m.upd b (.cells (cs.take off++e.cells.toList++cs.drop (off+sz)).toArray t (0,0)))):Ob P id ops true Fin [a] s u m:=by
 obtain⟨a4,a0,a1,i',l',a5,a7,o,F,C,hg,Q,hv,V,g,a3⟩:=Eq h mV;simp only[A2i,A3g,KI.reg.injEq]at F;obtain⟨⟨⟨rfl,rfl,rfl,rfl,rfl⟩,rfl⟩,rfl⟩:=F;have H:o.dst=none:=by rw[C]at hd;simpa using hd
 have W:(ops[a]?.getD default).op=o.op:=by rw[C];rfl
 rw[W]at hw;refine Ob.big (K:=fun v' u' Z=>u'=u/\Z=m.upd b (.cells (cs.take off++e.cells.toList++cs.drop (off+sz)).toArray t (0,0))) C hg Q hv V (by
  obtain⟨t',X,Y,N,_⟩:=Fq g;rw[N];rfl) (fun v u' Z hK=>.inr (.inr (.inl hw))) (fun w I=>?_) (fun v u' Z a2 hK=>?_)
 ·obtain⟨t',X,Y,F,N,e3,ht⟩:=Fq g;obtain⟨L,a6,J,pos,after,n⟩:=o;simp only at F;subst F;rw[A1o]at O;have U:=I.pm b _ hb;have E:=run_storeCells_at P b off t e.cells.toList 0 cs.toArray w U (by simp[R];omega) (fun x j=>Gl (O x j));simp only[A3s,A3o,R,A3t]at E;have z:∀ x∈(cs.take off++e.cells.toList++cs.drop (off+sz)).toArray.toList,Ax x=true:=by
   intro x j;simp only[A3t,A1h]at j;rcases j with (j|j)|j
   ·exact ho x (A27 j)
   ·exact O x j
   exact ho x (A3x j)
  obtain⟨g1,g2⟩:=I.setM hb z;unfold Eg;have T:(execOp (C2 s) ⟨L,.store t' X Y,J,pos,after,n⟩).run P w=.ok .skip (w.setRow b (cs.take off++e.cells.toList++cs.drop (off+sz)).toArray):=by
   simp only[execOp,N,e3];simp only[A2k]at E⊢;simp[Instr.storeAt,Instr.sureAddr,storeVar,Bf ht,R,E]
  rw[T];exact⟨u,_,g1,g2,rfl,rfl⟩
 obtain⟨rfl,rfl⟩:=hK;rw[H];exact .nil k
end
def Axk {m:PH}{g:Nat}{o:Obj}(h:m g=some o):m.upd g o=m:=by
 funext k
 by_cases e:k=g
 ·subst e;rw[Ab,h]
 rw[Ad _ _ e]
def Ap9 (st:List KI×S)(d0 d1:Nat):Bool:=match st with
 |(.code (.region _ ops true)::_,s)=>Alo ops s [] [0,1,2,3] []&&bef ops ops.size 2 0&&bef ops ops.size 3 0&&bef ops ops.size 3 1&&bef ops ops.size 3 2&&decide ((ops[0]?).bind (·.dst)=some d0/\(ops[1]?).bind (·.dst)=some d1/\(ops[2]?).bind (·.dst)=none/\(ops[3]?).bind (·.dst)=none)&&decide (d0≠d1) &&
  L6 ops 2 ((ops[2]?.getD default).op)&&L6 ops 3 ((ops[3]?.getD default).op)
 |_=>false
def atS (l:List Nat)(st:List KI×S)(f:S->S):List KI×S:=match st with
 |(.code (.region id ops true)::k,s)=>(.reg id ops true l::k,f s)
 |_=>st
section rules
variable {P:Program} [A6 P] {fn:Func} {Post:Ce} {st:List KI×S} {u m:PH}
def G.back2 (d0 E:Nat)(k0 k1:Option Nat)(K H:Nat)(t0 t1:TypeId)(g C:Value)(n0 n1:Nat)(h:Ap9 (adv P st) d0 E=true)
 (H0:∀ x,Aj P (atS [0] (adv P st) (fun s=>s.put (some E) x))=.load (some k0) (.pointer (some ⟨K,0,none⟩))) (W:∀ x,Aj P (atS [1] (adv P st) (fun s=>s.put (some d0) x))=.load (some k1) (.pointer (some ⟨H,0,none⟩)))
 (H2:∀ x,Aj P (atS [2] (adv P st) (fun s=>(s.put (some d0) (.v g)).put (some E) x))=.store (some n0) (.pointer (some ⟨K,0,none⟩)) g) (H3:Aj P (atS [3] (adv P st) (fun s=>(s.put (some d0) (.v g)).put (some E) (.v C)))=.store (some n1) (.pointer (some ⟨H,0,none⟩)) C)
 (a4:Wg k0 g=true) (V:Wg k1 C=true) (N:m K=some (.cells g.cells t0 (0,0))) (J:m H=some (.cells C.cells t1 (0,0))) (a1:g.cells.size=n0) (a2:C.cells.size=n1) (Z:g.cells.toList.all Ax=true) (a0:C.cells.toList.all Ax=true)
 (k:G P fn Post (atS [] (adv P st) (fun s=>(s.put (some d0) (.v g)).put (some E) (.v C))) u m):G P fn Post st u m:=by
 refine G.stp ⟨?_⟩;generalize adv P st=st' at h H0 W H2 H3 k;unfold Ap9 at h;split at h
 ·rename_i id ops kk s;simp only[A1m]at h;obtain⟨⟨⟨⟨⟨⟨⟨⟨h1,X⟩,aa⟩,a6⟩,L⟩,hd⟩,U⟩,w2⟩,w3⟩:=h;obtain⟨Y,T,a7,a8⟩:=of_decide_eq_true hd;have U:=of_decide_eq_true U;simp only[atS]at H0 W H2 H3 k;have I:∀ (b:Nat) (t:TypeId) (e:Value),m b=some (.cells e.cells t (0,0))->ElP m b 0 e:=fun b t e hb i x hi=>⟨_,_,_,hb,by simpa using hi⟩;have Q:∀ e:Value,e.cells.toList.all Ax=true->∀ x∈e.cells.toList,Ax x=true:=fun e h=>by rwa[A1o]at h
  have R:∀ (b:Nat) (t:TypeId) (e:Value) (n:Nat),e.cells.size=n->m b=some (.cells e.cells t (0,0))->m.upd b (.cells (e.cells.toList.take 0++e.cells.toList++e.cells.toList.drop (0+n)).toArray t (0,0))=m:=fun b t e n hn hb=>by
   rw[A2b (by rw[A3o,hn];omega)];simp only[A53,A3q,A1x,A5x];exact Axk hb
  have O:∀ s:S,s=s.put (some E) (s.tm E):=fun s=>S.ext' rfl (funext fun t=>by
   by_cases e:t=E
   ·subst e;rw[Az]
   rw[Ct _ _ _ e]) rfl
  have a5:∀ s:S,s=s.put (some d0) (s.tm d0):=fun s=>S.ext' rfl (funext fun t=>by
   by_cases e:t=d0
   ·subst e;rw[Az]
   rw[Ct _ _ _ e]) rfl
  have pc:∀ (s:S) (x y:SV),(s.put (some E) y).put (some d0) x=(s.put (some d0) x).put (some E) y:=fun s x y=>Afo s y x (fun j hj=>by cases hj;intro e;cases e;exact U rfl);have pp:∀ (s:S) (x y:SV),(s.put (some E) x).put (some E) y=s.put (some E) y:=fun s x y=>S.ext' rfl (funext fun t=>by
   by_cases e:t=E
   ·subst e;rw[Az,Az]
   rw[Ct _ _ _ e,Ct _ _ _ e,Ct _ _ _ e]) rfl
  have ab:∀ (s:S) (x y:SV),(s.put (some d0) x).put (some d0) y=s.put (some d0) y:=fun s x y=>S.ext' rfl (funext fun t=>by
   by_cases e:t=d0
   ·subst e;rw[Az,Az]
   rw[Ct _ _ _ e,Ct _ _ _ e,Ct _ _ _ e]) rfl
  have s2:∀ {Fin:S->PH->PH->Prop} (x:SV),Fin ((s.put (some d0) (.v g)).put (some E) x) u m->Ob P id ops true Fin [2] ((s.put (some d0) (.v g)).put (some E) x) u m:=fun {Fin} x hk =>
   Ob.storeO n0 K 0 t0 g.cells.toList g (H2 x) a7 w2 (by simpa using N) (Q g Z) (by rw[A3o];omega) a1 Z (by rw[R K t0 g n0 a1 N];exact hk)
  have n3:Qh P id ops [] (Hm P fn Post kk) 1 [3] ((s.put (some d0) (.v g)).put (some E) (.v C)) u m:=fun a F _=>by
   simp only[A1g,A11,or_false]at F;subst F;rw[A3a];refine Ob.storeO n1 H 0 t1 C.cells.toList C H3 a8 w3 (by simpa using J) (Q C a0) (by rw[A3o];omega) a2 a0 ?_;rw[R H t1 C n1 a2 J];exact k.out
  have a3:Qh P id ops [] (Hm P fn Post kk) 2 [2,3] ((s.put (some d0) (.v g)).put (some E) (.v C)) u m:=fun a F z=>by
   simp only[A1g,A11,or_false]at F;rcases F with rfl|rfl
   ·rw[A3a];exact s2 _ n3
   have:=z 2 mV fV;rw[L]at this;cases this
  have a9:Qh P id ops [] (Hm P fn Post kk) 2 [1,3] (s.put (some d0) (.v g)) u m:=fun a F z=>by
   simp only[A1g,A11,or_false]at F;rcases F with rfl|rfl
   ·rw[A3a];exact Ob.loadO k1 H 0 C (W _) T V (I H t1 C J) n3
   have:=z 1 mV fV;rw[a6]at this;cases this
  refine Sym.reg_tree A6.mx h1 (.nil ?_);show Qh P id ops [] (Hm P fn Post kk) 4 [0,1,2,3] s u m;intro a F z;simp only[A1g,A11,or_false]at F;rcases F with rfl|rfl|rfl|rfl
  ·rw[show [0,1,2,3].erase 0 = [1,2,3] from rfl,O s];refine Ob.loadO k0 K 0 g (H0 _) Y a4 (I K t0 g N) ?_;rw[<-O s];intro a F z;simp only[A1g,A11,or_false]at F;rcases F with rfl|rfl|rfl
   ·rw[show [1,2,3].erase 1 = [2,3] from rfl];exact Ob.loadO k1 H 0 C (W _) T V (I H t1 C J) a3
   ·rw[show [1,2,3].erase 2 = [1,3] from rfl,O (s.put (some d0) (.v g))];refine s2 _ ?_;rw[<-O (s.put (some d0) (.v g))];exact a9
   have:=z 2 mV fV;rw[L]at this;cases this
  ·rw[show [0,1,2,3].erase 1 = [0,2,3] from rfl,a5 s];refine Ob.loadO k1 H 0 C (W _) T V (I H t1 C J) ?_;rw[<-a5 s];intro a F z;simp only[A1g,A11,or_false]at F;rcases F with rfl|rfl|rfl
   ·rw[show [0,2,3].erase 0 = [2,3] from rfl];refine Ob.loadO k0 K 0 g (H0 _) Y a4 (I K t0 g N) ?_;rw[pc];exact a3
   ·have:=z 0 mV fV;rw[X]at this;cases this
   have:=z 2 mV fV;rw[L]at this;cases this
  ·have:=z 0 mV fV;rw[X]at this;cases this
  have:=z 2 mV fV;rw[L]at this;cases this
 cases h
end rules
end
section
variable {es:List Value}{g i:Nat}{l:List Arr}{t:TypeId}
def Kq (g:Nat)(t:TypeId)(es:List Value):Arr:=⟨.slice (some ⟨g,0,none⟩) es.length es.length,t,1,es⟩
def U6 (es:List Value):Prop:=∀ x∈es,Ax x=true/\x.cells = #[x]
def R1 {m:PH}(j:m g=none)(e:U6 es):(Kq g t es).At m (m.upd g (.cells es.toArray t (0,0))):=by
 refine⟨Ap1 e,.inr ⟨g,es.length,[],j,?_,rfl,A08 _,?_,mV⟩⟩
 ·show _=m.upd g (.cells (A2 es++[]).toArray t (0,0));rw[Lz fun x h=>(e x h).2,A1x]
 show (A2 es++[]).length=es.length*1;rw[Lz fun x h=>(e x h).2,A1x,A50]
def Alg {m0 m:PH}(h:(Kq g t es).At m0 m)(E:U6 es)(L:es≠[]):m0 g=none/\m=m0.upd g (.cells es.toArray t (0,0)):=by
 rcases h.2 with ⟨h,_,_⟩|⟨J,cap,rest,n,e,z,I,j,_⟩
 ·cases h
 obtain⟨⟨rfl,_,_⟩,_,rfl⟩:=z;simp only[Kq]at e j;rw[Lz fun x H=>(E x H).2]at e j;have:rest = []:=by simp_all
 subst this;rw[A1x]at e;exact⟨n,e⟩
def M6 {m:PH}(h:Bag m l)(hi:l[i]?=some (Kq g t es))(n:U6 es)(j:es≠[]):m g=some (.cells es.toArray t (0,0)):=by
 obtain⟨m0,e,_⟩:=h.focus i hi;rw[(Alg e n j).2,Ab]
def Cg {m:PH}{i g j:Nat}{x:Value}(h:Bag m l)(hi:l[i]?=some (Kq g t es))(e:es[j]?=some x):ElP m g (0+j*1) x:=h.el i hi rfl e
def Adr {m:PH}(h:Bag m l)(hi:l[i]?=some (Kq g t es))(z:U6 es)(n:es≠[]):ElP m g 0 (.agg es.toArray):=fun j x e=>by
 refine⟨_,_,_,M6 h hi z n,?_⟩;simpa[Value.cells] using e
section
variable [Cl] [Co] {P:Program} [A6 P] {fn:Func} {Post:Ce} {st:List KI×S} {u m:PH}
def G.storeOne {l:List Arr}(i g:Nat)(t:TypeId)(n:Nat)(es:List Value)(e:Value)(h:Aj P (adv P st)=.store (some n) (.pointer (some ⟨g,0,none⟩)) e)(Q:Bag m l)(hi:l[i]?=some (Kq g t es))(I:U6 es)(V:es≠[])(W:es.length=n)(U:e.cells.size=n)(H:U6 e.cells.toList)
 (k:∀ J,Bag J (l.set i (Kq g t e.cells.toList))->G P fn Post (nx (adv P st) undef) u J):G P fn Post st u m:=by
 obtain⟨m0,O,j⟩:=Q.focus i hi;obtain⟨L,E⟩:=Alg O I V;refine G.storeM n g 0 t es e h (by rw[E,Ab]) (fun x z=>(I x z).1) oV U (A1o.2 fun x z=>(H x z).1) ?_;have N:m.upd g (.cells (es.take 0++e.cells.toList++es.drop (0+n)).toArray t (0,0))=m0.upd g (.cells e.cells.toList.toArray t (0,0)):=by
  rw[E,Dp,A2b oV];simp
 rw[N];exact k _ (j _ _ (R1 L H))
end
def Ap5:Value:=.agg #[.slice none 0 0,.slice none 0 0,.slice none 0 0]
def Axe (F:List Al)(C:CF)(k:Nat)(q:Rat)(r:Value)(u m:PH):Prop :=
 (∃ e:Int,r=.tuple #[Ap5,.int .i64 e]/\(e=12/\k=0\/e=3/\k≠0/\∃ P,Nn F C P/\11<P.length)) \/
 (k≠0/\∃ (P:List Par) (pa:Option Addr) (pc:Nat) (xa:Option Addr) (xc:Nat) (ra:Option Addr) (rc:Nat) (rows:List (Value×List Value)),Nn F C P/\P.length<=11 /\
  r=.tuple #[.agg #[.slice pa P.length pc,.slice xa (P.length+1) xc,.slice ra (P.length+1) rc],.int .i64 0]/\Ac u (.slice pa P.length pc) 2 (P.map Ap)/\rows.map (·.2)=(D0 q (Lh C P) (P.length+1)).map txV /\
  Bag m (Bu (.slice ra (P.length+1) rc,txV ((An P).map (Bh C)))::oT (.slice xa (P.length+1) xc) rows::rows.map Bu))
def Ia {a b c:Option Addr}{n1 c1 n2 c2 n3 c3:Nat}:U6 [.slice a n1 c1,.slice b n2 c2,.slice c n3 c3]:=fun x e=>by
 simp only[A1g,A11,or_false]at e;rcases e with rfl|rfl|rfl<;>exact⟨rfl,rfl⟩
def Gf {z:Int}:U6 [.int .i64 z]:=fun x e=>by
 simp only[A1g,A11,or_false]at e;subst e;exact⟨rfl,rfl⟩
def Aj8 {m:PH}{h j:Nat}{e:Int}(n:j≠h)(z:e≠0)(E:m j=some (.cells #[.int .i64 e] 39 (0,0))):ElP (K9 m h e) h 0 Ap5/\ElP (K9 m h e) j 0 (.int .i64 e):=by
 unfold K9;rw[if_neg z];refine⟨fun i x hi=>⟨_,_,_,Ab _ _ _,by simpa[Ap5,Value.cells] using hi⟩,fun i x hi=>⟨#[.int .i64 e],_,_,by rw[Ad _ _ n,E],by simpa[Value.cells] using hi⟩⟩
section
variable {u:PH} {v cv:Value} {T:List (List UInt8×Nat)} {R:List Br} {F:List Al} {lab:Int} {C:CF} {K k:Nat} {q:Rat}
def Aam.cellDe (h:Aam u v cv T R F lab C K k)(e f:Option Par):De 75 18 (As C e f):=by
 cases e<;>cases f
 ·show De 75 18 C.c;rw[h.mom.c];exact (De.nat (a:=2) (by have:=h.mom.lt;omega)).mono oV oV
 ·exact h.mom.s _
 ·exact h.mom.s _
 exact h.mom.t _
theorem Ahm (ht:Hx u)(h:Aam u v cv T R F lab C K k)(hq:Ay8 q) :
 Ag prog 52 [v,cv,.string (mkS (Ae q))] u PH.mt fun r u' W=>Axe F C k q r u' W:=by
 have aw:=An9 h hq;have ax:=h.cellDe;obtain⟨xa,xc,xb,xd,xe,xf,rfl,_⟩:=id h.sch;obtain⟨a1,n1,c1,a2,n2,c2,rfl⟩:=id h.cof.opn;have ao:=h.p24;refine Ag.o func52<|G.go 7<|G.pub 2 57 [.slice none 0 0,.slice none 0 0,.slice none 0 0] kV kV ?_;intro E b6 ay;refine G.pub 3 39 [.int .i64 0] kV kV ?_;intro L b3 a0;have af:Bag ((PH.mt.upd E (.cells #[.slice none 0 0,.slice none 0 0,.slice none 0 0] 57 (0,0))).upd L (.cells #[.int .i64 0] 39 (0,0))) [Kq L 39 [.int .i64 0],Kq E 57 [.slice none 0 0,.slice none 0 0,.slice none 0 0]] :=
  ⟨_,R1 a0 Gf,PH.mt,R1 ay Ia,trivial⟩
 have aj:L≠E:=fun e=>by rw[e,Ab]at a0;cases a0
 refine G.go 1<|G.off (d:=9) (fn:=.func 115) (vs:=[.pointer (some ⟨L,0,none⟩),.pointer (some ⟨E,0,none⟩)]) kV kV kV ?_;obtain⟨B,hB⟩:∃ B:Co,B=⟨[Zs (.func 115) [.pointer (some ⟨L,0,none⟩),.pointer (some ⟨E,0,none⟩)]]⟩:=⟨_,rfl⟩;rw[<-hB];have aa:B.dl = [Zs (.func 115) [.pointer (some ⟨L,0,none⟩),.pointer (some ⟨E,0,none⟩)]]:=by subst hB;rfl
 clear hB;have a3:∀ w,(invoke (Zs (.func 115) [.pointer (some ⟨L,0,none⟩),.pointer (some ⟨E,0,none⟩)]).target (Zs (.func 115) [.pointer (some ⟨L,0,none⟩),.pointer (some ⟨E,0,none⟩)]).args).run prog w=.ok (.enter 115 [Value.pointer (some ⟨L,0,none⟩),.pointer (some ⟨E,0,none⟩)].toArray) w:=fun w=>by
  simp[invoke,Zs]
 refine G.callO _ _ kV call116 aw ?_;rintro v1 u1 mc l1 ⟨P,pa,pc,U,N,ra,rc,z,a6,rfl,hL,n,H⟩ a5;have b2:=ao P a6;have a8:=Bag.perm (A5r) (Bag.or af H a5);rw[A4x,A4x,A3q]at a8;clear af H a5;refine G.storeOne 1 E 57 3 [.slice none 0 0,.slice none 0 0,.slice none 0 0] (.agg #[.slice pa P.length pc,.slice U (P.length+1) N,.slice ra (P.length+1) rc]) kV a8 rfl Ia mV rfl rfl Ia ?_;intro m3 ag;refine G.storeOne 0 L 39 1 [.int .i64 0] (.int .i64 (if k=0 then 12 else 0)) kV ag rfl Gf mV rfl rfl Gf ?_;intro m4 I;clear a8 ag;simp only[A2j,A2p,Value.cells]at I;refine G.loadM none L 0 (.int .i64 (if k=0 then 12 else 0)) kV rfl (Cg (j:=0) I (i:=0) rfl rfl) ?_;by_cases h0:k=0
 ·rw[if_pos h0]at I⊢;refine G.nT 12 0 ?_;have V:=M6 I (i:=1) rfl Ia mV;have Q:=M6 I (i:=0) rfl Gf mV;refine G.back2 19 20 (some 3) none E L 57 39 (.agg #[.slice pa P.length pc,.slice U (P.length+1) N,.slice ra (P.length+1) rc]) (.int .i64 12) 3 1 kV (fun _=>kV) (fun _=>kV) (fun _=>kV) kV rfl rfl V Q rfl rfl rfl rfl<|G.retD aa (K:=fun u' W=>u'=u1/\W=K9 m4 E 12) rfl a3 kV (Aja Q V rfl rfl rfl) ?_;rintro u' W _ ⟨rfl,rfl⟩;obtain⟨q1,q2⟩:=Aj8 (e:=12) aj fV Q;exact⟨[Ap5,.int .i64 12],PH.mt,⟨.inr ⟨6,57,E,0,some 3,rfl,kV,kV,rfl,q1⟩,.inr ⟨7,39,L,0,none,rfl,kV,kV,rfl,q2⟩,trivial⟩,PH.mt_le _,.inl ⟨12,rfl,.inl ⟨rfl,h0⟩⟩⟩
 rw[if_neg h0]at I⊢;refine G.nF 0 0<|G.f 57 E 0 1 1<|G.loadM none E (0+1) (.slice U (P.length+1) N) kV rfl (Cg (j:=1) I (i:=1) rfl rfl) ?_;by_cases b4:P.length+1>12
 ·refine G.gT (P.length+1:Nat) 12<|G.loadM (some 3) E 0 (.agg #[.slice pa P.length pc,.slice U (P.length+1) N,.slice ra (P.length+1) rc]) kV rfl (Adr I (i:=1) rfl Ia mV)<|G.storeOne 1 E 57 3 _ (.agg #[.slice pa P.length pc,.slice U (P.length+1) N,.slice ra (P.length+1) rc]) kV I rfl Ia mV rfl rfl Ia ?_;intro m5 av;refine G.storeOne 0 L 39 1 [.int .i64 0] (.int .i64 3) kV av rfl Gf mV rfl rfl Gf ?_;intro m6 Z;simp only[A2j,A2p,Value.cells]at Z;have V:=M6 Z (i:=1) rfl Ia mV;have Q:=M6 Z (i:=0) rfl Gf mV;refine G.retD aa (K:=fun u' W=>u'=u1/\W=K9 m6 E 3) rfl a3 kV (Aja Q V rfl rfl rfl) ?_;rintro u' W _ ⟨rfl,rfl⟩;obtain⟨q1,q2⟩:=Aj8 (e:=3) aj fV Q;exact⟨[Ap5,.int .i64 3],PH.mt,⟨.inr ⟨6,57,E,0,some 3,rfl,kV,kV,rfl,q1⟩,.inr ⟨7,39,L,0,none,rfl,kV,kV,rfl,q2⟩,trivial⟩,PH.mt_le _,.inl ⟨3,rfl,.inr ⟨rfl,h0,P,a6,oV⟩⟩⟩
 refine G.gF (P.length+1:Nat) 12<|G.f 57 E 0 0 0<|G.loadM none E (0+0) (.slice pa P.length pc) kV rfl (Cg (j:=0) I (i:=1) rfl rfl) ?_;have hX:=Sj C P;generalize ae:Lh C P=X at n hX;have au:∀ i j,i<P.length+1->j<P.length+1->De 75 18 (en X i j):=fun i j hi hj=>by rw[<-ae,Abs C P hi hj];exact ax _ _
 refine G.l (ι:=Nat×List (Value×List Value)) (fun i=>[(2,tV (Ae q)),(6,.v (.pointer (some ⟨E,0,none⟩))),(7,.v (.pointer (some ⟨L,0,none⟩))),(28,iV P.length),(29,iV i.1)]) (fun _=>[])
  (fun i u' W=>i.1<=P.length/\i.2.map (·.2)=(D0 q X (i.1+1)).map txV/\Bag W (Kq L 39 [.int .i64 0]::Kq E 57 [.slice pa P.length pc,.slice U (P.length+1) N,.slice ra (P.length+1) rc]::Bu (.slice ra (P.length+1) rc,txV ((An P).map (Bh C)))::oT (.slice U (P.length+1) N) i.2::i.2.map Bu)) (fun i=>P.length-i.1)
  (0,z) ⟨A1t _,n,I⟩ ?_
 clear I n;rintro J ⟨i,z⟩ hJ u5 m5 l5 ⟨hi,n,H⟩;simp only at hi n H hJ;obtain⟨mE,hE,mN,hN,hR⟩:=id H;have ab:PH.le mN m5:=(Ad3 hN).trans (Ad3 hE);have a7:=Nx (q:=q) hX (i+1) oV;by_cases b7:i<P.length
 ·refine G.lT i P.length ?_;have b0:z.length=P.length+1:=by have:=congrArg List.length n;rw[A03,A03,a7.1]at this;exact this
  obtain⟨go,co,eo⟩:=hR.ptr 1 rfl (fun e=>by
   have:(z.map (·.1)).length=0:=by rw[show z.map (·.1) = [] from e];rfl
   rw[A03]at this;omega)
  have an:(Value.slice U (P.length+1) N)=.slice (some ⟨go,0,none⟩) (P.length+1) co:=by
   have e1:(oT (.slice U (P.length+1) N) z).v=Value.slice U (P.length+1) N:=rfl;rw[e1]at eo;rw[eo];have:(oT (.slice U (P.length+1) N) z).es.length=P.length+1:=by show (z.map (·.1)).length=_;rw[A03,b0]
   rw[this]
  cases an;obtain⟨Y,ci,al,e1,e2⟩:=Ayw hR n a7 (show i+1<P.length+1 by omega);have ai:gR (gM (D0 q X (i+1)) (i+1)) (i+1)=en X (i+1) (i+1):=by
   have:=Vv (q:=q) hX (i+1) oV (i+1) (i+1) oV oV;rw[if_neg oV]at this;show en (D0 q X (i+1)) (i+1) (i+1)=_;rw[this];grind
  have hd:=au (i+1) (i+1) oV oV;have ac:=e2 (i+1) oV;rw[ai]at ac;have a4:ElP m5 E (0+1) (.slice (some ⟨go,0,none⟩) (P.length+1) N):=Cg (j:=1) H (i:=1) rfl rfl;refine G.f 57 E 0 1 1<|G.loadM none E (0+1) (.slice (some ⟨go,0,none⟩) (P.length+1) N) kV rfl a4<|G.i i<|G.a go 0 (P.length+1) N (i+1) 1 oV<|G.loadM none go (0+(i+1)*1) (.slice (some ⟨Y,0,none⟩) (P.length+1) ci) kV rfl (e1.mono ab)<|G.i i<|G.f 57 E 0 1 1<|G.loadM none E (0+1) (.slice (some ⟨go,0,none⟩) (P.length+1) N) kV rfl a4<|G.i i<|G.a go 0 (P.length+1) N (i+1) 1 oV<|G.loadM none go (0+(i+1)*1) (.slice (some ⟨Y,0,none⟩) (P.length+1) ci) kV rfl (e1.mono ab)<|G.i i<|G.a Y 0 (P.length+1) ci (i+1) 1 oV<|G.loadM none Y (0+(i+1)*1) (.string (mkS (Ae (en X (i+1) (i+1))))) kV rfl (ac.mono ab) ?_;have ha:=hd.add hq.de (f:=78) oV oV;refine G.c call117 (Atv ((ht.mono l1).mono l5) (hd.tx oV oV oV oV) hq.tx (ha.tx oV oV oV oV)) ?_;rintro v6 u6 l6 rfl;refine G.a Y 0 (P.length+1) ci (i+1) 1 oV ?_;obtain⟨m0,am,ak⟩:=H.focus (i+5) (x:=Bu (.slice (some ⟨Y,0,none⟩) (P.length+1) ci,txV (gM (D0 q X (i+1)) (i+1)))) (by simp[al]);rw[D6]at am;have b5:(txV (gM (D0 q X (i+1)) (i+1))).length=P.length+1:=by rw[Cw,a7.2 (i+1) oV]
  refine G.storeA 1 m0 (txV (gM (D0 q X (i+1)) (i+1))) Y (P.length+1) ci (i+1) (.string (mkS (Ae (en X (i+1) (i+1)+q)))) kV am oV rfl rfl ?_;intro m7 ad;have es:(txV (gM (D0 q X (i+1)) (i+1))).set (i+1) (.string (mkS (Ae (en X (i+1) (i+1)+q))))=txV ((gM (D0 q X (i+1)) (i+1)).set (i+1) (gR (gM (D0 q X (i+1)) (i+1)) (i+1)+q)):=by
   rw[ai];unfold txV;rw[A2g]
  rw[es]at ad;have O:=ak (Bu (.slice (some ⟨Y,0,none⟩) (P.length+1) ci,txV ((gM (D0 q X (i+1)) (i+1)).set (i+1) (gR (gM (D0 q X (i+1)) (i+1)) (i+1)+q)))) m7 ad;have ah:Bag m7 (Kq L 39 [.int .i64 0]::Kq E 57 [.slice pa P.length pc,.slice (some ⟨go,0,none⟩) (P.length+1) N,.slice ra (P.length+1) rc]::Bu (.slice ra (P.length+1) rc,txV ((An P).map (Bh C))) ::
   oT (.slice (some ⟨go,0,none⟩) (P.length+1) N) (z.set (i+1) (.slice (some ⟨Y,0,none⟩) (P.length+1) ci,txV ((gM (D0 q X (i+1)) (i+1)).set (i+1) (gR (gM (D0 q X (i+1)) (i+1)) (i+1)+q))))::(z.set (i+1) (.slice (some ⟨Y,0,none⟩) (P.length+1) ci,txV ((gM (D0 q X (i+1)) (i+1)).set (i+1) (gR (gM (D0 q X (i+1)) (i+1)) (i+1)+q)))).map Bu):=by
   rw[Aho al,A2g];simpa using O
  refine G.storeOne 0 L 39 1 [.int .i64 0] (.int .i64 0) kV ah rfl Gf mV rfl rfl Gf ?_;intro m8 a9;simp only[A2p,Value.cells]at a9;refine G.loadM none L 0 (.int .i64 0) kV rfl (Cg (j:=0) a9 (i:=0) rfl rfl)<|G.nF 0 0<|G.i i<|G.b (hJ (i+1,z.set (i+1) (.slice (some ⟨Y,0,none⟩) (P.length+1) ci,txV ((gM (D0 q X (i+1)) (i+1)).set (i+1) (gR (gM (D0 q X (i+1)) (i+1)) (i+1)+q)))) _ _ _ cV (l5.trans l6) ⟨dV,?_,a9⟩ dV);rw[A2g,n,<-A2g];rfl
 obtain rfl:i=P.length:=oV
 refine G.lF P.length P.length<|G.loadM (some 3) E 0 (.agg #[.slice pa P.length pc,.slice U (P.length+1) N,.slice ra (P.length+1) rc]) kV rfl (Adr H (i:=1) rfl Ia mV)<|G.storeOne 1 E 57 3 _ (.agg #[.slice pa P.length pc,.slice U (P.length+1) N,.slice ra (P.length+1) rc]) kV H rfl Ia mV rfl rfl Ia ?_;intro m6 Z;refine G.storeOne 0 L 39 1 [.int .i64 0] (.int .i64 0) kV Z rfl Gf mV rfl rfl Gf ?_;intro m7 O;simp only[Value.cells]at O;have V:=M6 O (i:=1) rfl Ia mV;have Q:=M6 O (i:=0) rfl Gf mV;refine G.retD aa (K:=fun u' W=>u'=u5/\W=K9 m7 E 0) rfl a3 kV (Aja Q V rfl rfl rfl) ?_;intro u' W _ hK;have az:W=m7:=hK.2.trans (if_pos rfl);rw[hK.1,az];obtain⟨b8,ap,b1,aq,ar⟩:=id O;have q1:=Adr O (i:=1) rfl Ia mV;have q2:=Cg (j:=0) O (i:=0) rfl rfl;exact⟨[.agg #[.slice pa P.length pc,.slice U (P.length+1) N,.slice ra (P.length+1) rc],.int .i64 0],b1,⟨.inr ⟨6,57,E,0,some 3,rfl,kV,kV,rfl,q1⟩,.inr ⟨7,39,L,0,none,rfl,kV,kV,rfl,q2⟩,trivial⟩,(Ad3 aq).trans (Ad3 ap),
  .inr ⟨h0,P,pa,pc,U,N,ra,rc,z,a6,oV,rfl,hL.mono l5,by rw[ae];exact n,ar⟩⟩
end
end
section
section
variable {P:List Par} {C:CF} {q:Rat}
theorem Aum (H:P.Nodup)(J:0<C.c)(L:0<q)(t:∀ z,0<=Dh z P C)(y:Nat->Rat)(h:∀ i,i<(Eh C P q).length->Bb (Eh C P q).length (fun j=>en (Eh C P q) i j*y j)=0):∀ j,j<(Eh C P q).length->y j=0:=by
 have E:=Rx (P:=P) (C:=C) (q:=q);have u:∀ j,j<P.length+1->cfE (y 0) (P.zip ((List.range P.length).map fun j=>y (j+1))) ((An P).getD j none)=y j:=fun j m=>by
  rw[Ar2 H mV j m];cases j with
  |zero=>rfl
  |succ j=>exact Aep (by rw[A7r,A1a,A31 oV];rfl)
 generalize cfE (y 0) (P.zip ((List.range P.length).map fun j=>y (j+1)))=bE at u;have N:∀ e∈An P,bE e=0:=Ast L J t fun e K=>by
  obtain⟨i,hi,rfl⟩:=A3d.1 K;have F:(An P)[i]=(An P).getD i none:=by rw[A02,A01 hi];rfl
  rw[F];rw[Cp]at hi;have I:=h i (by rw[E.1];exact hi);rw[E.1,Ah (g:=fun j=>As C ((An P).getD i none) ((An P).getD j none)*bE ((An P).getD j none)+(if i=j/\0<i then q else 0)*y j) (fun j m=>by
   rw[N8 hi m,u j m];grind),F7,Agy]at I
  have n:P7 q bE ((An P).getD i none)=if i<P.length+1/\0<i then q*y i else 0:=by
   cases i with
   |zero=>rw[if_neg oV];rfl
   |succ j =>
    rw[if_pos ⟨hi,oV⟩,<-u _ hi];unfold An;rw[A6b,A02,A1a,A01 oV];rfl
  rw[Qa _ (An P) none,Cp,n];exact I
 intro j m;rw[E.1]at m;rw[<-u j m];exact N _ (Alq m)
def At1 (h:∀ r∈Eh C P q,∀ x∈r,Th x)(m:P.length<=11):Sq (Eh C P q):=by
 have e:=Rx (P:=P) (C:=C) (q:=q);refine⟨by rw[e.1];omega,fun r g=>?_,fun r g x j=>(h r g x j).tx⟩;obtain⟨i,hi,rfl⟩:=A3d.1 g;have:=e.2 i (by have:=e.1;omega);rw[Ch hi]at this;rw[this,e.1]
end
end

section
variable {j:Nat}
def C6 (a:Nat->Nat->Rat):Nat->Nat->Nat->Rat
 |0,i,k=>a i k
 |j+1,i,k=>C6 a j i k-C6 a j i j/C6 a j j j*(C6 a j k j/C6 a j j j)*C6 a j j j
section
variable {n:Nat} {a:Nat->Nat->Rat}
theorem O9 (e:∀ i k,i<n->k<n->a i k=a k i):∀ j i k,i<n->k<n->C6 a j i k=C6 a j k i
 |0,i,k,hi,hk=>e i k hi hk
 |j+1,i,k,hi,hk=>by
  have:=O9 e j i k hi hk;unfold C6;rw[this];grind
def frm (n:Nat)(S:Nat->Nat->Rat)(x:Nat->Rat):Rat:=Bb n fun i=>x i*Bb n fun k=>S i k*x k
theorem Xh (e:j<n)(c:Rat)(g:Nat->Rat):Bb n (fun k=>(if k=j then c else 0)*g k)=c*g j:=by
 induction n with
 |zero=>omega
 |succ n ih =>
  rw[Ds];by_cases h:j<n
  ·rw[ih h,if_neg oV];grind
  obtain rfl:j=n:=oV;rw[if_pos rfl,Ah (g:=fun _=>(0:Rat)*0) fun k m=>by rw[if_neg oV];grind,B4];grind
theorem Ab2 {S:Nat->Nat->Rat}(e:j<n)(t:∀ i k,i<n->k<n->S i k=S k i)(x:Nat->Rat)(c:Rat) :
 frm n S (fun i=>x i+if i=j then c else 0)=frm n S x+2*c*Bb n (fun k=>S j k*x k)+c*c*S j j:=by
 have h:∀ i,i<n->Bb n (fun k=>S i k*(x k+if k=j then c else 0))=Bb n (fun k=>S i k*x k)+c*S i j:=fun i _=>by
  rw[Ah (g:=fun k=>S i k*x k+(if k=j then c else 0)*S i k) fun k _=>by grind,F7,Xh e]
 have m:Bb n (fun i=>x i*S i j)=Bb n fun k=>S j k*x k:=Ah fun i hi=>by rw[t i j hi e];grind
 unfold frm;rw[Ah (g:=fun i=>x i*Bb n (fun k=>S i k*x k)+(c*(x i*S i j)+(if i=j then c else 0)*(Bb n (fun k=>S i k*x k)+c*S i j))) fun i hi=>by rw[h i hi];grind,
  F7,F7,B4,Xh e,m]
 grind
theorem Ash (t:j<n)(E:∀ i k,i<n->k<n->a i k=a k i)(hp:C6 a j j j≠0)(x:Nat->Rat) :
 frm n (C6 a (j+1)) x=frm n (C6 a j) x-Bb n (fun k=>C6 a j j k*x k)*Bb n (fun k=>C6 a j j k*x k)/C6 a j j j:=by
 obtain⟨p,e⟩:∃ p,C6 a j j j=p:=⟨_,rfl⟩;obtain⟨R,m⟩:∃ R,Bb n (fun k=>C6 a j j k*x k)=R:=⟨_,rfl⟩;have h:=O9 E j;have u:∀ i,i<n->Bb n (fun k=>C6 a (j+1) i k*x k)=Bb n (fun k=>C6 a j i k*x k)-C6 a j i j/p*R:=fun i hi=>by
  rw[Ah (g:=fun k=>C6 a j i k*x k-C6 a j i j/p*(C6 a j j k*x k)) fun k C=>by
   show (C6 a j i k-C6 a j i j/C6 a j j j*(C6 a j k j/C6 a j j j)*C6 a j j j)*x k=_;rw[h k j C t,e]at *
   grind,Y8,B4,m]
 have z:Bb n (fun i=>x i*C6 a j i j)=R:=by rw[<-m];exact Ah fun i hi=>by rw[h i j hi t];grind
 rw[m,e];unfold frm;rw[Ah (g:=fun i=>x i*Bb n (fun k=>C6 a j i k*x k)-R/p*(x i*C6 a j i j)) fun i hi=>by rw[u i hi];grind,Y8,B4,z];grind
theorem Aru (u:∀ i k,i<n->k<n->a i k=a k i)(hp:∀ x,(∃ i,i<n/\x i≠0)->0<frm n a x):∀ j,j<=n->∀ x:Nat->Rat,(∀ i,i<j->x i=0)->(∃ i,i<n/\x i≠0)->0<frm n (C6 a j) x
 |0,_,x,_,hx=>hp x hx
 |j+1,hj,x,h0,⟨i,hi,hxi⟩=>by
  have m:j<n:=oV
  have C:=Aru u hp j oV;have h:0<C6 a j j j:=by
   have z:=C (fun i=>0+if i=j then 1 else 0) (fun i t=>by rw[if_neg oV];grind) ⟨j,m,by rw[if_pos rfl];decide +kernel⟩;rw[Ab2 m (O9 u j) (fun _=>0) 1]at z;have E:frm n (C6 a j) (fun _=>0)=0:=by
    unfold frm;rw[Ah (g:=fun _=>(0:Rat)*0) fun i _=>by grind,B4];grind
   have F:Bb n (fun k=>C6 a j j k*(0:Rat))=0:=by
    rw[Ah (g:=fun _=>(0:Rat)*0) fun i _=>by grind,B4];grind
   rw[E,F]at z;grind
  rw[Ash m u (fun e=>by rw[e]at h;exact absurd h jV) x];have t:i≠j:=fun e=>hxi (h0 i oV);have H:=C (fun i=>x i+if i=j then -(Bb n (fun k=>C6 a j j k*x k)/C6 a j j j) else 0) (fun i t=>by rw[if_neg oV,h0 i oV];grind) ⟨i,hi,by rw[if_neg t];grind⟩;rw[Ab2 m (O9 u j)]at H;generalize Bb n (fun k=>C6 a j j k*x k)=R at *
  generalize C6 a j j j=p at *
  have I:p≠0:=fun e=>by rw[e]at h;exact absurd h jV
  have e:2 * -(R/p)*R + -(R/p) * -(R/p)*p = -(R*R/p):=by grind
  grind
theorem Akt (m:∀ i k,i<n->k<n->a i k=a k i)(hp:∀ x,(∃ i,i<n/\x i≠0)->0<frm n a x)(h:j<n):0<C6 a j j j:=by
 have e:=Aru m hp j oV (fun i=>0+if i=j then 1 else 0) (fun i z=>by rw[if_neg oV];grind) ⟨j,h,by rw[if_pos rfl];decide +kernel⟩;rw[Ab2 h (O9 m j) (fun _=>0) 1]at e;have t:frm n (C6 a j) (fun _=>0)=0:=by
  unfold frm;rw[Ah (g:=fun _=>(0:Rat)*0) fun i _=>by grind,B4];grind
 have u:Bb n (fun k=>C6 a j j k*(0:Rat))=0:=by
  rw[Ah (g:=fun _=>(0:Rat)*0) fun i _=>by grind,B4];grind
 rw[t,u]at e;grind
end
end
section
variable {i:Nat}
def idN (i k:Nat):Rat:=if i=k then 1 else 0
def Uj (n:Nat)(X A:Nat->Nat->Rat)(i k:Nat):Rat:=Bb n fun j=>X i j*A j k
def Fy (n:Nat)(X:Nat->Nat->Rat)(x:Nat->Rat)(i:Nat):Rat:=Bb n fun j=>X i j*x j
def Vq (n:Nat)(x y:Nat->Rat):Rat:=Bb n fun j=>x j*y j
def Ac1 (n:Nat)(A:Nat->Nat->Rat):Prop:=∀ i k,i<n->k<n->A i k=A k i
def Fe (n:Nat)(X A:Nat->Nat->Rat):Prop:=∀ i k,i<n->k<n->Uj n X A i k=idN i k
def Xu (n:Nat)(A:Nat->Nat->Rat):Prop:=∀ y:Nat->Rat,(∀ i,i<n->Fy n A y i=0)->∀ i,i<n->y i=0
def Pe (n m:Nat)(f:Nat->Nat->Rat):Bb n (fun i=>Bb m fun j=>f i j)=Bb m fun j=>Bb n fun i=>f i j:=Z2 f _ _
def Jp (n:Nat)(f:Nat->Rat)(k:Rat):Bb n (fun i=>f i*k)=Bb n f*k:=Ls k _
section
variable {n:Nat} {X Y A B:Nat->Nat->Rat} {x y:Nat->Rat} {w:Rat}
def Ag9 (hi:i<n)(f:Nat->Rat):Bb n (fun j=>idN j i*f j)=f i:=by
 have:=Xh hi (1:Rat) f;rw[Rat.one_mul]at this;exact this
def Akw (hi:i<n)(f:Nat->Rat):Bb n (fun j=>f j*idN i j)=f i:=by
 rw[<-Ag9 hi f];exact Ah fun j _=>by
  unfold idN;by_cases e:i=j
  ·rw[if_pos e,if_pos e.symm];exact Rat.mul_comm ..
  rw[if_neg e,if_neg (Ne.symm e)];exact Rat.mul_comm ..
def O1 (i k:Nat):idN i k=idN k i:=by
 unfold idN;by_cases e:i=k
 ·rw[if_pos e,if_pos e.symm]
 rw[if_neg e,if_neg (Ne.symm e)]
theorem Aid (i k:Nat)(Z:Nat->Nat->Rat):Bb n (fun j=>X i j*Uj n A Z j k)=Bb n fun m=>Uj n X A i m*Z m k:=by
 have e:Bb n (fun j=>X i j*Uj n A Z j k)=Bb n fun j=>Bb n fun m=>X i j*(A j m*Z m k):=Ah fun j _=>by unfold Uj;rw[B4]
 rw[e,Pe];refine Ah fun m _=>?_;unfold Uj;rw[<-Jp];exact Ah fun j _=>by grind
def Adp (t:Fe n X A)(u:Fe n A Y):∀ i k,i<n->k<n->X i k=Y i k:=fun i k hi h=>by
 have e:=Aid (n:=n) (X:=X) (A:=A) i k Y;rw[Ah (g:=fun j=>X i j*idN k j) fun j z=>by rw[u j k z h,O1],Akw h,Ah (f:=fun m=>Uj n X A i m*Y m k) (g:=fun m=>idN m i*Y m k) fun m C=>by rw[t i m hi C,O1],Ag9 hi]at e;exact e
def Are (e:Ac1 n A)(h:Fe n X A):Fe n A (fun i k=>X k i):=fun i k hi m=>by
 rw[O1,<-h k i m hi];exact Ah fun j g=>by rw[e i j hi g];exact Rat.mul_comm ..
def Av2 (g:Ac1 n A)(h:Fe n A X):Fe n (fun i k=>X k i) A:=fun i k hi e=>by
 rw[O1,<-h k i e hi];exact Ah fun j m=>by rw[g k j e m];exact Rat.mul_comm ..
def Ak9 (e:Ac1 n A)(h:Fe n X A):Ac1 n X:=fun i k hi g=>Adp h (Are e h) i k hi g
def Tg (e:Ac1 n A)(h:Fe n X A):Fe n A X:=fun i k hi g=>by
 rw[<-Are e h i k hi g];exact Ah fun j m=>by rw[Ak9 e h j k m g]
def Apf (m:Ac1 n A)(h:Fe n A X):Fe n X A:=by
 have e:=Av2 m h;have g:=Adp e h;intro i k hi u;rw[<-e i k hi u];exact Ah fun j t=>by rw[<-g i j hi t]
def Aps (g:Ac1 n A)(h:Fe n X A)(e:Fe n Y A):∀ i k,i<n->k<n->X i k=Y i k:=Adp h (Tg g e)
def byN (n:Nat)(X:Nat->Nat->Rat)(x:Nat->Rat)(w:Rat):Rat:=1+w*Vq n x (Fy n X x)
def Vd (n:Nat)(X:Nat->Nat->Rat)(x:Nat->Rat)(w:Rat)(i k:Nat):Rat:=X i k + -(w/byN n X x w)*Fy n X x i*Fy n (fun i k=>X k i) x k
def Vc (A:Nat->Nat->Rat)(x:Nat->Rat)(w:Rat)(i k:Nat):Rat:=A i k+w*(x i*x k)
theorem Aqh (h:Fe n X A)(L:byN n X x w≠0):Fe n (Vd n X x w) (Vc A x w):=fun i k hi C=>by
 obtain⟨r,t⟩:∃ r,Fy n X x=r:=⟨_,rfl⟩;obtain⟨c,z⟩:∃ c,Fy n (fun i k=>X k i) x=c:=⟨_,rfl⟩;obtain⟨f,F⟩:∃ f,w/byN n X x w=f:=⟨_,rfl⟩;have H:Bb n (fun j=>c j*A j k)=x k:=by
  have u:Bb n (fun j=>c j*A j k)=Bb n fun j=>Bb n fun m=>X m j*x m*A j k:=Ah fun j _=>by rw[<-z];unfold Fy;rw[Jp]
  rw[u,Pe,Ah (g:=fun m=>x m*idN k m) fun m K=>by
   rw[Ah (g:=fun j=>x m*(X m j*A j k)) fun j _=>by grind,B4,show Bb n (fun j=>X m j*A j k)=idN m k from h m k K C,O1],Akw C]
 have I:Bb n (fun j=>c j*x j)=Vq n x r:=by
  have u:Bb n (fun j=>c j*x j)=Bb n fun j=>Bb n fun m=>X m j*x m*x j:=Ah fun j _=>by rw[<-z];unfold Fy;rw[Jp]
  rw[u,Pe];unfold Vq;refine Ah fun m _=>?_;rw[<-t];unfold Fy;rw[<-B4];exact Ah fun j _=>by grind
 have J:Bb n (fun j=>X i j*x j)=r i:=by rw[<-t];rfl
 have E:=h i k hi C;have e:f*byN n X x w=w:=by rw[<-F];grind
 unfold byN at e;rw[t]at e;unfold Uj at E⊢;rw[Ah (g:=fun j=>X i j*A j k+(w*x k)*(X i j*x j)+((-f*r i)*(c j*A j k)+(-f*r i*w*x k)*(c j*x j))) fun j _=>by
  unfold Vd Vc;rw[t,z,F];grind,F7,F7,F7,B4,B4,B4,H,I,J,E]
 grind
theorem Ab6 (h:Fe n A X)(hi:i<n):Fy n A (Fy n X x) i=x i:=by
 have e:Fy n A (Fy n X x) i=Bb n fun m=>Uj n A X i m*x m:=by
  unfold Fy;rw[Ah (g:=fun j=>Bb n fun m=>A i j*(X j m*x m)) fun j _=>by rw[B4],Pe];refine Ah fun m _=>?_;unfold Uj;rw[<-Jp];exact Ah fun j _=>by grind
 rw[e,Ah (g:=fun m=>idN m i*x m) fun m t=>by rw[h i m hi t,O1],Ag9 hi]
theorem Az9 (u:Fe n A X)(hi:Xu n (Vc A x w)):byN n X x w≠0:=fun h0=>by
 have m:∀ i,i<n->Fy n (Vc A x w) (Fy n X x) i=0:=fun i h=>by
  have e:Fy n (Vc A x w) (Fy n X x) i=Fy n A (Fy n X x) i+w*x i*Vq n x (Fy n X x):=by
   obtain⟨r,C⟩:∃ r,Fy n X x=r:=⟨_,rfl⟩;rw[C];unfold Fy Vq Vc;rw[Ah (g:=fun j=>A i j*r j+w*x i*(x j*r j)) fun j _=>by grind,F7,B4]
  rw[e,Ab6 u h];unfold byN at h0;grind
 have t:=hi _ m;unfold byN Vq at h0;rw[Ah (g:=fun _=>(0:Rat)*0) fun j z=>by rw[t j z];grind,B4]at h0;exact absurd h0 (by rw[Ban,Bau];decide +kernel)
def Aye (n:Nat)(X:Nat->Nat->Rat)(x:Nat->Rat):Rat:=Vq n x (Fy n X x)
def Avo (e:Fe n A X):Aye n X x=frm n A (Fy n X x):=by
 unfold Aye Vq frm;refine Ah fun i hi=>?_;have:=Ab6 (x:=x) e hi;unfold Fy at this⊢;rw[this];exact Rat.mul_comm ..
theorem Avk (m:Fe n A X)(hp:∀ x,(∃ i,i<n/\x i≠0)->0<frm n A x)(u:∃ i,i<n/\x i≠0):0<Aye n X x:=by
 rw[Avo m];refine hp _ (A3m fun t=>?_);obtain⟨i,hi,h0⟩:=u;refine h0 ?_;rw[<-Ab6 (x:=x) m hi];have z:∀ j,j<n->Fy n X x j=0:=fun j e=>A3m fun h=>t ⟨j,e,h⟩;rw[show Fy n A (Fy n X x) i=Bb n fun j=>A i j*Fy n X x j from rfl,Ah (g:=fun _=>(0:Rat)*0) fun j e=>by rw[z j e];grind,B4,Ban]
end
end
section
variable {M n:Nat}{P:Nat->Nat}{R S:Nat->Nat->Int}{v:Int}
def N5:Nat->Nat
 |0=>1
 |n+1=>(n+1)*N5 n
def Aev {f:Nat->Int}{M:Nat}:∀ {n:Nat},(∀ j,j<n->(f j).natAbs<=M)->(Ca n f).natAbs<=n*M
 |0,_=>by rw[Ca];omega
 |n+1,h=>by
  have e:=Aev fun j (m:j<n)=>h j oV;have g:=h n oV;rw[Ca,A16,A3i];have:=Int.natAbs_add_le (Ca n f) (f n);omega
def Aky:∀ n:Nat,(dsg n).natAbs=1
 |0=>rfl
 |n+1=>by rw[dsg,A3l,Aky n]
def Aj1 {M:Nat}:∀ {r:Nat} {C:Nat->Nat->Int},(∀ t,t<r->∀ i,i<r->(C t i).natAbs<=M)->(dt r C).natAbs<=N5 r*M^r
 |0,_,_=>by rw[dt,N5,A8j];decide
 |r+1,C,h=>by
  rw[dt];have e:(Ca (r+1) fun j=>dsg (r+j)*C j r*dt r (Eu j C)).natAbs<=(r+1)*(M*(N5 r*M^r)):=Aev fun j g=>by
   rw[A26,A26,Aky,A3i];refine A25 (h j g r oV) (Aj1 fun t m i hi=>?_);unfold Eu;split
   ·exact h t oV i oV
   exact h (t+1) oV i oV
  refine A04 e (Nat.le_of_eq ?_);rw[N5,A2d];simp only[A17,A19,Nat.mul_left_comm]
def Art (h:Bar n R P n v S){j:Nat}(g:j<n)(k:Nat):S j k=dt n (Dc (fun j i=>R i (P j)) j fun i=>R i k):=by
 have e:=Z3 (fun j i=>R i (P j)) g (fun j=>S j k);have m:dt n (Dc (fun j i=>R i (P j)) j fun i=>Ca n fun t=>S t k*R i (P t))=dt n (Dc (fun j i=>R i (P j)) j fun i=>v*R i k+0*R i k):=Ih fun t z i hi=>by
  unfold Dc;split
  ·show (Ca n fun t=>S t k*R i (P t))=v*R i k+0*R i k;rw[h.lo i hi k,Int.zero_mul,Int.add_zero]
  rfl
 have u:=Mt v 0 (fun i=>R i k) (fun i=>R i k) (fun j i=>R i (P j)) g;rw[m,u,Int.zero_mul,Int.add_zero,h.d,Int.mul_comm]at e;exact (Int.eq_of_mul_eq_mul_right h.v0 e).symm
def Aua (h:Bar n R P n v S)(e:∀ i,i<n->∀ k,(R i k).natAbs<=M):v.natAbs<=N5 n*M^n/\∀ j,j<n->∀ k,(S j k).natAbs<=N5 n*M^n:=by
 refine⟨by rw[<-h.d];exact Aj1 fun t _ i hi=>e i hi _,fun j g k=>?_⟩;rw[Art h g k];refine Aj1 fun t _ i hi=>?_;unfold Dc;split
 ·exact e i hi _
 exact e i hi _
def Auw {n w M:Nat}{X:List (List Int)}(h:E8 n w X)(t:∀ i,i<n->∀ k,(enZ X i k).natAbs<=M)(C:(Fm n n 0 ⟨X,[],1,false⟩).P.length=n) :
 (Fm n n 0 ⟨X,[],1,false⟩).v.natAbs<=N5 n*M^n/\∀ j,j<n->∀ k,(enZ (Fm n n 0 ⟨X,[],1,false⟩).X j k).natAbs<=N5 n*M^n:=by
 have h0:Ajv n w (enZ X) 0 ⟨X,[],1,false⟩:=⟨h,rfl,enZ X,fun i hi=>⟨i,hi,rfl⟩,fun i hi=>⟨i,hi,rfl⟩,Bar.init n _ _⟩;rcases Aci n 0 _ oV h0 with ⟨_,_,R,_,g,m⟩|⟨_,z⟩
 ·exact Aua m fun i hi k=>by
   obtain⟨j,u,e⟩:=g i hi;rw[e];exact t j u k
 omega
end
section
variable {i k:Nat}
def Iu (n:Nat)(Z:Nat->Nat->Int):List (List Int):=(List.range n).map fun i=>(List.range (n+n)).map fun k=>if k<n then Z i k else if i=k-n then 1 else 0
section
variable {n:Nat} {Z:Nat->Nat->Int} {A X:Nat->Nat->Rat} {D M:Nat}
def Sm (hi:i<n):gMZ (Iu n Z) i=(List.range (n+n)).map fun k=>if k<n then Z i k else if i=k-n then 1 else 0:=by
 unfold gMZ Iu;rw[A02,A1a,A31 hi];rfl
def Vu:E8 n (n+n) (Iu n Z):=⟨by unfold Iu;simp,fun i hi=>by rw[Sm hi];simp⟩
def Afx (hi:i<n)(e:k<n):enZ (Iu n Z) i k=Z i k:=by
 unfold enZ;rw[Sm hi,Abr _ oV,if_pos e]
def Ao5 (hi:i<n)(e:k<n):enZ (Iu n Z) i (n+k)=if i=k then 1 else 0:=by
 unfold enZ;rw[Sm hi,Abr _ oV,if_neg oV,show n+k-n=k by omega]
def Ald (g:∀ i k,i<n->k<n->(Z i k).natAbs<=M)(j:1<=M):∀ i,i<n->∀ k,(enZ (Iu n Z) i k).natAbs<=M:=fun i hi k=>by
 by_cases e:k<n
 ·rw[Afx hi e];exact g i k hi e
 by_cases h:k<n+n
 ·obtain⟨m,rfl⟩:∃ m,k=n+m:=⟨k-n,oV⟩;rw[Ao5 hi oV];split<;>simp<;>omega
 unfold enZ;rw[Sm hi,Ado gV];simp
theorem Aqr (hs:Ac1 n A)(V:Fe n X A)(hi:Xu n A)(T:0<D)(J:∀ i k,i<n->k<n->A i k*(D:Rat)=Z i k)(U:∀ i k,i<n->k<n->(Z i k).natAbs<=M)(R:1<=M) :
 ∃ L:Nat,0<L/\L<=N5 n*M^n/\∀ j k,j<n->k<n->∃ z:Int,X j k*(L:Rat)=z/\z.natAbs<=D*(N5 n*M^n):=by
 have Y:=T4 T;rcases Za (Vu (n:=n) (Z:=Z)) with ⟨hl,_,O,I⟩|⟨⟨y,⟨j0,E,H⟩,hy⟩,_⟩
 ·obtain⟨K,N⟩:=Auw (Vu (n:=n) (Z:=Z)) (Ald U R) hl;generalize Fm n n 0 ⟨Iu n Z,[],1,false⟩=s at O I K N;have a0:(s.v:Rat)≠0:=fun e=>O (A7f.1 (by rw[e];rfl));have W:Fe n A (fun j k=>(enZ s.X j (n+k):Rat)*(D:Rat)/(s.v:Rat)):=fun i k hi F=>by
   have e:=congrArg (fun z:Int=>(z:Rat)) (I i hi (n+k));simp only[Oy,A3c]at e;rw[Ao5 hi F]at e;have Q:(((if i=k then 1 else 0:Int)):Rat)=idN i k:=by unfold idN;split<;>rfl
   rw[Q]at e;unfold Uj;rw[Ah (g:=fun j=>(1/(s.v:Rat))*((enZ s.X j (n+k):Rat)*(enZ (Iu n Z) i j:Rat))) fun j m=>by
    rw[Afx hi m,<-J i j hi m];grind,B4,e]
   grind
  have C:=Adp V W;refine⟨s.v.natAbs,oV,K,fun j k m F=>?_⟩;have P:=N j m (n+k);rw[C j k m F];rcases Int.natAbs_eq s.v with e|e
  ·refine⟨enZ s.X j (n+k)*(D:Int),?_,?_⟩
   ·have u:((s.v.natAbs:Nat):Rat)=(s.v:Rat):=by
     have:=congrArg (fun z:Int=>(z:Rat)) e;simp only[A2r]at this;exact this.symm
    rw[u,A3c,A2r];grind
   rw[A26,A1s,A19];exact A2h _ P
  refine⟨-(enZ s.X j (n+k)*(D:Int)),?_,?_⟩
  ·have u:((s.v.natAbs:Nat):Rat) = -(s.v:Rat):=by
    have:=congrArg (fun z:Int=>(z:Rat)) e;simp only[A8k,A2r]at this;rw[this];grind
   rw[u,A8k,A3c,A2r];grind
  rw[A3l,A26,A1s,A19];exact A2h _ P
 refine absurd (hi (fun j=>(y j:Rat)) (fun i t=>?_) j0 E) fun e=>H (A7f.1 (by rw[e];rfl));have e:=congrArg (fun z:Int=>(z:Rat)) (hy i t);simp only[Oy,A3c]at e;unfold Fy;have u:Bb n (fun j=>A i j*(y j:Rat))*(D:Rat)=0:=by
  rw[<-Jp,Ah (g:=fun j=>(y j:Rat)*(enZ (Iu n Z) i j:Rat)) fun j m=>by rw[Afx t m,<-J i j t m];grind,e];rfl
 rcases A40.1 u with h|h
 ·exact h
 exact absurd h Y
end
end
theorem Au4 {n D:Nat}{A:Nat->Nat->Rat}{Z:Nat->Nat->Int}(hi:Xu n A)(K:0<D)(H:∀ i k,i<n->k<n->A i k*(D:Rat)=Z i k) :
 (Fm n n 0 ⟨Iu n Z,[],1,false⟩).P.length=n/\E8 n (n+n) (Fm n n 0 ⟨Iu n Z,[],1,false⟩).X/\(Fm n n 0 ⟨Iu n Z,[],1,false⟩).v≠0 /\
  Fe n A (fun j k=>(enZ (Fm n n 0 ⟨Iu n Z,[],1,false⟩).X j (n+k):Rat)*(D:Rat)/((Fm n n 0 ⟨Iu n Z,[],1,false⟩).v:Rat)):=by
 have L:(D:Rat)≠0:=T4 K;rcases Za (Vu (n:=n) (Z:=Z)) with ⟨O,Q,C,F⟩|⟨⟨y,⟨j0,u,E⟩,T⟩,_⟩
 ·refine⟨O,Q,C,?_⟩;generalize Fm n n 0 ⟨Iu n Z,[],1,false⟩=s at C F;have R:(s.v:Rat)≠0:=fun e=>C (A7f.1 (by rw[e];rfl));intro i k hi N;have e:=congrArg (fun z:Int=>(z:Rat)) (F i hi (n+k));simp only[Oy,A3c]at e;rw[Ao5 hi N]at e;have J:(((if i=k then 1 else 0:Int)):Rat)=idN i k:=by unfold idN;split<;>rfl
  rw[J]at e;unfold Uj;rw[Ah (g:=fun j=>(1/(s.v:Rat))*((enZ s.X j (n+k):Rat)*(enZ (Iu n Z) i j:Rat))) fun j t=>by
   rw[Afx hi t,<-H i j hi t];grind,B4,e]
  grind
 refine absurd (hi (fun j=>(y j:Rat)) (fun i m=>?_) j0 u) fun e=>E (A7f.1 (by rw[e];rfl));have e:=congrArg (fun z:Int=>(z:Rat)) (T i m);simp only[Oy,A3c]at e;unfold Fy;have I:Bb n (fun j=>A i j*(y j:Rat))*(D:Rat)=0:=by
  rw[<-Jp,Ah (g:=fun j=>(y j:Rat)*(enZ (Iu n Z) i j:Rat)) fun j t=>by rw[Afx m t,<-H i j m t];grind,e];rfl
 rcases A40.1 I with h|h
 ·exact h
 exact absurd h L
def Bag.nilsQ {l:List Arr}{m:PH}(h:Bag m l):∀ n,Bag m ((List.replicate n B3).map Ej++l)
 |0=>h
 |n+1=>⟨m,Af.nil _ _ _,Bag.nilsQ h n⟩
def Bc5 {v:Value}{e:List (Value×List Value)}{i:Nat}{r:Value×List Value}(h:e[i]?=some r):(oQ v e).es[i]?=some r.1:=by
 show (e.map (·.1))[i]?=_;rw[A1a,h];rfl
def Att {T:List (List UInt8×Nat)}{F:List Al}{lab:Int}{ss:List (List UInt8)}(hF:Da T F lab)(m:Bw T ss):∀ x∈Dx F ss F.length,SmW x.2:=fun x n=>by
 obtain⟨j,f,t,h,g⟩:=F9.1 n;unfold Jf at g;split at g
 ·cases g;exact I7
 rename_i h2;split at g
 ·cases g
 rename_i h0;cases g;exact (S3 hF m (A1k h) h2 (fun e=>h0 (.inl e))).1
section
variable {x:Rat}
def Azu {q:Rat}{z:Int}(h:q*((4320:Nat):Rat)=(z:Rat))(j:z.natAbs<=1000000000000):Th q:=by
 obtain⟨e,g⟩:=Wy h oV;exact⟨De.tx (a:=13) (b:=4) ⟨z,4320,h,oV,oV,oV⟩ oV oV oV oV,A74 e fV,oV⟩
theorem Az2 {x t:Rat}{N:Nat}(h:Dn 2 N x)(I:N<=28873454400)(E:∃ p:Int,t*30=p/\p.natAbs<=180):Th (x+t):=by
 obtain⟨z,g,F⟩:=h;obtain⟨p,u,H⟩:=E;refine Azu (z:=z*30+p*144) ?_ oV;have e:((12^2:Nat):Rat)=144:=jV
 have j:((4320:Nat):Rat)=4320:=jV
 have m:((30:Int):Rat)=30:=jV
 have n:((144:Int):Rat)=144:=jV
 rw[e]at g;rw[A7d,A3c,A3c,<-g,<-u,j,m,n];grind
def Abz {N:Nat}(h:Dn 2 N x)(j:N<=28873454400):De 75 18 x:=by
 obtain⟨z,e,g⟩:=h;exact⟨z,144,by rw[<-e],oV,A22 g (A22 j jV),jV⟩
section
variable {P:List Par} {C:CF} {q:Rat} {N k:Nat}
def Azc (h:In N C)(t:N<=28873454400)(z:∃ p:Int,q*30=p/\p.natAbs<=180):∀ r∈Eh C P q,∀ x∈r,Th x:=by
 intro r E x F;have n:=Rx (P:=P) (C:=C) (q:=q);obtain⟨i,hi,rfl⟩:=A3d.1 E;obtain⟨j,u,rfl⟩:=A3d.1 F;have g:i<P.length+1:=by have:=n.1;omega
 have m:j<P.length+1:=by have:=n.2 i g;rw[Ch hi]at this;omega
 have e:=N8 (P:=P) (C:=C) (q:=q) g m;unfold en at e;rw[Ch hi,Cu u]at e;rw[e];refine Az2 (h.c _ _) t ?_;split
 ·exact z
 exact⟨0,jV,fV⟩
def Avn (g:In N C)(j:N<=28873454400)(z:CFV C)(n:C.c=(k:Rat))(u:k<100):Ai6 C k:=by
 refine⟨n,u,fun p=>Abz (g.c none (some p)) j,fun p=>?_⟩;by_cases h:C.t p=0
 ·rw[h];exact Abz (Dn.zero 2 0) oV
 have m:=(z.t p h).2.2;have e:Ay p.1 p.2=p:=by unfold Ay;rw[if_neg m]
 have:=Abz (g.c (some p.1) (some p.2)) j;rw[show As C (some p.1) (some p.2)=C.t (Ay p.1 p.2) from rfl,e]at this;exact this
def Fd.sixty (h:Fd q):∃ p:Int,q*30=p/\p.natAbs<=180:=by
 obtain⟨p,e,g⟩:=h.thirty;exact⟨p,e,oV⟩
def Api {F:List Al}{lab:Int}(L:List Dm):∀ {e:List Dm},Cf F lab (L++e)=(Cf F lab L).add (Cf F lab e):=by
 intro e;induction e using Ig with
 |h0 =>
  rw[A1x];show _=CF.mk ((Cf F lab L).c+0) (fun p=>(Cf F lab L).s p+0) (fun p=>(Cf F lab L).t p+0);simp only[Rat.add_zero]
 |h1 e y ih =>
  rw[<-A2k,Eb,Eb,ih];simp only[CF.add,Rat.add_assoc]
end
end
section
theorem Ax5 (x:Rat):0<=x*x:=by
 rcases A9g (a:=0) (b:=x) with h|h
 ·exact A4o h h
 have:=A4o (a:=-x) (b:=-x) (by grind) (by grind);grind
section
variable {P:List Par} {C:CF} {b d:Option Par->Rat} {q:Rat} {N D:Nat}
theorem Ats {z:Option Par->Rat}(n:0<q)(u:0<C.c)(hp:∀ z,0<=Dh z P C)(h:Dh z P C+q*Vn P z<=0):∀ e∈An P,z e=0:=by
 have I:=hp z;have E:=Arq P z;have J:=A4o (Bat n) E;have F:Vn P z=0:=by
  have:q*Vn P z=0:=by grind
  rcases A40.1 this with e|e
  ·rw[e]at n;exact absurd n jV
  exact e
 have j:∀ p∈P,z (some p)=0:=fun p hp=>by
  have:=Ww (fun q _=>Ax5 (z (some q))) F p hp;rcases A40.1 this with e|e<;>exact e
 have H:z none=0:=by
  have t:Dh z P C=0:=by grind
  have m:B9 (fun f=>z none*As C none f*z f) (An P)=z none*C.c*z none:=by
   rw[S6,Fv fun p hp=>by rw[j p hp,Bau]];show z none*C.c*z none+0=_;grind
  unfold Dh at t;rw[S6,m,Fv fun p hp=>by
   refine Fv fun f _=>?_;rw[j p hp];grind]at t
  have e:z none*C.c*z none=0:=by grind
  rcases A40.1 e with e|e
  ·rcases A40.1 e with e|e
   ·exact e
   rw[e]at u;exact absurd u jV
  exact e
 intro e g;unfold An at g;rcases A1g.1 g with rfl|g
 ·exact H
 obtain⟨p,hp,rfl⟩:=A1b.1 g;exact j p hp
end
end
section
section
variable {P:List Par} {C:CF} {q:Rat} {N:Nat}
def Auy:∀ i k,i<P.length+1->k<P.length+1->en (Eh C P q) i k=en (Eh C P q) k i:=fun i k hi g=>by
 rw[N8 hi g,N8 g hi,Ajc];by_cases e:i=k
 ·subst e;rfl
 rw[if_neg (fun h=>e h.1),if_neg (fun h=>e h.1.symm)]
theorem Axs (L:0<q)(J:0<C.c)(hp:∀ z,0<=Dh z P C)(E:P.Nodup)(x:Nat->Rat)(O:∃ i,i<P.length+1/\x i≠0):0<frm (P.length+1) (en (Eh C P q)) x:=by
 obtain⟨z,t⟩:∃ z:Option Par->Rat,∀ j,j<P.length+1->z ((An P).getD j none)=x j:=⟨cfE (x 0) (P.zip ((List.range P.length).map fun j=>x (j+1))),fun j n=>by
  rw[Ar2 E mV j n];cases j with
  |zero=>rfl
  |succ j=>exact Aep (by rw[A7r,A1a,A31 oV];rfl)⟩
 have m:∀ i,i<P.length+1->Bb (P.length+1) (fun k=>en (Eh C P q) i k*x k)=B9 (fun f=>As C ((An P).getD i none) f*z f) (An P)+P7 q z ((An P).getD i none):=fun i hi=>by
  rw[Ah (g:=fun j=>As C ((An P).getD i none) ((An P).getD j none)*z ((An P).getD j none)+(if i=j/\0<i then q else 0)*x j) (fun j n=>by rw[N8 hi n,t j n];grind),F7,Agy,Qa _ (An P) none,Cp];have h:P7 q z ((An P).getD i none)=if i<P.length+1/\0<i then q*x i else 0:=by
   cases i with
   |zero=>rw[if_neg oV];rfl
   |succ j =>
    rw[if_pos ⟨hi,oV⟩,<-t _ hi];unfold An;rw[A6b,A02,A1a,A01 oV];rfl
  rw[h]
 have K:frm (P.length+1) (en (Eh C P q)) x=Dh z P C+q*Vn P z:=by
  unfold frm;have I:Bb (P.length+1) (fun i=>x i*Bb (P.length+1) fun k=>en (Eh C P q) i k*x k)=B9 (fun e=>z e*B9 (fun f=>As C e f*z f) (An P)+z e*P7 q z e) (An P):=by
   rw[Qa (fun e=>z e*B9 (fun f=>As C e f*z f) (An P)+z e*P7 q z e) (An P) none,Cp];exact Ah fun i hi=>by rw[m i hi,t i hi];grind
  rw[I,L7,S6 (f:=fun e=>z e*P7 q z e),Zz];have H:B9 (fun p=>z (some p)*P7 q z (some p)) P=q*Vn P z:=by unfold Vn;rw[<-Ji];exact Dt fun p _=>by unfold P7;grind
  rw[H];unfold As4 P7;grind
 rw[K];refine Rat.not_le.1 fun u=>?_;have h0:=Ats L J hp u;obtain⟨i,hi,F⟩:=O;exact F (by rw[<-t i hi];exact h0 _ (Alq hi))
end
end
section
variable {A B:Nat->Nat->Rat}{n:Nat}
section
variable {P:List Par} {C H:CF} {q w:Rat} {X:Nat->Nat->Rat}
def Fg (P:List Par)(s:Par->Rat)(i:Nat):Rat:=Zg s ((An P).getD i none)
theorem Agi (o:Qi H):∀ i k,i<P.length+1->k<P.length+1->en (Eh (C.add (H.scale w)) P q) i k=Vc (en (Eh C P q)) (Fg P H.s) w i k:=fun i k hi e=>by
 unfold Vc Fg;rw[N8 hi e,N8 hi e,T1,o.cell];grind
def Mn:Ac1 (P.length+1) (en (Eh C P q)):=Auy
def Xx (g:P.Nodup)(m:0<C.c)(t:0<q)(e:∀ z,0<=Dh z P C):Xu (P.length+1) (en (Eh C P q)):=fun y h=>by
 have j:=Rx (P:=P) (C:=C) (q:=q);have:=Aum g m t e y (by rw[j.1];exact h);rwa[j.1]at this
def Am3 (h:Fe n X A)(e:∀ i k,i<n->k<n->B i k=A i k):Fe n X B:=fun i k hi g=>by
 rw[<-h i k hi g];exact Ah fun j m=>by rw[e j k m g]
theorem Anu (h:Xu n A)(e:∀ i k,i<n->k<n->B i k=A i k):Xu n B:=fun y hy=>h y fun i hi=>by
 rw[<-hy i hi];exact Ah fun j hj=>by rw[e i j hi hj]
def Apz (o:Qi H)(g:P.Nodup)(m:0<(C.add (H.scale w)).c)(u:0<q)(e:∀ z,0<=Dh z P (C.add (H.scale w)))(h:Fe (P.length+1) X (en (Eh C P q))) :
 byN (P.length+1) X (Fg P H.s) w≠0/\Fe (P.length+1) (Vd (P.length+1) X (Fg P H.s) w) (en (Eh (C.add (H.scale w)) P q)):=by
 have j:byN (P.length+1) X (Fg P H.s) w≠0:=Az9 (Tg Mn h) (Anu (Xx g m u e) fun i k hi t=>(Agi o i k hi t).symm);exact⟨j,Am3 (Aqh h j) (Agi o)⟩
end
end
def Ap3 {A:List (List Rat)}{L K:Nat}(h0:0<L)(C:0<K)(I:L<10^K)(J:nl L<=1000000000)(h:∀ r∈A,∀ q∈r,∃ z:Int,q*(L:Rat)=z/\z.natAbs<10^K):Y5 A L K where
 den:=fun r n q m=>by
  obtain⟨z,g,_⟩:=h r n q m;exact (Wy g h0).1
 pos:=h0
 nl:=J
 dig:=fun D F H=>by
  have e:D<=L:=A48 h0 F;refine⟨Cz C (A22 e I),fun r n q m N=>Cz C ?_⟩;obtain⟨z,g,t⟩:=h r n q m;have j:=(Wy g h0).1;have u:=Aem j;rw[g]at u;have E:q.num*((L/q.den:Nat):Int)=z:=A7f.1 u;refine A22 ?_ t;rw[<-E,A26,A26,A1s,A1s];exact A2h _ (Nat.div_le_div_right e)
section
variable {n:Nat}
def Aks {n w:Nat}{X Y:List (List Rat)}(j:Rec n w X)(z:Rec n w Y)(h:∀ i k,i<n->k<w->en X i k=en Y i k):X=Y:=by
 refine A5l (by rw[j.1,z.1]) fun i g t=>?_;have hi:i<n:=by rw[<-j.1];exact g
 have e:=j.2 i hi;have m:=z.2 i hi;rw[Ch g]at e;rw[Ch t]at m;refine A5l (by rw[e,m]) fun k u E=>?_;have:=h i k hi (by rw[<-e];exact u);unfold en at this;rwa[Ch g,Ch t,Cu u,Cu E]at this
section
variable {P:List Par} {C:CF} {q:Rat} {N:Nat} {X Y:List (List Rat)}
structure H6 (P:List Par)(C:CF)(q:Rat)(X:List (List Rat)):Prop where
 rc:Rec (P.length+1) (P.length+1) X
 inv:Fe (P.length+1) (en X) (en (Eh C P q))
def H6.uniq (h:H6 P C q X)(e:H6 P C q Y):X=Y:=Aks h.rc e.rc (Aps Mn h.inv e.inv)
theorem Az3 (j:In N C)(K:Fd q):∃ Z:Nat->Nat->Int,∀ i k,i<P.length+1->k<P.length+1->en (Eh C P q) i k*((4320:Nat):Rat)=Z i k/\(Z i k).natAbs<=N*30+12960:=by
 obtain⟨p,hp,t⟩:=K.thirty;have e:((12^2:Nat):Rat)=144:=jV;have E:((4320:Nat):Rat)=4320:=jV;have F:((30:Int):Rat)=30:=jV;have H:((144:Int):Rat)=144:=jV;have u:∀ i k,∃ z:Int,As C ((An P).getD i none) ((An P).getD k none)*144=z/\z.natAbs<=N:=fun i k=>by
  obtain⟨z,g,m⟩:=j.c ((An P).getD i none) ((An P).getD k none);rw[e]at g;exact⟨z,g,m⟩
 obtain⟨Z,I⟩:∃ Z:Nat->Nat->Int,∀ i k,As C ((An P).getD i none) ((An P).getD k none)*144=Z i k/\(Z i k).natAbs<=N:=⟨fun i k=>(u i k).choose,fun i k=>(u i k).choose_spec⟩;refine⟨fun i k=>Z i k*30+(if i=k/\0<i then p*144 else 0),fun i k hi J=>?_⟩;obtain⟨g,m⟩:=I i k;constructor
 ·rw[N8 hi J,A7d,A3c,<-g,E,F];by_cases h:i=k/\0<i
  ·rw[if_pos h,if_pos h,A3c,<-hp,H];grind
  rw[if_neg h,if_neg h,show ((0:Int):Rat)=0 from rfl];grind
 show (Z i k*30+if i=k/\0<i then p*144 else 0).natAbs<=_;split<;>omega
def Ay9:∀ n:Nat,n<=12->N5 n<=10^9:=fV
def H6.dens (h:H6 P C q X)(g:In N C)(H:N<=33000000000)(E:Fd q)(t:P.Nodup)(F:0<C.c)(e:∀ z,0<=Dh z P C) :
 ∃ L:Nat,0<L/\L<=N5 (P.length+1)*(10^12)^(P.length+1)/\∀ j k,j<P.length+1->k<P.length+1->∃ z:Int,en X j k*(L:Rat)=z/\z.natAbs<=4320*(N5 (P.length+1)*(10^12)^(P.length+1)):=by
 obtain⟨Z,u⟩:=Az3 (P:=P) g E;exact Aqr Mn h.inv (Xx t F E.pos e) oV (fun i k hi m=>(u i k hi m).1) (fun i k hi m=>A04 (u i k hi m).2 oV) oV
def Al4 (e:n<=12):N5 n*(10^12)^n<10^(12*n+10):=by
 have h:=Ay9 n e;rw[<-Nat.pow_mul,show 12*n+10=12*n+1+9 by omega,A4k (m:=12*n+1) (n:=9),A2d,A19];have g:0<10^(12*n):=A66 oV;have j:=A2h (10^(12*n)) h;have t:10^(12*n)*10^9<10^(12*n)*10*10^9:=by
  refine A6w ?_ fV;omega
 omega
def H6.de (h:H6 P C q X)(m:In N C)(I:N<=33000000000)(R:Fd q)(t:P.Nodup)(J:0<C.c)(g:∀ z,0<=Dh z P C)(F:P.length<=11):∀ j k,j<P.length+1->k<P.length+1->De 158 154 (en X j k):=fun j k O Q=>by
 obtain⟨L,h0,H,u⟩:=h.dens m I R t J g;have K:=Al4 (n:=P.length+1) oV;have hp:(10:Nat)^(12*(P.length+1)+10)<=10^154:=A10 oV oV;generalize N5 (P.length+1)*(10^12)^(P.length+1)=B at H K u;obtain⟨z,E,U⟩:=u j k O Q;generalize hT:(10:Nat)^154=T at hp;refine⟨z,L,E,h0,?_,by rw[hT];omega⟩;have e:(10:Nat)^158=10000*T:=by rw[<-hT,show 158=4+154 by rfl,A4k]
 rw[e];omega
def H6.light (h:H6 P C q X)(u:In N C)(Q:N<=33000000000)(U:Fd q)(F:P.Nodup)(R:0<C.c)(m:∀ z,0<=Dh z P C)(h5:P.length<=5):∃ L,Y5 X L 86:=by
 obtain⟨L,h0,O,J⟩:=h.dens u Q U F R m;have T:=Al4 (n:=P.length+1) oV;have hp:(10:Nat)^(12*(P.length+1)+10)<=10^82:=A10 oV oV;generalize N5 (P.length+1)*(10^12)^(P.length+1)=B at O T J;have e:(10:Nat)^86=10000*10^82:=by rw[show 86=4+82 by rfl,A4k]
 have t:L<10^82:=oV
 refine⟨L,Ap3 h0 oV (by rw[e];omega) (A04 (Bd (A04 (Cz (k:=82) oV t) oV)) oV) fun r V x W=>?_⟩;obtain⟨j,E,rfl⟩:=A3d.1 V;obtain⟨k,I,rfl⟩:=A3d.1 W;have g:j<P.length+1:=by rw[<-h.rc.1];exact E
 have H:=h.rc.2 j g;rw[Ch E]at H;obtain⟨z,K,Z⟩:=J j k g (by rw[<-H];exact I);refine⟨z,?_,by rw[e];omega⟩;rw[<-K];unfold en;rw[Ch E,Cu I]
end
end
section
variable {f:Nat->Nat->Rat}{i n:Nat}
def sqL (n:Nat)(f:Nat->Nat->Rat):List (List Rat):=(List.range n).map fun i=>(List.range n).map fun k=>f i k
def Aj7 (hi:i<n):gM (sqL n f) i=(List.range n).map fun k=>f i k:=by
 unfold sqL gM;rw[A02,A1a,A31 hi];rfl
def Rh (n:Nat)(f:Nat->Nat->Rat):Rec n n (sqL n f):=⟨by simp[sqL],fun i hi=>by rw[Aj7 hi];simp⟩
def N6 {i k:Nat}(hi:i<n)(e:k<n):en (sqL n f) i k=f i k:=by
 unfold en gR;rw[Aj7 hi,A02,A1a,A31 e];rfl
def Aik {X Y A:Nat->Nat->Rat}(h:Fe n X A)(e:∀ i k,i<n->k<n->Y i k=X i k):Fe n Y A:=fun i k hi m=>by
 rw[<-h i k hi m];exact Ah fun j g=>by rw[e i j hi g]
def Nj (n:Nat)(X:List (List Rat))(x:Nat->Rat)(w:Rat):List (List Rat):=sqL n (Vd n (en X) x w)
section
variable {P:List Par} {C H:CF} {q w:Rat} {X:List (List Rat)}
def H6.step (h:H6 P C q X)(o:Qi H)(g:P.Nodup)(t:0<(C.add (H.scale w)).c)(E:0<q)(e:∀ z,0<=Dh z P (C.add (H.scale w))) :
 byN (P.length+1) (en X) (Fg P H.s) w≠0/\H6 P (C.add (H.scale w)) q (Nj (P.length+1) X (Fg P H.s) w):=by
 obtain⟨j,m⟩:=Apz o g t E e h.inv;exact⟨j,Rh _ _,Aik m fun i k hi u=>N6 hi u⟩
def H6.of_right (e:Rec (P.length+1) (P.length+1) X)(h:Fe (P.length+1) (en (Eh C P q)) (en X)):H6 P C q X:=⟨e,Apf Mn h⟩
theorem Ah5 (o:Qi H):(An P).map (Bh (C.add (H.scale w)))=(An P).map fun e=>Bh C e+w*Zg H.s e*H.s B7 :=
 A41 fun e _=>by rw[Xz,o.right];grind
end
end
section
structure H9 (P:List Par)(C:CF)(q:Rat)(X:List (List Rat))(b:List Rat)(s c:Rat):Prop where
 inv:H6 P C q X
 rt:b=(An P).map (Bh C)
 sq:s=C.t (Ay B7 B7)
 ct:c=C.c
section
variable {P:List Par} {C H G:CF} {q w v s c s' c':Rat} {X X':List (List Rat)} {b b':List Rat}
def H9.uniq (h:H9 P C q X b s c)(e:H9 P C q X' b' s' c'):X=X'/\b=b'/\s=s'/\c=c' :=
 ⟨h.inv.uniq e.inv,by rw[h.rt,e.rt],by rw[h.sq,e.sq],by rw[h.ct,e.ct]⟩
def Pq (P:List Par)(b:List Rat)(x:Par->Rat)(w y:Rat):List Rat:=(List.range (P.length+1)).map fun i=>gR b i+w*Fg P x i*y
def Aqv (o:Qi H):Pq P ((An P).map (Bh C)) H.s w (H.s B7)=(An P).map (Bh (C.add (H.scale w))):=by
 rw[Ah5 o];refine A4g fun i=>?_;unfold Pq;rw[A1a,A1a];by_cases hi:i<P.length+1
 ·have e:i<(An P).length:=by rw[Cp];exact hi
  rw[A31 hi,A01 e];unfold Fg;have g:(An P).getD i none=(An P)[i]:=by rw[A02,A01 e];rfl
  have h:gR ((An P).map (Bh C)) i=Bh C (An P)[i]:=by
   unfold gR;rw[A02,A1a,A01 e];rfl
  show some (gR ((An P).map (Bh C)) i+w*Zg H.s ((An P).getD i none)*H.s B7)=_;rw[g,h];rfl
 rw[A1v (by rw[List.length_range];omega),A1v (by rw[Cp];omega)];rfl
theorem H9.step (h:H9 P C q X b s c)(o:Qi H)(g:P.Nodup)(n:0<(C.add (H.scale w)).c)(u:0<q)(e:∀ z,0<=Dh z P (C.add (H.scale w))) :
 byN (P.length+1) (en X) (Fg P H.s) w≠0/\H9 P (C.add (H.scale w)) q (Nj (P.length+1) X (Fg P H.s) w) (Pq P b H.s w (H.s B7)) (s+w*H.s B7*H.s B7) (c+w):=by
 obtain⟨j,m⟩:=h.inv.step o g n u e;refine⟨j,m,by rw[h.rt,Aqv o],?_,?_⟩
 ·show s+w*H.s B7*H.s B7=C.t (Ay B7 B7)+H.t (Ay B7 B7)*w;rw[h.sq,o.t];grind
 show c+w=C.c+H.c*w;rw[h.ct,o.c];grind
end
end
end Go.Proofs.YtemmheaocgmebaaGreatDoor
