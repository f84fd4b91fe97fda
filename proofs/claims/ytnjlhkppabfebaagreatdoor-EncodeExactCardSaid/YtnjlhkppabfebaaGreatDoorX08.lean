/- Parts of one proof, joined by a program. -/
import Derived.Test.YtnjlhkppabfebaaGreatDoorX07
import Derived.RangeFuncSeq
import Derived.RangeFuncGives
import Derived.RangeFuncIn
import Derived.OrdersIn
import Derived.OwnWalkIn
set_option linter.defProp false
set_option linter.unusedVariables false
set_option linter.unusedSimpArgs false
set_option linter.unusedSectionVars false
set_option maxHeartbeats 16000000
namespace Go.Proofs.YtnjlhkppabfebaaGreatDoor
open Go.Proofs.Tryz
open Go.RowKit Go.MapKept
def A5w:=@List.foldl_append
def A92:=@List.getElem?_zipIdx
def A6f:=@List.pairwise_singleton
def A6v:=@List.mem_append_right
def A3n:=@List.pairwise_iff_getElem
def A9x:=@List.mem_of_mem_erase
def A3a:=@List.erase_cons_head
section
variable {F:List Al}{R:List Br}{T:List (List UInt8×Nat)}{a:Nat}{q:Rat}{u:PH}{v:Value}
def Big {u m:PH}{f:Al}{e a:Nat}(d:ElP m e 0 (.int .i64 a)):FnK prog 104 [Cm f,.pointer (some ⟨e,0,none⟩)] u m fun v _=>v=.bool (f.1==a):=by
 refine FnK.of func104 kV kV<|G.lM none e 0 (.int .i64 a) d ?_;by_cases h:f.1=a
 ·refine G.eT f.1 a ?_;rw[beq_iff_eq.2 h];exact G.r (.bool true) ⟨rfl,rfl⟩
 refine G.eF f.1 a ?_;rw[beq_eq_false_iff_ne.2 h];exact G.r (.bool false) ⟨rfl,rfl⟩
def Bia (F:List Al)(a:Nat):Int:=Ad1 (fun f:Al=>f.1==a) F
def Bph (h:H5 u v T R F (a:Int))(ok:Bl u T R F (a:Int))(z:Tx q)(C:SB q)(d:SB (q*q)) :
 Fn0 prog 57 [v,.int .i64 a,.string (mkS (Ae q))] u fun I j=>Bgu j I (CF.one1 (-1,[]) q) 1:=by
 obtain⟨W,K,X,L,Y,N,rfl,hT,O,hF⟩:=h;have t:=ok.f2;refine Fn0.o func57<|G.pastI<|G.pub 1 3 [.int .i64 a] kV kV ?_;intro e Q P;refine G.callK _ _ kV call103 (Alt (cap:=.pointer (some ⟨e,0,none⟩)) (fun f:Al=>f.1==a) hF oV call104 fun f _ j _=>Big (Vs _ _ _ _)) ?_;rintro v1 Z U rfl;refine G.lM none e 0 (.int .i64 a) (Vs _ _ _ _)<|G.eT' a a rfl<|G.w (Ae q) [] Ase<|G.lM none e 0 (.int .i64 a) (Vs _ _ _ _)<|G.eT' a a rfl<|G.c call106 (Gs z) ?_;intro v2 u2 l2 H;refine G.c call105 (Bpl (p:=(-1,[])) H C d) ?_;intro v3 u3 V g;obtain⟨b,x,n,c,b',J,E,m,g1,g2,rfl⟩:=Bgo g;exact G.drop PH.mt kV (PH.mt_le _)<|G.r (.agg #[.bool b,.slice x n c,.bool b',.slice J E m,.map (some g1),.map (some g2)]) ⟨rfl,g⟩
def Bp1 {lab:Int}{a k:Nat}(h:H5 u v T R F lab)(ok:Bl u T R F lab)(H:(a:Int)≠lab)(E:Bia F a=(k:Int))(m:∃ g,F[k]?=some (a,1,g))(Q:Tx q)(U:SB q)(z:SB (q*q)) :
 Fn0 prog 57 [v,.int .i64 a,.string (mkS (Ae q))] u fun Y K=>Bgu K Y (CF.one1 ((k:Int),[]) q) 1:=by
 obtain⟨pa,ca,pb,cb,pe,N,rfl,hT,hR,hF⟩:=h;have P:=ok.f2;obtain⟨g,d⟩:=m;refine Fn0.o func57<|G.pastI<|G.pub 1 3 [.int .i64 a] kV kV ?_;intro e hu hm;refine G.callK _ _ kV call103 (Alt (cap:=.pointer (some ⟨e,0,none⟩)) (fun f:Al=>f.1==a) hF oV call104 fun f _ K _=>Big (Vs _ _ _ _)) ?_;rintro v1 u1 V rfl;unfold Bia at E;rw[E];refine G.lM none e 0 (.int .i64 a) (Vs _ _ _ _)<|G.eF' a lab H<|G.lM none e 0 (.int .i64 a) (Vs _ _ _ _)<|G.eF' a lab H<|G.lF k 0 ?_;obtain⟨C,I,rfl,O⟩:=Ac.at' (hF.mono V) (j:=k) (e:=Cm (a,1,g)) (by simp[d]);obtain⟨t,_⟩:=A05.1 d;refine G.a C I F.length N k 3 t<|G.lU (some 3) C (I+k*3) (.agg #[.int .i64 a,.int .i64 (1:Nat),.int .i64 g]) O<|G.eF (1:Nat) 2<|G.w (Ae q) [] Ase<|G.w (Ae q) [] Ase<|G.c call106 (Gs Q) ?_;intro v2 u2 l2 X;refine G.c call105 (Bpl (p:=((k:Int),[])) X U z) ?_;intro v3 u3 l3 J;obtain⟨b,x,n,c,b',Z,W,L,g1,g2,rfl⟩:=Bgo J;exact G.drop PH.mt kV (PH.mt_le _)<|G.r (.agg #[.bool b,.slice x n c,.bool b',.slice Z W L,.map (some g1),.map (some g2)]) ⟨rfl,J⟩
end
def Ar0 {p:Par}{q:Rat}(hp:PV p):CFV (CF.one1 p q) :=
 ⟨fun k d=>by
  have d:Nh (fun _=>(0:Rat)) p q k≠0:=d;unfold Nh at d;split at d
  ·subst_vars;exact hp
  ·exact absurd rfl d,fun k d=>by
  have d:Nh (fun _=>(0:Rat)) (p,p) (q*q) k≠0:=d;unfold Nh at d;split at d
  ·subst_vars
   exact⟨hp,hp,fun e=>by
   have e:0<Bk p p:=e;have:=(Et.sym _ _).2 e;omega⟩
  exact absurd rfl d⟩
def Hc.listP {u:PH}{g sz:Nat}{es:List Value}(h:Hc u g 0 sz es):Ac u (.slice (some ⟨g,0,none⟩) es.length es.length) sz es:=⟨_,_,rfl,A08 _,fun j e d=>⟨g,0,rfl,h j e d⟩⟩
def Sc {L:List (List UInt8)}(h:(L.all Hn&&decide L.Nodup)=true):Rc L:=by
 rw[A1m,A1o,decide_eq_true_iff]at h;exact⟨h.1,h.2⟩
section
variable {a:Option Addr}{c i:Nat}{m m0:PH}{κ:Type}
def Brn:List UInt8:=[98,108,117,101]
def Bsm:List UInt8:=[114,101,100]
def P4:List Par:=[(-1,[]),(0,[]),(1,Brn),(1,Bsm)]
def Bkb (i:Nat):List (Par×Par):=(P4.drop i).map fun q=>(P4.getD i (0,[]),q)
def Bld (i:Nat):List (Par×Par):=(List.range i).flatMap Bkb
def Bn7 (i:Nat):Bld (i+1)=Bld i++Bkb i:=by unfold Bld;rw[A5d,List.flatMap_append];simp
def Bry:Hb Bk P4:=by unfold Hb;decide +kernel
def Br2:Hb Oc (Bld 4):=by unfold Hb;decide +kernel
def Bsb:∀ p∈P4,PV p:=by
 intro p hp;simp only[P4,A1g,A11,or_false]at hp;rcases hp with rfl|rfl|rfl|rfl
 ·exact⟨fV,fV,.inl rfl⟩
 ·exact⟨fV,fV,.inl rfl⟩
 ·exact⟨fV,fV,.inr fV⟩
 exact⟨fV,fV,.inr fV⟩
def Bqy:∀ q∈Bld 4,q.1∈P4/\q.2∈P4/\¬ 0<Bk q.1 q.2:=jV
structure Dr {κ:Type}(L:List κ)(T:List (κ×Rat)):Prop where
 sub:(T.map (·.1)).Sublist L
 val:∀ p∈T,p.2≠0/\SmR p.2
def Dr.nil :Dr ([]:List κ) []:=⟨List.Sublist.slnil,mV⟩
def Dr.skip {L:List κ}{T:List (κ×Rat)}(h:Dr L T)(k:κ):Dr (L++[k]) T:=⟨h.sub.trans (List.sublist_append_left _ _),h.val⟩
def Dr.snoc {L:List κ}{T:List (κ×Rat)}(h:Dr L T)(k:κ){q:Rat}(h0:q≠0)(d:SmR q):Dr (L++[k]) (T++[(k,q)]):=by
 refine⟨by rw[A1i];exact h.sub.append (List.Sublist.refl _),fun p hp=>?_⟩;rcases A1h.1 hp with hp|hp
 ·exact h.val p hp
 simp at hp;subst hp;exact⟨h0,d⟩
def Dr.can {κ:Type}[DecidableEq κ]{c:κ->κ->Int}(e:Ord c){L:List κ}{T:List (κ×Rat)}(h:Dr L T)(d:Hb c L):Can c (fun k=>Fo k T) T:=Bmg e (d.sublist h.sub) fun p hp=>(h.val p hp).1
def Dr.dn {κ:Type}[DecidableEq κ]{L:List κ}{T:List (κ×Rat)}(h:Dr L T)(k:κ):Dn 1 108 (Fo k T):=by
 rcases Bhn k T with e|⟨q,d,e⟩
 ·rw[e];exact Dn.zero _ _
 rw[e];exact (h.val _ d).2.dn
def Dr.mem {κ:Type}[DecidableEq κ]{L:List κ}{T:List (κ×Rat)}(h:Dr L T){k:κ}(d:Fo k T≠0):k∈L:=by
 rcases Bhn k T with e|⟨q,g,e⟩
 ·exact absurd e d
 exact h.sub.subset (A1b.2 ⟨_,g,rfl⟩)
def Bmi (a:Option Addr)(c:Nat)(T:List (Par×Rat)):Arr:=⟨.slice a T.length c,79,3,T.map Bt⟩
def Bo9 (a:Option Addr)(c:Nat)(T:List ((Par×Par)×Rat)):Arr:=⟨.slice a T.length c,99,5,T.map D8⟩
def Bqo {T:List (Par×Rat)}:(Bmi a c T).At m0 m=Af m0 m (.slice a T.length c) 79 3 (T.map Bt):=rfl
def Brd {T:List ((Par×Par)×Rat)}:(Bo9 a c T).At m0 m=Af m0 m (.slice a T.length c) 99 5 (T.map D8):=rfl
def Bsf (h:i<4):P4[i]?=some (P4.getD i (0,[])):=by
 rcases (by omega:i=0\/i=1\/i=2\/i=3) with rfl|rfl|rfl|rfl<;>rfl
def Bqm (h:i<4):P4.take (i+1)=P4.take i++[P4.getD i (0,[])]:=by
 rcases (by omega:i=0\/i=1\/i=2\/i=3) with rfl|rfl|rfl|rfl<;>rfl
def Bn3 {i j:Nat}(h:i+j<4):(Bkb i).take (j+1)=(Bkb i).take j++[(P4.getD i (0,[]),P4.getD (i+j) (0,[]))]:=by
 have e:(Bkb i)[j]?=some (P4.getD i (0,[]),P4.getD (i+j) (0,[])):=by
  unfold Bkb;rw[A1a,A39,Bsf h];rfl
 rw[A1n,e];rfl
def Bp9 (h:i<=4):(Bkb i).length=4-i:=by unfold Bkb;simp[P4]
def Bqr {u:PH}{s:Src}{ts:List Int}{k:Nat}(h:J0 u s ts)(hk:k<=s.n) :
 Ag prog 12 [s.ptr] u (s.M k) fun v u' m'=>∃ (F:CF) (k':Nat),No u' v F 10/\CFD 1 108 F/\CFV F/\k'<=s.n/\m'=s.M k':=by
 refine Ag.o func12<|G.buildU 77 2 24 (.agg #[.int .i64 0,.string (mkS [])]) [.agg #[.int .i64 (-1),.string (mkS [])],.agg #[.int .i64 0,.string (mkS [])],.agg #[.int .i64 1,.string (mkS Brn)],.agg #[.int .i64 1,.string (mkS Bsm)]] kV (fun e he=>by
  simp at he;rcases he with rfl|rfl|rfl|rfl<;>exact⟨rfl,fun y hy=>by simp[Value.cells]at hy;rcases hy with rfl|rfl<;>rfl⟩) rfl oV mV mV ?_
 intro H u1 l1 ep;have hP:∀ i,i<4->ElP u1 H (0+i*2) (Ap (P4.getD i (0,[]))):=fun i hi=>ep i _ (by
  rcases (by omega:i=0\/i=1\/i=2\/i=3) with rfl|rfl|rfl|rfl<;>rfl)
 refine G.A call38 (Bk1 (h.mono l1) hk) ?_;rintro v2 u2 m2 l2 ⟨q0,k0,rfl,aq,ao,rfl⟩ _;rw[By];refine G.l (ι:=Nat×Nat×List (Par×Rat)×(Option Addr×Nat)) (fun i=>[(0,.v s.ptr),(2,.p 0 0),(3,sV (some ⟨H,0,none⟩) 4 4),(4,.p 2003 0),(21,sV (some ⟨H,0,none⟩) 4 4),(22,iV (4:Nat)),(23,iV i.1)])
  (fun i=>[(0,⟨33,[tV [],sV none 0 0,sV none 0 0]⟩),(2003,⟨33,[tV (Ae q0),sV i.2.2.2.1 i.2.2.1.length i.2.2.2.2,sV none 0 0]⟩)])
  (fun i u' m'=>i.1<=4/\i.2.1<=s.n/\Dr (P4.take i.1) i.2.2.1/\i.2.2.1.length<=i.1/\Bag m' [s.arr i.2.1,Bmi i.2.2.2.1 i.2.2.2.2 i.2.2.1])
  (fun i=>4-i.1) (0,k0,[],(none,0))
  ⟨mV,ao,Dr.nil,mV,s.bag0 k0 ⟨PH.mt,Af.nil _ _ _,trivial⟩⟩ ?_
 rintro J ⟨i,k1,T,⟨a,c⟩⟩ hJ u3 m3 l3 ⟨hi,a5,hD,am,P⟩;simp only at hi a5 hD am P hJ;have aa:=(l1.trans l2).trans l3;by_cases E:i<4
 ·refine G.lT i (4:Nat) ?_;obtain⟨p,hp⟩:∃ p,p=P4.getD i (0,[]):=⟨_,rfl⟩;have U:=(hP i E).mono (l2.trans l3);have C:=Bqm E;rw[<-hp]at U C;refine G.a H 0 4 4 i 2 E<|G.lU (some 2) H (0+i*2) (.agg #[.int .i64 p.1,.string (mkS p.2)]) U ?_;obtain⟨m0,W,hL⟩:=P;obtain⟨rfl,d⟩:=Src.split W;refine G.D call38 (Src.apart d) (Bk1 (h.mono aa) a5) ?_;rintro v4 u4 m4 l4 ⟨q,k2,rfl,hq,L,rfl⟩ _;by_cases z:q=0
  ·exact G.y (Ae q) [48] (by rw[z,Fz])<|G.i i<|G.b (hJ (i+1,k2,T,(a,c)) _ _ _ cV (l3.trans l4) ⟨dV,L,by dsimp only;rw[C];exact hD.skip p,dV,⟨m0,Src.at d,hL⟩⟩ dV)
  refine G.x (Ae q) [48] (Sf z)<|G.D call10 (Src.apart d) (I4 (n:=2) (h.mono (aa.trans l4)) L oV oV) ?_;rintro v5 u5 m5 l5 ⟨r,k3,rfl,hr,N,rfl⟩ _;by_cases ar:r=1
  ·refine G.eT r 1<|G.B 79 3 40 (.agg #[.int .i64 0,.string (mkS []),.string (mkS [])]) [.agg #[.int .i64 p.1,.string (mkS p.2),.string (mkS (Ae q))]] (Afk (p,q)) ?_;intro g6 u6 l6 e6;have g:Bag (m0.or (s.M k3)) [s.arr k3,Bmi a c T]:=⟨m0,Src.at d,hL⟩;obtain⟨mm,X,V⟩:=g.focus 1 rfl;rw[Bqo]at X;refine G.k 79 3 40 (.agg #[.int .i64 0,.string (mkS []),.string (mkS [])]) mm (T.map Bt) [.agg #[.int .i64 p.1,.string (mkS p.2),.string (mkS (Ae q))]] (.slice a T.length c) g6 0 1 1 X e6 (Afk (p,q)) ?_;intro v7 m7 Z;rw[show T.map Bt++[.agg #[.int .i64 p.1,.string (mkS p.2),.string (mkS (Ae q))]]=(T++[(p,q)]).map Bt by rw[A1i];rfl]at Z;obtain⟨a7,c7,rfl⟩:=Z.shape;rw[A03]at Z⊢;have t:=V (Bmi a7 c7 (T++[(p,q)])) m7 Z;exact G.i i<|G.b (hJ (i+1,k3,T++[(p,q)],(a7,c7)) _ _ _ cV (((l3.trans l4).trans l5).trans l6) ⟨dV,N,by dsimp only;rw[C];exact hD.snoc p z hq,by dsimp only;simp;omega,t⟩ dV)
  exact G.eF r 1<|G.i i<|G.b (hJ (i+1,k3,T,(a,c)) _ _ _ cV ((l3.trans l4).trans l5) ⟨dV,N,by dsimp only;rw[C];exact hD.skip p,dV,⟨m0,Src.at d,hL⟩⟩ dV)
 obtain rfl:i=4:=oV;refine G.lF (4:Nat) (4:Nat) ?_;obtain⟨m0,W,hL⟩:=P;refine G.l (ι:=Nat×Nat×List ((Par×Par)×Rat)×(Option Addr×Nat)) (fun i=>[(0,.v s.ptr),(2,.p 0 0),(3,sV (some ⟨H,0,none⟩) 4 4),(4,.p 2003 0),(45,sV (some ⟨H,0,none⟩) 4 4),(46,iV (4:Nat)),(47,iV i.1)])
  (fun i=>[(0,⟨33,[tV [],sV none 0 0,sV none 0 0]⟩),(2003,⟨33,[tV (Ae q0),sV a T.length c,sV i.2.2.2.1 i.2.2.1.length i.2.2.2.2]⟩)])
  (fun i u' m'=>i.1<=4/\i.2.1<=s.n/\Dr (Bld i.1) i.2.2.1/\i.2.2.1.length<=10/\Bag m' [s.arr i.2.1,Bo9 i.2.2.2.1 i.2.2.2.2 i.2.2.1,Bmi a c T])
  (fun i=>4-i.1) (0,k1,[],(none,0))
  ⟨mV,a5,Dr.nil,mV,⟨m0,W,m0,Af.nil _ _ _,hL⟩⟩ ?_
 rintro J2 ⟨i,k2,Q,⟨qa,qc⟩⟩ ab u4 m4 l4 ⟨an,L,O,ae,g⟩;simp only at an L O ae g ab;have au:=aa.trans l4;have ad:∀ u',PH.le u4 u'->∀ i,i<4->ElP u' H (0+i*2) (Ap (P4.getD i (0,[]))):=fun u' hl i hi=>(hP i hi).mono (((l2.trans l3).trans l4).trans hl);by_cases E:i<4
 ·refine G.lT i (4:Nat) ?_;obtain⟨p,hp⟩:∃ p,p=P4.getD i (0,[]):=⟨_,rfl⟩;have U:=ad u4 (PH.le_refl _) i E;rw[<-hp]at U;refine G.a H 0 4 4 i 2 E<|G.lU (some 2) H (0+i*2) (.agg #[.int .i64 p.1,.string (mkS p.2)]) U<|G.sliceFrom H 0 4 4 i 2 kV oV E<|G.l (ι:=Nat×Nat×List ((Par×Par)×Rat)×(Option Addr×Nat)) (fun j=>[(0,.v s.ptr),(2,.p 0 0),(3,sV (some ⟨H,0,none⟩) 4 4),(4,.p 2003 0),(9,.p 12003 0),(45,sV (some ⟨H,0,none⟩) 4 4),(46,iV (4:Nat)),(47,iV i),(54,sV (some ⟨H,0+i*2,none⟩) (4-i) (4-i)),(55,iV (4-i:Nat)),(56,iV j.1)])
   (fun j=>[(0,⟨33,[tV [],sV none 0 0,sV none 0 0]⟩),(2003,⟨33,[tV (Ae q0),sV a T.length c,sV j.2.2.2.1 j.2.2.1.length j.2.2.2.2]⟩),(12003,⟨77,[iV p.1,tV p.2]⟩)])
   (fun j u' m'=>j.1<=4-i/\j.2.1<=s.n/\Dr (Bld i++(Bkb i).take j.1) j.2.2.1/\Bag m' [s.arr j.2.1,Bo9 j.2.2.2.1 j.2.2.2.2 j.2.2.1,Bmi a c T])
   (fun j=>4-i-j.1) (0,k2,Q,(qa,qc))
   ⟨mV,L,by simpa using O,g⟩ ?_
  rintro J3 ⟨j,k3,R,⟨ra,rc⟩⟩ Y u5 m5 l5 ⟨hj,N,I,t⟩;simp only at hj N I t Y;have al:R.length<=10:=by
   have h1:=I.sub.length_le;have h2:∀ a:Fin 4,∀ b:Fin 5,(Bld a.val++(Bkb a.val).take b.val).length<=10:=jV;have h3:=h2 ⟨i,E⟩ ⟨j,oV⟩;rw[A03]at h1;exact A04 h1 h3
  have ai:=au.trans l5;by_cases ah:j<4-i
  ·refine G.lT j (4-i:Nat) ?_;obtain⟨K,ap⟩:∃ K,K=P4.getD (i+j) (0,[]):=⟨_,rfl⟩;have a1:=ad u5 l5 (i+j) oV;have C:=Bn3 (i:=i) (j:=j) oV;rw[<-ap]at a1 C;rw[<-hp]at C;refine G.a H (0+i*2) (4-i) (4-i) j 2 ah<|G.lU (some 2) H (0+i*2+j*2) (.agg #[.int .i64 K.1,.string (mkS K.2)]) (by rw[show 0+i*2+j*2=0+(i+j)*2 by omega];exact a1) ?_;obtain⟨n0,a8,a2⟩:=t;obtain⟨rfl,d⟩:=Src.split a8;refine G.D call38 (Src.apart d) (Bk1 (h.mono ai) N) ?_;rintro v6 u6 m6 l6 ⟨q,k4,rfl,hq,af,rfl⟩ _;by_cases z:q=0
   ·exact G.y (Ae q) [48] (by rw[z,Fz])<|G.i j<|G.b (Y (j+1,k4,R,(ra,rc)) _ _ _ cV (l5.trans l6) ⟨dV,af,by dsimp only;rw[C,<-A2k];exact I.skip _,⟨n0,Src.at d,a2⟩⟩ dV)
   refine G.x (Ae q) [48] (Sf z)<|G.D call10 (Src.apart d) (I4 (n:=2) (h.mono (ai.trans l6)) af oV oV) ?_;rintro v7 u7 m7 l7 ⟨r,k5,rfl,hr,ag,rfl⟩ _;by_cases ar:r=1
   ·refine G.eT r 1<|G.B 99 5 64 (.agg #[.int .i64 0,.string (mkS []),.int .i64 0,.string (mkS []),.string (mkS [])]) [.agg #[.int .i64 p.1,.string (mkS p.2),.int .i64 K.1,.string (mkS K.2),.string (mkS (Ae q))]] (Aj6 ((p,K),q)) ?_;intro g8 u8 l8 e8;have a3:Bag (n0.or (s.M k5)) [s.arr k5,Bo9 ra rc R,Bmi a c T]:=⟨n0,Src.at d,a2⟩;obtain⟨mm,X,V⟩:=a3.focus 1 rfl;rw[Brd]at X;refine G.k 99 5 64 (.agg #[.int .i64 0,.string (mkS []),.int .i64 0,.string (mkS []),.string (mkS [])]) mm (R.map D8) [.agg #[.int .i64 p.1,.string (mkS p.2),.int .i64 K.1,.string (mkS K.2),.string (mkS (Ae q))]] (.slice ra R.length rc) g8 0 1 1 X e8 (Aj6 ((p,K),q)) ?_;intro v9 m9 a0;rw[show R.map D8++[.agg #[.int .i64 p.1,.string (mkS p.2),.int .i64 K.1,.string (mkS K.2),.string (mkS (Ae q))]]=(R++[((p,K),q)]).map D8 by rw[A1i];rfl]at a0;obtain⟨a9,c9,rfl⟩:=a0.shape;rw[A03]at a0⊢;have a4:=V (Bo9 a9 c9 (R++[((p,K),q)])) m9 a0;exact G.i j<|G.b (Y (j+1,k5,R++[((p,K),q)],(a9,c9)) _ _ _ cV (((l5.trans l6).trans l7).trans l8) ⟨dV,ag,by dsimp only;rw[C,<-A2k];exact I.snoc _ z hq,a4⟩ dV)
   exact G.eF r 1<|G.i j<|G.b (Y (j+1,k5,R,(ra,rc)) _ _ _ cV ((l5.trans l6).trans l7) ⟨dV,ag,by dsimp only;rw[C,<-A2k];exact I.skip _,⟨n0,Src.at d,a2⟩⟩ dV)
  obtain rfl:j=4-i:=oV;exact G.lF (4-i:Nat) (4-i:Nat)<|G.i i<|G.b (ab (i+1,k3,R,(ra,rc)) _ _ _ cV (l4.trans l5) ⟨dV,N,by dsimp only;rw[Bn7];rw[A1j (by rw[Bp9 oV];exact A08 _)]at I;exact I,al,t⟩ dV)
 obtain rfl:i=4:=oV;refine G.lF (4:Nat) (4:Nat) ?_;obtain⟨n0,a6,ac⟩:=g;obtain⟨rfl,d⟩:=Src.split a6;refine G.giveP (ma:=n0) (sm:=s.M k2) kV rfl (Src.apart d) (s.h0 k k2) ?_;intro u9 l9 hm;have aj:Ac u9 (.slice qa Q.length qc) 5 (Q.map D8):=ac.list hm 0 rfl;have ak:Ac u9 (.slice a T.length c) 3 (T.map Bt):=ac.list hm 1 rfl;refine G.r (.agg #[.string (mkS (Ae q0)),.slice a T.length c,.slice qa Q.length qc]) ⟨⟨q0,fun p=>Fo p T,fun q=>Fo q Q⟩,k2,⟨T,Q,a,c,qa,qc,rfl,ak,aj,?_,O.can A0t Br2,oV,ae⟩,⟨aq.dn,fun p=>hD.dn p,fun q=>O.dn q⟩,⟨fun p hp=>?_,fun q hq=>?_⟩,L,rfl⟩
 ·exact hD.can Et Bry
 ·exact Bsb p (hD.mem hp)
 obtain⟨h1,h2,h3⟩:=Bqy q (O.mem hq);exact⟨Bsb _ h1,Bsb _ h2,h3⟩
end
section
variable {F:List Al}{R:List Br}{T:List (List UInt8×Nat)}{a k:Nat}{lab z:Int}{s:List UInt8}{u:PH}{v:Value}
def Qe :Fn0 prog 134 [.string (mkS [])] u fun v _=>v=.bool false:=by
 refine Fn0.o func134<|G.w [] [48] fV<|G.c call185 (Ux (s:=[]) (p:=[45])) ?_;rintro g e d rfl;exact G.q (Lib.trimPrefix [] [45]) [] rfl<|G.r (.bool false) ⟨rfl,rfl⟩
def Ah0 :Fn0 prog 75 [.string (mkS [])] u fun v _=>v=.bool false:=by
 refine Fn0.o func75<|G.c call133 (Azn (T:=[]) mV) ?_;rintro m g d rfl;refine G.c call134 Qe ?_;rintro n h l2 rfl;refine G.c call134 Qe ?_;rintro t j e rfl;exact G.r (.bool false) ⟨rfl,rfl⟩
def Atf :Fn0 prog 115 [.string (mkS [])] u fun v _=>v=.tuple #[.string (mkS []),.string (mkS []),.bool false]:=by
 refine Fn0.o func115<|G.c call75 Ah0 ?_;rintro g e d rfl;exact G.r (.tuple #[.string (mkS []),.string (mkS []),.bool false]) ⟨rfl,rfl⟩
def Ahf :Fn0 prog 116 [.string (mkS [])] u fun v _=>v=.tuple #[.int .i64 0,.bool false]:=by
 refine Fn0.o func116<|G.c call134 Qe ?_;rintro g e d rfl;exact G.r (.tuple #[.int .i64 0,.bool false]) ⟨rfl,rfl⟩
def Ati {x:List UInt8×Nat}(d:1<=x.2)(e:x.2<=3):Fn0 prog 59 [D9 x,.string (mkS [])] u fun v _=>v=.bool true:=by
 obtain⟨s,k⟩:=x;simp only at d e;refine Fn0.o func59 ?_;rcases (by omega:k=1\/k=2\/k=3) with rfl|rfl|rfl
 ·exact G.eT (1:Nat) 1<|G.q [] [] rfl<|G.r (.bool true) ⟨rfl,rfl⟩
 ·refine G.eF (2:Nat) 1<|G.eT (2:Nat) 2<|G.c call115 Atf ?_;rintro m h g rfl;refine G.c call116 Ahf ?_;rintro n j l2 rfl;exact G.q [] [] rfl<|G.r (.bool true) ⟨rfl,rfl⟩
 exact G.eF (3:Nat) 1<|G.eF (3:Nat) 2<|G.eT (3:Nat) 3<|G.q [] [] rfl<|G.r (.bool true) ⟨rfl,rfl⟩
def Afp :Lib.itoa z≠[]:=by
 by_cases h:z<0
 ·rw[N2 h];simp
 rw[Lib.itoa,if_neg h];exact Gk _
def Awl (h:z.natAbs<=1000000000):Fn0 prog 59 [D9 (s,1),.string (mkS (Lib.itoa z))] u fun v _=>v=.bool true:=by
 refine Fn0.o func59<|G.eT (1:Nat) 1<|G.w (Lib.itoa z) [] Afp<|G.c call114 (Afu h) ?_;rintro g e d rfl;exact G.r (.bool true) ⟨rfl,rfl⟩
def Awf {s t:List UInt8}(h:Hn t=true):Fn0 prog 59 [D9 (s,3),.string (mkS t)] u fun v _=>v=.bool true:=by
 refine Fn0.o func59<|G.eF (3:Nat) 1<|G.eF (3:Nat) 2<|G.eT (3:Nat) 3<|G.w t [] (fun e=>by rw[e]at h;cases h)<|G.c call117 (Asw h) ?_;rintro j g d rfl;exact G.r (.bool true) ⟨rfl,rfl⟩
def Bod (h:H5 u v T R F lab)(ok:Bl u T R F lab){i:Int}(d:Bia F a=i)(C:(a:Int)=lab) :
 Fn0 prog 57 [v,.int .i64 a,.string (mkS [])] u fun H j=>Bgu j H (CF.num ((0:Int):Rat)) 0:=by
 obtain⟨V,J,W,K,X,L,rfl,hT,N,hF⟩:=h;have t:=ok.f2;refine Fn0.o func57<|G.pastI<|G.pub 1 3 [.int .i64 a] kV kV ?_;intro e P O;refine G.callK _ _ kV call103 (Alt (cap:=.pointer (some ⟨e,0,none⟩)) (fun f:Al=>f.1==a) hF oV call104 fun f _ j _=>Big (Vs _ _ _ _)) ?_;rintro v1 Y Q rfl;unfold Bia at d;rw[d];refine G.lM none e 0 (.int .i64 a) (Vs _ _ _ _)<|G.eT' a lab C<|G.q [] [] rfl<|G.c call55 (Bir (n:=0) oV oV) ?_;intro v3 Z U g;obtain⟨b,x,n,c,b',I,E,m,g1,g2,rfl⟩:=Bgo g;exact G.drop PH.mt kV (PH.mt_le _)<|G.r (.agg #[.bool b,.slice x n c,.bool b',.slice I E m,.map (some g1),.map (some g2)]) ⟨rfl,g⟩
def Bo0 (h:H5 u v T R F lab)(ok:Bl u T R F lab)(d:Bia F a = -1)(g:(a:Int)≠lab) :
 Fn0 prog 57 [v,.int .i64 a,.string (mkS s)] u fun H m=>Bgu m H (CF.num ((1:Int):Rat)) 0:=by
 obtain⟨V,J,W,K,X,L,rfl,hT,N,hF⟩:=h;have C:=ok.f2;refine Fn0.o func57<|G.pastI<|G.pub 1 3 [.int .i64 a] kV kV ?_;intro e P O;refine G.callK _ _ kV call103 (Alt (cap:=.pointer (some ⟨e,0,none⟩)) (fun f:Al=>f.1==a) hF oV call104 fun f _ m _=>Big (Vs _ _ _ _)) ?_;rintro v1 Y Q rfl;unfold Bia at d;rw[d];refine G.lM none e 0 (.int .i64 a) (Vs _ _ _ _)<|G.eF' a lab g<|G.lM none e 0 (.int .i64 a) (Vs _ _ _ _)<|G.eF' a lab g<|G.lT (-1) 0<|G.c call55 (Bir (n:=1) oV oV) ?_;intro v3 Z U j;obtain⟨b,x,n,c,b',I,E,t,g1,g2,rfl⟩:=Bgo j;exact G.drop PH.mt kV (PH.mt_le _)<|G.r (.agg #[.bool b,.slice x n c,.bool b',.slice I E t,.map (some g1),.map (some g2)]) ⟨rfl,j⟩
def Bp8 (h:H5 u v T R F lab)(ok:Bl u T R F lab){k m:Nat}(C:Bia F a=(k:Int))(d:F[k]?=some (a,2,m))(E:(a:Int)≠lab) :
 Fn0 prog 57 [v,.int .i64 a,.string (mkS s)] u fun V J=>Bgu J V (CF.one1 ((k:Int),s) ((1:Int):Rat)) 1:=by
 obtain⟨pa,X,pb,Y,pe,L,rfl,hT,Z,hF⟩:=h;have O:=ok.f2;refine Fn0.o func57<|G.pastI<|G.pub 1 3 [.int .i64 a] kV kV ?_;intro e hu hm;refine G.callK _ _ kV call103 (Alt (cap:=.pointer (some ⟨e,0,none⟩)) (fun f:Al=>f.1==a) hF oV call104 fun f _ J _=>Big (Vs _ _ _ _)) ?_;rintro v1 u1 P rfl;unfold Bia at C;rw[C];refine G.lM none e 0 (.int .i64 a) (Vs _ _ _ _)<|G.eF' a lab E<|G.lM none e 0 (.int .i64 a) (Vs _ _ _ _)<|G.eF' a lab E<|G.lF k 0 ?_;obtain⟨t,H,rfl,N⟩:=Ac.at' (hF.mono P) (j:=k) (e:=Cm (a,2,m)) (by simp[d]);obtain⟨g,_⟩:=A05.1 d;refine G.a t H F.length L k 3 g<|G.lU (some 3) t (H+k*3) (.agg #[.int .i64 a,.int .i64 (2:Nat),.int .i64 m]) N<|G.eT (2:Nat) 2<|G.c call96 (Wa (z:=1) oV oV) ?_;intro v2 u2 l2 U;refine G.c call105 (Bpl (p:=((k:Int),s)) U jV jV) ?_;intro v3 u3 l3 I;obtain⟨b,x,n,c,b',W,Q,K,g1,g2,rfl⟩:=Bgo I;exact G.drop PH.mt kV (PH.mt_le _)<|G.r (.agg #[.bool b,.slice x n c,.bool b',.slice W Q K,.map (some g1),.map (some g2)]) ⟨rfl,I⟩
def Bn6 (h:H5 u v T R F lab)(ok:Bl u T R F lab)(t:Bia F a=(k:Int))(d:F[k]?=some (a,1,1))(C:(a:Int)≠lab) :
 Fn0 prog 57 [v,.int .i64 a,.string (mkS [])] u fun Q I=>Bgu I Q (CF.num ((0:Int):Rat)) 0:=by
 obtain⟨pa,V,pb,W,pe,K,rfl,hT,X,hF⟩:=h;have N:=ok.f2;refine Fn0.o func57<|G.pastI<|G.pub 1 3 [.int .i64 a] kV kV ?_;intro e Z Y;refine G.callK _ _ kV call103 (Alt (cap:=.pointer (some ⟨e,0,none⟩)) (fun f:Al=>f.1==a) hF oV call104 fun f _ I _=>Big (Vs _ _ _ _)) ?_;rintro v1 u1 O rfl;unfold Bia at t;rw[t];refine G.lM none e 0 (.int .i64 a) (Vs _ _ _ _)<|G.eF' a lab C<|G.lM none e 0 (.int .i64 a) (Vs _ _ _ _)<|G.eF' a lab C<|G.lF k 0 ?_;obtain⟨m,E,rfl,L⟩:=Ac.at' (hF.mono O) (j:=k) (e:=Cm (a,1,1)) (by simp[d]);obtain⟨g,_⟩:=A05.1 d;refine G.a m E F.length K k 3 g<|G.lU (some 3) m (E+k*3) (.agg #[.int .i64 a,.int .i64 (1:Nat),.int .i64 (1:Nat)]) L<|G.eF (1:Nat) 2<|G.q [] [] rfl<|G.eT (1:Nat) 1<|G.c call55 (Bir (n:=0) oV oV) ?_;intro v3 u3 l3 H;obtain⟨b,x,n,c,b',U,P,J,g1,g2,rfl⟩:=Bgo H;exact G.drop PH.mt kV (PH.mt_le _)<|G.r (.agg #[.bool b,.slice x n c,.bool b',.slice U P J,.map (some g1),.map (some g2)]) ⟨rfl,H⟩
def Bob (h:H5 u v T R F lab)(ok:Bl u T R F lab)(t:Bia F a=(k:Int))(d:F[k]?=some (a,1,0))(C:(a:Int)≠lab) :
 Fn0 prog 57 [v,.int .i64 a,.string (mkS [])] u fun Q I=>Bgu I Q (CF.num ((1:Int):Rat)) 0:=by
 obtain⟨pa,V,pb,W,pe,K,rfl,hT,X,hF⟩:=h;have N:=ok.f2;refine Fn0.o func57<|G.pastI<|G.pub 1 3 [.int .i64 a] kV kV ?_;intro e Z Y;refine G.callK _ _ kV call103 (Alt (cap:=.pointer (some ⟨e,0,none⟩)) (fun f:Al=>f.1==a) hF oV call104 fun f _ I _=>Big (Vs _ _ _ _)) ?_;rintro v1 u1 O rfl;unfold Bia at t;rw[t];refine G.lM none e 0 (.int .i64 a) (Vs _ _ _ _)<|G.eF' a lab C<|G.lM none e 0 (.int .i64 a) (Vs _ _ _ _)<|G.eF' a lab C<|G.lF k 0 ?_;obtain⟨m,E,rfl,L⟩:=Ac.at' (hF.mono O) (j:=k) (e:=Cm (a,1,0)) (by simp[d]);obtain⟨g,_⟩:=A05.1 d;refine G.a m E F.length K k 3 g<|G.lU (some 3) m (E+k*3) (.agg #[.int .i64 a,.int .i64 (1:Nat),.int .i64 (0:Nat)]) L<|G.eF (1:Nat) 2<|G.q [] [] rfl<|G.eF (0:Nat) 1<|G.q [] [] rfl<|G.c call55 (Bir (n:=1) oV oV) ?_;intro v3 u3 l3 H;obtain⟨b,x,n,c,b',U,P,J,g1,g2,rfl⟩:=Bgo H;exact G.drop PH.mt kV (PH.mt_le _)<|G.r (.agg #[.bool b,.slice x n c,.bool b',.slice U P J,.map (some g1),.map (some g2)]) ⟨rfl,H⟩
end
section
variable {i k:Nat}{s:List UInt8}
section rules
variable {P:Program} [A6 P] {fn:Func} {Post:Ce} {st:List KI×S} {u m:PH}
def G.convBU (e:TypeId)(l:List UInt8)(b n c:Nat)(h:Aj P (adv P st)=.conv (some (.slice e)) (some .string) (.slice (some ⟨b,0,none⟩) n c))(J:P.underlying e=some (.int .u8))(N:n=l.length)
 (I:Hc u b 0 1 (Fn l)) (k:G P fn Post (nx (adv P st) (.string (mkS l))) u m):G P fn Post st u m:=by
 refine G.ask h mV (fun E o g w hp=>?_) k;obtain⟨s,d,X,t,z,C,v⟩:=Ln g;obtain⟨dst,O,type,pos,after,guard⟩:=o;simp only at t;subst t;have L:=(hp (by simp[Hr,Acg v mV])).1;subst N;have:=run_convert_bytes_back (P:=P) w s d e ⟨b,0,none⟩ c l C J v (fun j K=>by
  have F:=I j (.int .u8 (l[j].toNat:Int)) (by simp[Fn,K]);have H:=(F 0 (.int .u8 (l[j].toNat:Int)) (by simp[Value.cells])).cell L;rw[Ed];simpa using H)
 simp[execOp,z,this]
end rules
def Zq (i:Nat):UInt8:=UInt8.ofNat (97+i)
def Wv (h:i<26):(Zq i).toNat=97+i:=by
 unfold Zq;rw[UInt8.toNat_ofNat'];omega
def S0 {u:PH}{p:List UInt8}(hi:i<26)(hp:p.length<=1000):Fn0 prog 31 [.string (mkS p),.int .i64 i] u fun v _=>v=.string (mkS (p++[Zq i])):=by
 refine Fn0.o func31<|G.remZ (i:Int) 26 (i:Int) kV oV oV (by rw[A47 oV];omega)<|G.p 97 i (97+i:Nat)<|G.convI .i64 .u8 .i64 (97+i:Nat) ((97+i:Nat):Int) kV ?_ ?_
 ·simp only[IntKind.wrap,IntKind.signed,IntKind.bits];simp;omega
 have e : [Value.int .u8 ((97+i:Nat):Int)]=Fn [Zq i]:=by unfold Fn;rw[A2u,Wv hi];rfl
 refine G.B 5 1 1 (.int .u8 0) [.int .u8 ((97+i:Nat):Int)] (by rw[e];exact Mj _) ?_;intro g j h d;rw[e]at d;exact G.convBU 5 [Zq i] g 1 1 kV kV rfl d<|G.addS p [Zq i] kV gV<|G.r _ ⟨rfl,rfl⟩
def Ai7:List UInt8:=[114,101,100]
def Qf:List UInt8:=[103,114,101,101,110]
def Xg:List UInt8:=[98,108,117,101]
def Ae7 (s:List UInt8):Bool:=Hn s&&(s==Ai7||s==Qf||s==Xg)
def Azb (h:Ae7 s=true):Hn s=true:=by
 unfold Ae7 at h;rw[A1m]at h;exact h.1
def Rj (k:Nat)(s:List UInt8):Prop:=s = []\/(k=3/\Hn s=true)\/(k=1/\∃ z:Int,z.natAbs<=1000000000/\s=Lib.itoa z)\/(k=2/\∃ q,SmW q/\s=Ae q)
def Zi (k:Nat)(s:List UInt8):Prop:=s = []\/(k=3/\Ae7 s=true)\/(k=1/\∃ z:Int,z.natAbs<=1000000000/\s=Lib.itoa z)\/(k=2/\∃ q,SmR q/\s=Ae q)
def Zi.ok (h:Zi k s):Rj k s:=h.imp id (Or.imp (fun⟨e,h⟩=>⟨e,Azb h⟩) (Or.imp id fun⟨e,q,d,g⟩=>⟨e,q,d.w,g⟩))
def Gr {q:Rat}(h:Ae q=s)(d:SmR q):Zi 2 s:=.inr (.inr (.inr ⟨rfl,q,d,h.symm⟩))
def Tb {z:Int}(h:Lib.itoa z=s)(d:z.natAbs<=1000000000):Zi 1 s:=.inr (.inr (.inl ⟨rfl,z,d,h.symm⟩))
def Ant {u:PH}{s:Src}{ts:List Int}{x:List UInt8×Nat}(h:J0 u s ts)(Q:k<=s.n)(N:1<=x.2)(O:x.2<=3) :
 Ag prog 33 [s.ptr,D9 x] u (s.M k) fun v _ R=>∃ (t:List UInt8) (L:Nat),v=.string (mkS t)/\Zi x.2 t/\L<=s.n/\R=s.M L:=by
 obtain⟨X,F⟩:=x;simp only at N O⊢;refine Ag.o func33<|G.A call10 (I4 (n:=9) h Q oV oV) ?_;rintro Z Y W V ⟨r,I,rfl,U,e,rfl⟩ _;rw[By];by_cases T:r=8
 ·exact G.eT r 8<|G.r (.string (mkS [])) ⟨[],I,rfl,.inl rfl,e,rfl⟩
 refine G.eF r 8 ?_;by_cases K:F=3
 ·subst K;refine G.eT (3:Nat) 3<|G.B 9 1 16 (.string (mkS [])) [.string (mkS Ai7),.string (mkS Qf),.string (mkS Xg)] (G6 [Ai7,Qf,Xg]) ?_;intro g H l2 d;obtain⟨i,hi⟩:∃ i,i=r%3:=⟨_,rfl⟩;have j:i<3:=oV;refine G.remZ (r:Int) 3 (i:Int) kV oV oV (by rw[A47 oV];omega)<|G.a g 0 3 3 i 1 j ?_;obtain⟨t,C,E⟩:∃ t,ElP H g (0+i*1) (.string (mkS t))/\Ae7 t=true:=by
   rcases (by omega:i=0\/i=1\/i=2) with h|h|h
   ·rw[h];exact⟨Ai7,d 0 _ rfl,jV⟩
   ·rw[h];exact⟨Qf,d 1 _ rfl,jV⟩
   rw[h];exact⟨Xg,d 2 _ rfl,jV⟩
  exact G.lU none g (0+i*1) (.string (mkS t)) C<|G.r (.string (mkS t)) ⟨t,I,rfl,.inr (.inl ⟨rfl,E⟩),e,rfl⟩
 refine G.eF F 3 ?_;by_cases J:F=1
 ·subst J;refine G.eT (1:Nat) 1<|G.B 9 1 16 (.string (mkS [])) [.string (mkS [49]),.string (mkS [50]),.string (mkS [49,48])] (G6 [[49],[50],[49,48]]) ?_;intro g H l2 d;obtain⟨i,hi⟩:∃ i,i=r%3:=⟨_,rfl⟩;have j:i<3:=oV;refine G.remZ (r:Int) 3 (i:Int) kV oV oV (by rw[A47 oV];omega)<|G.a g 0 3 3 i 1 j ?_;obtain⟨t,C,E⟩:∃ t,ElP H g (0+i*1) (.string (mkS t))/\Zi 1 t:=by
   rcases (by omega:i=0\/i=1\/i=2) with h|h|h
   ·rw[h];exact⟨[49],d 0 _ rfl,Tb (z:=1) jV fV⟩
   ·rw[h];exact⟨[50],d 1 _ rfl,Tb (z:=2) jV fV⟩
   rw[h];exact⟨[49,48],d 2 _ rfl,Tb (z:=10) jV fV⟩
  exact G.lU none g (0+i*1) (.string (mkS t)) C<|G.r (.string (mkS t)) ⟨t,I,rfl,E,e,rfl⟩
 refine G.eF F 1 ?_;obtain rfl:F=2:=oV;refine G.B 9 1 16 (.string (mkS [])) [.string (mkS [48]),.string (mkS [49]),.string (mkS [45,50]),.string (mkS [49,47,50]),.string (mkS [51]),.string (mkS [53,47,51]),.string (mkS [49]),.string (mkS [50])] (G6 [[48],[49],[45,50],[49,47,50],[51],[53,47,51],[49],[50]]) ?_;intro g H l2 d;refine G.a g 0 8 8 r 1 oV ?_;obtain⟨t,C,E⟩:∃ t,ElP H g (0+r*1) (.string (mkS t))/\Zi 2 t:=by
  rcases (by omega:r=0\/r=1\/r=2\/r=3\/r=4\/r=5\/r=6\/r=7) with h|h|h|h|h|h|h|h
  ·rw[h];exact⟨_,d 0 _ rfl,Gr (q:=0) jV ⟨jV,jV⟩⟩
  ·rw[h];exact⟨_,d 1 _ rfl,Gr (q:=1) jV ⟨jV,jV⟩⟩
  ·rw[h];exact⟨_,d 2 _ rfl,Gr (q:=-2) jV ⟨jV,jV⟩⟩
  ·rw[h];exact⟨_,d 3 _ rfl,Gr (q:=1/2) jV ⟨jV,jV⟩⟩
  ·rw[h];exact⟨_,d 4 _ rfl,Gr (q:=3) jV ⟨jV,jV⟩⟩
  ·rw[h];exact⟨_,d 5 _ rfl,Gr (q:=5/3) jV ⟨jV,jV⟩⟩
  ·rw[h];exact⟨_,d 6 _ rfl,Gr (q:=1) jV ⟨jV,jV⟩⟩
  rw[h];exact⟨_,d 7 _ rfl,Gr (q:=2) jV ⟨jV,jV⟩⟩
 exact G.lU none g (0+r*1) (.string (mkS t)) C<|G.r (.string (mkS t)) ⟨t,I,rfl,E,e,rfl⟩
end
def Ami {u:PH}{s:Src}{ts:List Int}{k:Nat}{v w x y:Value}{T:List (List UInt8×Nat)}(h:J0 u s ts)(hk:k<=s.n)(hT:Ac u v 2 (T.map D9))(hl:T.length<=1000)(Z:∀ a∈T,1<=a.2/\a.2<=3)(hw:∃ a n c,w=.slice a n c)(hx:∃ a n c,x=.slice a n c)(hy:∃ z:Int,y=.int .i64 z) :
 Ag prog 8 [s.ptr,.agg #[v,w,x,y]] u (s.M k) fun r u' m'=>∃ (ss:List (List UInt8)) (k':Nat),Ac u' r 1 (ss.map nmV)/\ss.length=T.length/\(∀ (i:Nat) (x:List UInt8×Nat) (t:List UInt8),T[i]?=some x->ss[i]?=some t->Zi x.2 t)/\k'<=s.n/\m'=s.M k':=by
 obtain⟨a,c,rfl⟩:=hT.opn;obtain⟨wa,wn,wc,rfl⟩:=hw;obtain⟨xa,xn,xc,rfl⟩:=hx;obtain⟨z,rfl⟩:=hy;rw[A03]at hT⊢;refine Ag.o func8<|G.l (ι:=Nat×Nat×List (List UInt8)×(Option Addr×Nat)) (fun i=>[(0,.v s.ptr),(5,sV i.2.2.2.1 i.2.2.1.length i.2.2.2.2),(9,sV a T.length c),(10,iV T.length),(11,iV i.1)]) (fun _=>[])
  (fun i u' m'=>i.1<=T.length/\i.2.1<=s.n/\i.2.2.1.length=i.1/\(∀ (j:Nat) (x:List UInt8×Nat) (t:List UInt8),T[j]?=some x->i.2.2.1[j]?=some t->Zi x.2 t)/\Bag m' [s.arr i.2.1,Ajq i.2.2.2.1 i.2.2.2.2 i.2.2.1])
  (fun i=>T.length-i.1) (0,k,[],(none,0))
  ⟨A1t _,hk,rfl,fun j x t _ ht=>by simp at ht,s.bag0 k ⟨PH.mt,Af.nil _ _ _,trivial⟩⟩ ?_
 rintro J ⟨i,k1,ss,⟨na,nc⟩⟩ hJ u1 m1 l1 ⟨hi,L,O,P,m⟩;simp only at hi L O P m hJ;obtain⟨m0,U,hL⟩:=m;obtain⟨rfl,K⟩:=Src.split U;by_cases N:i<T.length
 ·refine G.lT i T.length ?_;have F:T[i]?=some T[i]:=A01 N;obtain⟨C,E⟩:=Z T[i] (A09 N);obtain⟨ba,oa,rfl,ea⟩:=Ac.at' (hT.mono l1) (j:=i) (e:=D9 T[i]) (by simp[F]);generalize T[i]=q at ea F C E;refine G.a ba oa T.length c i 2 N<|G.lU (some 2) ba (oa+i*2) (.agg #[.string (mkS q.1),.int .i64 q.2]) ea<|G.D call33 (Src.apart K) (Ant (x:=q) (h.mono l1) L C E) ?_;rintro v2 u2 m2 l2 ⟨t,k2,rfl,hv,Y,rfl⟩ _;refine G.B 9 1 16 (.string (mkS [])) [.string (mkS t)] (G6 [t]) ?_;intro g3 u3 l3 e3;have H:Bag (m0.or (s.M k2)) [s.arr k2,Ajq na nc ss]:=⟨m0,Src.at K,hL⟩;obtain⟨mm,V,R⟩:=H.focus 1 rfl;rw[Ak3]at V;refine G.k 9 1 16 (.string (mkS [])) mm (ss.map nmV) [.string (mkS t)] (.slice na ss.length nc) g3 0 1 1 V e3 (G6 [t]) ?_;intro v4 m4 g;rw[show ss.map nmV++[.string (mkS t)]=(ss++[t]).map nmV by rw[A1i];rfl]at g;obtain⟨a4,c4,rfl⟩:=g.shape;rw[A03]at g⊢;have I:=R (Ajq a4 c4 (ss++[t])) m4 g;refine G.i i<|G.b (hJ (i+1,k2,ss++[t],(a4,c4)) _ _ _ cV ((l1.trans l2).trans l3) ⟨dV,Y,by dsimp only;simp[O],?_,I⟩ dV);intro j x' t' Q d;dsimp only at d;rcases A2e j ss.length with W|W
  ·rw[A1r W]at d;exact P j x' t' Q d
  rw[A18 W]at d;have X:j-ss.length=0:=by
   obtain⟨h',_⟩:=A05.1 d;simp at h';omega
  rw[X]at d;obtain rfl:j=i:=oV;rw[F]at Q;cases Q;simp at d;subst d;exact hv
 obtain rfl:i=T.length:=oV;refine G.lF T.length T.length<|G.giveP (ma:=m0) (sm:=s.M k1) kV rfl (Src.apart K) (s.h0 k k1) ?_;intro u2 l2 hm;exact G.r (.slice na ss.length nc) ⟨ss,k1,hL.list hm 0 rfl,O,P,L,rfl⟩
structure CF.One (F:CF):Prop where
 c:F.c=1
 t:∀ k,F.t k=if 0<Bk k.1 k.2 then 0 else F.s k.1*F.s k.2
theorem CF.One.num:(CF.num 1).One:=⟨rfl,fun k=>by
 show (0:Rat)=if 0<Bk k.1 k.2 then 0 else (0:Rat)*0
 split
 ·rfl
 grind⟩
def Axz (p:Par)(q:Rat)(k:Par):(CF.one1 p q).s k=if k=p then q else 0:=rfl
theorem CF.One.one1 (p:Par)(q:Rat):(CF.one1 p q).One:=⟨rfl,fun k=>by
 show (if k=(p,p) then q*q else 0)=if 0<Bk k.1 k.2 then 0 else (if k.1=p then q else 0)*(if k.2=p then q else 0)
 obtain⟨x,y⟩:=k;by_cases h:(x,y)=(p,p)
 ·obtain⟨g,j⟩:=Prod.mk.inj h;subst j;rw[g];have:=Et.refl y;rw[if_pos rfl,if_neg (by simp only;omega)];simp
 rw[if_neg h];split
 ·rfl
 by_cases d:x=p
 ·have m:y≠p:=fun e=>h (by rw[d,e]);simp only[m,if_false];grind
 simp only[d,if_false];grind⟩
theorem CF.One.mul {F G:CF}(hF:F.One)(d:G.One):(F.mul G).One/\∀ p,(F.mul G).s p=F.s p+G.s p:=by
 have e:∀ p,(F.mul G).s p=F.s p+G.s p:=fun p=>by
  show G.s p*F.c+F.s p*G.c=_;rw[hF.c,d.c];grind
 refine⟨⟨?_,fun k=>?_⟩,e⟩
 ·show F.c*G.c=1;rw[hF.c,d.c];decide +kernel
 rw[e,e];show G.t k*F.c+F.t k*G.c+I2 F G k=_;rw[hF.c,d.c,hF.t,d.t];unfold I2;split
 ·grind
 split
 ·rename_i he;rw[<-he];grind
 grind
abbrev LF:Type:=Option (Option (Par×Rat))
def LF.cf:LF->CF
 |none=>CF.num 0
 |some none=>CF.num 1
 |some (some x)=>CF.one1 x.1 x.2
def Iv (C:CF)(L:List LF):CF:=L.foldl (fun c y=>c.mul y.cf) C
def Aa0 (C:CF)(L:List LF)(x:LF):Iv C (L++[x])=(Iv C L).mul x.cf:=by unfold Iv;rw[A5w];rfl
def Aqb (F:CF):(CF.num 0).mul F=CF.num 0:=by
 rw[CF.mul_comm];exact CF.mul_zero F
def Aae:∀ L,Iv (CF.num 0) L=CF.num 0
 |[]=>rfl
 |x::L=>by
  unfold Iv;rw[A6i,Aqb];exact Aae L
def Am2 {C:CF}{L:List LF}(h:none∈L):Iv C L=CF.num 0:=by
 obtain⟨A,B,rfl⟩:=A6k h;unfold Iv;rw[A5w,A6i];have:(List.foldl (fun c (y:LF)=>c.mul (LF.cf y)) C A).mul (LF.cf none)=CF.num 0:=CF.mul_zero _;rw[this];exact Aae B
def LF.one {x:LF}(h:x≠none):x.cf.One:=by
 match x,h with
 |some none,_=>exact CF.One.num
 |some (some x),_=>exact CF.One.one1 _ _
def We:∀ {L:List LF} {C:CF},C.One->none∉L->(Iv C L).One
 |[],C,h,_=>h
 |x::L,C,h,hn=>by
  have d:x≠none:=fun e=>hn (by rw[e];exact A4l ..);unfold Iv;rw[A6i];exact We (h.mul (LF.one d)).1 fun e=>hn (A2f _ e)
noncomputable def Lk (t:List UInt8):Rat:=open Classical in if h:∃ q,SmW q/\t=Ae q then h.choose else 0
def Aa7 {t:List UInt8}(h:∃ q,SmW q/\t=Ae q):SmW (Lk t)/\Ae (Lk t)=t:=by
 unfold Lk;rw[dif_pos h];exact⟨h.choose_spec.1,h.choose_spec.2.symm⟩
def Aq0 {F:List Al}(h:(F.map (·.1)).Nodup){i:Nat}{f:Al}(d:F[i]?=some f):F.findIdx? (fun g=>g.1==f.1)=some i:=by
 obtain⟨hi,rfl⟩:=A05.1 d;refine A52.2 ⟨hi,mV,fun j m=>?_⟩;simp only[beq_iff_eq];intro e;have:=(A9e (xs:=F.map (·.1)) (h₀:=by rw[A03];omega) (h₁:=by rw[A03];omega) (i:=j) (j:=i) h).1 (by rw[A3v,A3v];exact e);omega
section
variable {t:List UInt8}{u:PH}
def My {m:PH}{b:Nat}{t:TypeId}{xs:List Value}{e:Value}(h:m b=some (.cells xs.toArray t (0,0)))(g:e.cells=xs.toArray):ElP m b 0 e:=fun i x d=>by
 refine⟨_,_,_,h,?_⟩;rw[g]at d;simpa using d
def No.up {v:Value}{F:CF}{K d:Nat}(h:No u v F K)(H:K<=d):No u v F d:=by
 obtain⟨T,Q,g,m,j,n,e,hT,E,C,z,kT,I⟩:=h;exact⟨T,Q,g,m,j,n,e,hT,E,C,z,oV,oV⟩
def SmW.dat {q:Rat}(h:SmW q):Dat q:=⟨by have:=h.num;omega,h.le⟩
def Ax7 {x:List UInt8×Nat}(d:1<=x.2)(e:x.2<=3)(h:Rj x.2 t):Fn0 prog 59 [D9 x,.string (mkS t)] u fun v _=>v=.bool true:=by
 obtain⟨s,k⟩:=x;rcases h with rfl|⟨rfl,j⟩|⟨rfl,z,m,rfl⟩|⟨rfl,q,g,rfl⟩
 ·exact Ati d e
 ·exact Awf j
 ·exact Awl m
 exact Awh g.dat
def Hz (h:Rj 2 t)(d:t≠[]):SmW (Lk t)/\Ae (Lk t)=t:=by
 rcases h with e|⟨e,_⟩|⟨e,_⟩|⟨_,q,g,e⟩
 ·exact absurd e d
 ·omega
 ·omega
 exact Aa7 ⟨q,g,e⟩
def Bq7 {F:List Al}{a:Nat}{k:Nat}(h:F.findIdx? (fun f=>f.1==a)=some k):Bia F a=(k:Int):=by unfold Bia Ad1;rw[h]
def Bgu.up {u:PH}{v:Value}{F:CF}{N d:Nat}(h:Bgu u v F N)(g:N<=d):Bgu u v F d:=by
 obtain⟨b,a,n,c,b',j,J,m,g1,g2,K,L,e,z,C,E,H,I⟩:=h;exact⟨b,a,n,c,b',j,J,m,g1,g2,K,L,e,z,C,E,H.up g (A08 _),I.up g (A08 _)⟩
end
structure Bw (T:List (List UInt8×Nat))(ss:List (List UInt8)):Prop where
 len:ss.length=T.length
 val:∀ (i:Nat) (x:List UInt8×Nat) (t:List UInt8),T[i]?=some x->ss[i]?=some t->Rj x.2 t
def Pp (ss:List (List UInt8))(f:Al):Bool:=f.2.1==1&&f.2.2==1&&(ss.getD f.1 []).isEmpty
def G4 (F:List Al)(lab:Int)(ss:List (List UInt8)):Bool:=!(decide (0<=lab)&&(ss.getD lab.toNat []).isEmpty) && !F.any (Pp ss)
def Vz {T:List (List UInt8×Nat)}{F:List Al}{lab:Int}{ss:List (List UInt8)}(hF:Da T F lab)(e:Bw T ss){f:Al}(d:f∈F):f.1<ss.length:=by
 obtain⟨n,k,h,_⟩:=hF.ok f d;obtain⟨g,_⟩:=A05.1 h;have:=e.len;omega
section
variable {F:List Al}{f:Al}{i:Nat}{ss:List (List UInt8)}{x:Par×Rat}
noncomputable def Jf (ss:List (List UInt8))(i:Nat)(f:Al):Option (Par×Rat) :=
 if f.2.1=2 then some (((i:Int),ss.getD f.1 []),1) else if ss.getD f.1 [] = []\/ss.getD f.1 [] = [48] then none else some (((i:Int),[]),Lk (ss.getD f.1 []))
noncomputable def Dx (F:List Al)(ss:List (List UInt8))(n:Nat):List (Par×Rat):=(F.zipIdx.take n).filterMap fun p=>Jf ss p.2 p.1
def Ana (F:List Al)(ss:List (List UInt8)):Dx F ss 0 = []:=rfl
def Aaj (h:F[i]?=some f):F.zipIdx[i]?=some (f,i):=by
 rw[A92,h];simp
def Aab (h:F[i]?=some f):Dx F ss (i+1)=Dx F ss i++(Jf ss i f).toList:=by
 unfold Dx;rw[A1n,Aaj h,List.filterMap_append];cases e:Jf ss i f with
 |none=>simp[e]
 |some x=>simp[e]
def F9 {n:Nat}:x∈Dx F ss n↔∃ i f,i<n/\F[i]?=some f/\Jf ss i f=some x:=by
 unfold Dx;rw[Baa];constructor
 ·rintro⟨⟨f,i⟩,hm,he⟩;obtain⟨j,e,d⟩:=A2y hm;rw[A1e]at e;rw[A7w,List.getElem_zipIdx]at d;cases d;refine⟨j,_,oV,A01 (by have:=e;simp at this;omega),?_⟩;simpa using he
 rintro⟨i,f,hi,hf,he⟩;refine⟨(f,i),?_,he⟩;have:(F.zipIdx.take n)[i]?=some (f,i):=by rw[A3y,if_pos hi,Aaj hf]
 exact A1k this
def Ow (h:Jf ss i f=some x):x.1.1=(i:Int):=by
 unfold Jf at h;split at h
 ·cases h;rfl
 split at h
 ·cases h
 cases h;rfl
def Bdl (F:List Al)(ss:List (List UInt8))(n:Nat):(Dx F ss n).length<=F.length:=by
 unfold Dx;refine A04 (List.length_filterMap_le ..) ?_;rw[A1e,List.length_zipIdx];omega
def S3 {T:List (List UInt8×Nat)}{lab:Int}(hF:Da T F lab)(m:Bw T ss)(g:f∈F)(u:f.2.1≠2)(h0:ss.getD f.1 []≠[]):SmW (Lk (ss.getD f.1 []))/\Ae (Lk (ss.getD f.1 []))=ss.getD f.1 []:=by
 obtain⟨n,k,v,d,_⟩:=hF.ok f g;have j:=Vz hF m g;have e:ss.getD f.1 []=ss[f.1]:=by simp[A02,A01 j]
 have t:=m.val f.1 _ _ v (A01 j);rw[<-e]at t;rcases d with ⟨_,rfl,_⟩|⟨h,_⟩
 ·exact Hz t h0
 exact absurd h u
end
section
variable {F:List Al}{R:List Br}{T:List (List UInt8×Nat)}{lab:Int}{ss:List (List UInt8)}{tv v:Value}{u:PH}
structure Mv (u:PH)(v tv:Value)(T:List (List UInt8×Nat))(R:List Br)(F:List Al)(lab:Int)(ss:List (List UInt8)):Prop where
 sch:H5 u v T R F lab
 ok:Bl u T R F lab
 lst:Ac u tv 1 (ss.map nmV)
 fit:Bw T ss
def Mv.mono {u e:PH}{v tv:Value}{T:List (List UInt8×Nat)}{R:List Br}{F:List Al}{lab:Int}{ss:List (List UInt8)}(h:Mv u v tv T R F lab ss)(d:PH.le u e):Mv e v tv T R F lab ss :=
 ⟨h.sch.mono d,h.ok.mono d,h.lst.mono d,h.fit⟩
def Mv.lt (h:Mv u v tv T R F lab ss):∀ l:Nat,lab=(l:Int)->l<ss.length:=fun l d=>by
 obtain⟨n,e⟩:=h.ok.l2 l d;obtain⟨g,_⟩:=A05.1 e;have:=h.fit.len;omega
def M5 {a:Option Addr}{n c:Nat}(h:Ac u (.slice a n c) 1 (ss.map nmV)){i:Nat}(hi:i<ss.length):∃ b off,a=some ⟨b,off,none⟩/\ElP u b (off+i*1) (.string (mkS (ss.getD i []))):=by
 have e:ss.getD i []=ss[i]:=by simp[A02,A01 hi]
 rw[e];exact Ac.at' h (j:=i) (by simp[nmV,A01 hi])
def Lm (h:Mv u v tv T R F lab ss) :
 Fn0 prog 24 [v,tv] u fun r _=>r=.int .i64 0:=by
 have z:=fun (N:PH) (l:PH.le u N)=>Adn (h.sch.mono l) (h.ok.mono l);obtain⟨⟨Z,O,xb,xd,xe,xf,rfl,t,V,Q⟩,ok,n,hT⟩:=h;obtain⟨ya,P,rfl⟩:=n.opn;rw[A03]at n⊢;have K:=hT.len;have t2:=ok.t2;refine Fn0.o func24<|G.c call39 (z u (PH.le_refl _)) ?_;rintro v1 u1 W rfl;refine G.nF 0 0<|G.nF ss.length T.length<|G.l (ι:=Nat) (fun i=>[(2,.p 0 0),(19,sV ya ss.length P),(20,iV ss.length),(21,iV i)])
  (fun _=>[(0,⟨27,[sV Z T.length O,sV xb R.length xd,sV xe F.length xf,iV lab]⟩)])
  (fun i N Y=>i<=ss.length/\Y=PH.mt) (fun i=>ss.length-i) 0 ⟨oV,rfl⟩ ?_
 rintro J i U u2 m2 l2 ⟨hi,rfl⟩;have m:=W.trans l2;by_cases d:i<ss.length
 ·refine G.lT i ss.length ?_;obtain⟨b,off,rfl,e⟩:=M5 (n.mono m) d;refine G.a b off ss.length P i 1 d<|G.lU none b (off+i*1) (.string (mkS (ss.getD i []))) e ?_;have g:T[i]?=some T[i]:=A01 oV;have C:=ok.att.kind T[i] (A09 oV);have E:=hT.val i _ _ g (A01 d);rw[show ss[i]=ss.getD i [] by simp[A02,A01 d]]at E;obtain⟨H,L,rfl,I⟩:=Ac.at' (t.mono m) (j:=i) (e:=D9 T[i]) (by simp[g]);generalize T[i]=x at g C E I;refine G.a H L T.length O i 2 oV<|G.lU (some 2) H (L+i*2) (D9 x) I<|G.c call59 (Ax7 C.1 C.2 E) ?_;rintro v3 u3 X rfl;exact G.i i<|G.b (U (i+1) _ _ _ cV (l2.trans X) ⟨oV,rfl⟩ oV)
 obtain rfl:i=ss.length:=oV;exact G.lF ss.length ss.length<|G.r (.int .i64 0) ⟨rfl,rfl⟩
def Aig {u m:PH}{v cap:Value}{T:List Al}{fid:Nat}(p:Al->Bool)(r:Bool)(j:T.any p=r)(h:Ac u v 3 (T.map Cm))(z:T.length<=1000000)
 (d:∀ args w,(callFunc fid args).run prog w=.ok (.enter fid args) w) (t:∀ f∈T,∀ n,PH.le u n->FnK prog fid [Cm f,cap] n m fun v _=>v=.bool (p f)) :
 FnK prog 61 [v,.func (.func fid) #[] #[cap]] u m fun C _=>C=.bool r:=by
 obtain⟨a,c,rfl⟩:=h.opn;refine FnK.of func61 kV kV<|G.callK _ _ kV call103 (Alt (cap:=cap) p h z d t) ?_;rintro I H E rfl;cases r with
 |true =>
  obtain⟨x,g,hp⟩:=A5h.1 j;have:0<=Ad1 p T:=by
   unfold Ad1;cases e:T.findIdx? p with
   |none=>exact absurd hp (by rw[List.findIdx?_eq_none_iff.1 e x g];simp)
   |some k=>simp only;omega
  exact G.hT (Ad1 p T) 0<|G.r (.bool true) ⟨rfl,rfl⟩
 |false =>
  have h0:=List.any_eq_false.1 j;rw[Abp fun x g=>by simpa using h0 x g];exact G.hF (-1) 0<|G.r (.bool false) ⟨rfl,rfl⟩
def Axg {u m:PH}{f:Al}{b:Nat}{j:Option Addr}{g:Nat}(I:ElP m b 0 (.slice j ss.length g))(H:Ac u (.slice j ss.length g) 1 (ss.map nmV))(h:f.1<ss.length) :
 FnK prog 62 [Cm f,.pointer (some ⟨b,0,none⟩)] u m fun v _=>v=.bool (Pp ss f):=by
 obtain⟨d,t,z⟩:=f;simp only at h;refine FnK.of func62 kV kV ?_;unfold Pp;simp only;by_cases C:t=1
 ·subst C;refine G.eT (1:Nat) 1 ?_;by_cases E:z=1
  ·subst E;refine G.eT (1:Nat) 1<|G.lM none b 0 (.slice j ss.length g) I ?_;obtain⟨n,off,rfl,e⟩:=M5 H h;refine G.a n off ss.length g d 1 h<|G.lU none n (off+d*1) (.string (mkS (ss.getD d []))) e ?_;by_cases h0:ss.getD d [] = []
   ·exact G.q (ss.getD d []) [] h0<|G.r (.bool true) ⟨rfl,by rw[h0];rfl⟩
   refine G.w (ss.getD d []) [] h0 ?_;exact G.r (.bool false) ⟨rfl,by
    cases hx:ss.getD d [] with
    |nil=>exact absurd hx h0
    |cons x y=>rfl⟩
  exact G.eF z 1<|G.r (.bool false) ⟨rfl,by simp[E]⟩
 exact G.eF t 1<|G.r (.bool false) ⟨rfl,by simp[C]⟩
def Yv (h:Mv u v tv T R F lab ss) :
 Fn0 prog 26 [v,tv] u fun r _=>r=.bool (G4 F lab ss):=by
 have t:=Lm h;have L:=h.lt;obtain⟨⟨xa,xc,xb,xd,xe,xf,rfl,V,U,H⟩,ok,C,hT⟩:=h;obtain⟨z,g,rfl⟩:=C.opn;rw[A03]at C t⊢;have f2:=ok.f2;refine Fn0.o func26<|G.c call24 t ?_;rintro v1 Q N rfl;refine G.nF 0 0 ?_;have d:∀ (m:PH) (b:Nat),ElP m b 0 (.slice z ss.length g)->∀ O,PH.le u O->FnK prog 61 [.slice xe F.length xf,.func (.func 62) #[] #[.pointer (some ⟨b,0,none⟩)]] O m fun v' _=>v'=.bool (F.any (Pp ss)):=fun m b W O l =>
  Aig (Pp ss) _ rfl (H.mono l) oV call62 fun f X Z Y=>Axg W (C.mono (l.trans Y)) (Vz ok.feat hT X)
 have j:∀ b:Nat,ElP (PH.mt.upd b (.cells [Value.slice z ss.length g].toArray 28 (0,0))) b 0 (.slice z ss.length g):=fun b=>My (xs:=[.slice z ss.length g]) (Ab _ _ _) rfl;unfold G4;by_cases P:lab<0
 ·refine G.hF lab 0<|G.pub 1 28 [.slice z ss.length g] kV kV ?_;intro b I J;refine G.callK _ _ kV call61 (d _ b (j b) Q N) ?_;rintro v2 u2 l2 rfl;rw[decide_eq_false oV];cases F.any (Pp ss) with
  |true =>
   exact G.drop PH.mt kV (PH.mt_le _)<|G.r (.bool false) ⟨rfl,rfl⟩
  |false =>
   exact G.drop PH.mt kV (PH.mt_le _)<|G.r (.bool true) ⟨rfl,rfl⟩
 obtain⟨l,rfl⟩:∃ l:Nat,lab=(l:Int):=⟨lab.toNat,oV⟩;have n:=L l rfl;rw[decide_eq_true oV,A23];refine G.hT l 0 ?_;obtain⟨E,off,rfl,e⟩:=M5 (C.mono N) n;refine G.a E off ss.length g l 1 n<|G.lU none E (off+l*1) (.string (mkS (ss.getD l []))) e ?_;by_cases h0:ss.getD l [] = []
 ·exact G.q (ss.getD l []) [] h0<|G.r (.bool false) ⟨rfl,by rw[h0];rfl⟩
 have K:(ss.getD l []).isEmpty=false:=by
  cases hx:ss.getD l [] with
  |nil=>exact absurd hx h0
  |cons x y=>rfl
 rw[K];refine G.w (ss.getD l []) [] h0<|G.pub 1 28 [.slice (some ⟨E,off,none⟩) ss.length g] kV kV ?_;intro b I J;refine G.callK _ _ kV call61 (d _ b (j b) Q N) ?_;rintro v2 u2 l2 rfl;cases F.any (Pp ss) with
 |true =>
  exact G.drop PH.mt kV (PH.mt_le _)<|G.r (.bool false) ⟨rfl,rfl⟩
 |false =>
  exact G.drop PH.mt kV (PH.mt_le _)<|G.r (.bool true) ⟨rfl,rfl⟩
def Aql (h:Mv u v tv T R F lab ss) :
 Fn0 prog 51 [v,tv] u fun r m=>∃ d g,r=.func (.func 95) #[] #[.pointer (some ⟨d,0,none⟩),.pointer (some ⟨g,0,none⟩)]/\ElP m d 0 v/\ElP m g 0 tv:=by
 obtain⟨⟨n,z,t,C,E,H,rfl,V,Q,P⟩,ok,U,hT⟩:=h;obtain⟨I,J,rfl⟩:=U.opn;rw[A03];have W:Ag prog 51 [.agg #[.slice n T.length z,.slice t R.length C,.slice E F.length H,.int .i64 lab],.slice I ss.length J] u PH.mt (fun r m L=>∃ d g,r=.func (.func 95) #[] #[.pointer (some ⟨d,0,none⟩),.pointer (some ⟨g,0,none⟩)]/\ElP L d 0 (.agg #[.slice n T.length z,.slice t R.length C,.slice E F.length H,.int .i64 lab])/\ElP L g 0 (.slice I ss.length J)):=by
  refine Ag.o func51<|G.pastI<|G.pub 0 27 [.slice n T.length z,.slice t R.length C,.slice E F.length H,.int .i64 lab] kV kV ?_;intro d Y X;refine G.pub 1 28 [.slice I ss.length J] kV kV ?_;intro g Z j;have K:d≠g:=fun e=>by subst e;rw[Ab]at j;cases j
  exact G.r (.func (.func 95) #[] #[.pointer (some ⟨d,0,none⟩),.pointer (some ⟨g,0,none⟩)]) ⟨d,g,rfl,My (xs:=[.slice n T.length z,.slice t R.length C,.slice E F.length H,.int .i64 lab]) (by rw[Ad _ _ K,Ab]) rfl,My (xs:=[.slice I ss.length J]) (Ab _ _ _) rfl⟩
 refine Fn0.weak W.giveAll ?_;rintro r m ⟨u1,m1,_,l2,d,g,e,N,O⟩;exact⟨d,g,e,N.mono l2,O.mono l2⟩
end
section
variable {F:List Al}{R:List Br}{T:List (List UInt8×Nat)}{a:Option Addr}{c k n:Nat}{l:List Nat}{m m0 u:PH}
def nmA (j:Nat):List UInt8:=[97]++[Zq j]
def nmR (j:Nat):List UInt8:=[114]++[Zq j]
def Axx (h:n<=6):Rc ((List.range n).map nmA):=by
 have d:∀ n:Fin 7,(((List.range n.val).map nmA).all Hn&&decide ((List.range n.val).map nmA).Nodup)=true:=jV
 exact Sc (d ⟨n,oV⟩)
def Ayn (h:n<=6):Rc ((List.range n).map nmR):=by
 have d:∀ n:Fin 7,(((List.range n.val).map nmR).all Hn&&decide ((List.range n.val).map nmR).Nodup)=true:=jV
 exact Sc (d ⟨n,oV⟩)
structure TOK (T:List (List UInt8×Nat)):Prop where
 nm:T.map (·.1)=(List.range T.length).map nmA
 kd:∀ a∈T,1<=a.2/\a.2<=3
 le:T.length<=6
def TOK.nil:TOK []:=⟨rfl,fun a d=>by simp at d,mV⟩
def TOK.snoc (h:TOK T)(d:1<=k)(g:k<=3)(t:T.length<6):TOK (T++[(nmA T.length,k)]):=by
 refine⟨?_,fun a j=>?_,gV⟩
 ·rw[A1i,h.nm,A1d,A20,A5d,A1i];rfl
 rcases A1h.1 j with e|e
 ·exact h.kd a e
 obtain rfl:=A12.1 e;exact⟨d,g⟩
structure TOM (N:Nat)(T:List (List UInt8×Nat)):Prop extends TOK T where
 lem:T.length<=N
def TOM.nil (N:Nat):TOM N []:=⟨TOK.nil,A1t _⟩
def TOM.snocm {N:Nat}(h:TOM N T)(d:1<=k)(e:k<=3)(j:T.length<N)(g:N<=6):TOM N (T++[(nmA T.length,k)]) :=
 ⟨h.toTOK.snoc d e oV,by rw[A1d,A20];omega⟩
def TOK.att (h:TOK T):Aq4 T:=⟨by rw[h.nm];exact Axx h.le,h.kd⟩
structure LOK (l:List Nat)(n:Nat):Prop where
 asc:l.Pairwise (· < ·)
 lt:∀ a∈l,a<n
 len:l.length<=n
def LOK.nil:LOK [] 0:=⟨List.Pairwise.nil,fun a d=>by simp at d,mV⟩
def LOK.up (h:LOK l n):LOK l (n+1):=⟨h.asc,fun a d=>by have:=h.lt a d;omega,by have:=h.len;omega⟩
def LOK.snoc (h:LOK l n):LOK (l++[n]) (n+1):=by
 refine⟨A35.2 ⟨h.asc,A6f _ _,fun a d b g=>?_⟩,fun a d=>?_,by simp;have:=h.len;omega⟩
 ·obtain rfl:=A12.1 g;exact h.lt a d
 rcases A1h.1 d with e|e
 ·have:=h.lt a e;omega
 obtain rfl:=A12.1 e;omega
def LOK.zero (h:0<n):LOK [0] n:=⟨A6f _ _,fun a d=>by
 obtain rfl:=A12.1 d;exact h,gV⟩
structure ROK (u:PH)(n:Nat)(R:List Br):Prop where
 nm:R.map (·.1)=(List.range R.length).map nmR
 ne:∀ r∈R,r.2.1≠[]
 ok:∀ r∈R,LOK r.2.1 n
 all:∀ a<n,∃ r∈R,a∈r.2.1
 at':∀ r∈R,Ac u (.slice r.2.2.1 r.2.1.length r.2.2.2) 1 (Ai r.2.1)
def ROK.nil :ROK u 0 []:=⟨rfl,fun a d=>by simp at d,fun a d=>by simp at d,fun a d=>oV,fun a d=>by simp at d⟩
def ROK.mono {u d:PH}{n:Nat}{R:List Br}(h:ROK u n R)(e:PH.le u d):ROK d n R:=⟨h.nm,h.ne,h.ok,h.all,fun r g=>(h.at' r g).mono e⟩
def ROK.snoc {n j:Nat}(h:ROK u n R)(H:n<=j)(C:LOK l j)(z:l≠[])(g:∀ a,n<=a->a<j->a∈l)(v:Ac u (.slice a l.length c) 1 (Ai l)):ROK u j (R++[(nmR R.length,l,(a,c))]):=by
 refine⟨?_,fun r d=>?_,fun r d=>?_,fun a t=>?_,fun r d=>?_⟩
 ·rw[A1i,h.nm,A1d,A20,A5d,A1i];rfl
 ·rcases A1h.1 d with e|e
  ·exact h.ne r e
  obtain rfl:=A12.1 e;exact z
 ·rcases A1h.1 d with e|e
  ·have:=h.ok r e;exact⟨this.asc,fun a t=>by have:=this.lt a t;omega,by have:=this.len;omega⟩
  obtain rfl:=A12.1 e;exact C
 ·rcases A2e a n with e|e
  ·obtain⟨r,d,E⟩:=h.all a e;exact⟨r,A24 _ d,E⟩
  exact⟨_,A6v _ (A12.2 rfl),g a e t⟩
 rcases A1h.1 d with e|e
 ·exact h.at' r e
 obtain rfl:=A12.1 e;exact v
def ROK.rel (h:ROK u n R)(z:n<=6)(j:R.length<=6):Py u n R:=by
 refine⟨by rw[h.nm];exact Ayn j,h.ne,fun r d=>(h.ok r d).lt,fun r d=>by have:=(h.ok r d).len;omega,fun r d k x y t v=>?_,h.all,h.at'⟩;obtain⟨e,rfl⟩:=A05.1 t;obtain⟨g,rfl⟩:=A05.1 v;exact A3n.1 (h.ok r d).asc k (k+1) e g oV
structure FOK (T:List (List UInt8×Nat))(F:List Al)(lab:Int)(a:Nat):Prop where
 feat:Da T F lab
 lt:∀ f∈F,f.1<a
 len:F.length<=a
 l1:-1<=lab
 l2:∀ l:Nat,lab=(l:Int)->l<a/\∃ n,T[l]?=some (n,2)
def FOK.nil :FOK T [] (-1) 0:=⟨⟨fun f d=>by simp at d,mV⟩,fun f d=>by simp at d,mV,oV,fun l e=>oV⟩
def FOK.skip {lab:Int}{a:Nat}(h:FOK T F lab a):FOK T F lab (a+1):=⟨h.feat,fun f e=>by have:=h.lt f e;omega,by have:=h.len;omega,h.l1,fun l g=>by
 obtain⟨j,d⟩:=h.l2 l g;exact⟨oV,d⟩⟩
def FOK.lab {lab:Int}{a:Nat}{n:List UInt8}(h:FOK T F lab a)(j:T[a]?=some (n,2)):FOK T F (a:Int) (a+1):=by
 refine⟨⟨fun f d=>?_,h.feat.nodup⟩,fun f d=>by have:=h.lt f d;omega,by have:=h.len;omega,oV,fun l v=>?_⟩
 ·obtain⟨n,k,e,g,t⟩:=h.feat.ok f d;exact⟨n,k,e,g,by have:=h.lt f d;omega⟩
 obtain rfl:l=a:=oV;exact⟨oV,n,j⟩
def FOK.put {lab:Int}{a k:Nat}{n:List UInt8}{g:Nat×Nat}(h:FOK T F lab a)(t:T[a]?=some (n,k))(v:(g.1=1/\k=2/\g.2<=1)\/(g.1=2/\k=3/\g.2=0)):FOK T (F++[(a,g)]) lab (a+1):=by
 refine⟨⟨fun f d=>?_,?_⟩,fun f d=>?_,by simp;have:=h.len;omega,h.l1,fun l z=>?_⟩
 ·rcases A1h.1 d with e|e
  ·exact h.feat.ok f e
  obtain rfl:=A12.1 e;refine⟨n,k,t,v,fun e=>?_⟩;have:=(h.l2 a e.symm).1;omega
 ·rw[A1i];refine A4p.2 ⟨h.feat.nodup,mV,fun x C y E=>?_⟩;obtain⟨f,d,rfl⟩:=A1b.1 C;have:=h.lt f d;simp at E;omega
 ·rcases A1h.1 d with e|e
  ·have:=h.lt f e;omega
  obtain rfl:=A12.1 e;show a<a+1;omega
 obtain⟨H,j⟩:=h.l2 l z;exact⟨oV,j⟩
def Aw6 {lab:Int}(hT:TOK T)(g:ROK u T.length R)(hF:FOK T F lab T.length)(h0:0<T.length)(e:0<R.length)(d:R.length<=6):Bl u T R F lab :=
 ⟨hT.att,g.rel hT.le d,hF.feat,h0,by have:=hT.le;omega,e,d,by have:=hF.len;have:=hT.le;omega,hF.l1,fun l h=>(hF.l2 l h).2⟩
def Acx (a:Option Addr)(c:Nat)(T:List (List UInt8×Nat)):Arr:=⟨.slice a T.length c,73,2,T.map D9⟩
def Zn (a:Option Addr)(c:Nat)(R:List Br):Arr:=⟨.slice a R.length c,70,2,R.map Hs⟩
def Bjq (a:Option Addr)(c:Nat)(F:List Al):Arr:=⟨.slice a F.length c,75,3,F.map Cm⟩
def Agt (a:Option Addr)(c:Nat)(l:List Nat):Arr:=⟨.slice a l.length c,3,1,Ai l⟩
def Ath :(Acx a c T).At m0 m=Af m0 m (.slice a T.length c) 73 2 (T.map D9):=rfl
theorem Aj5 :(Zn a c R).At m0 m=Af m0 m (.slice a R.length c) 70 2 (R.map Hs):=rfl
def Acb :(Bjq a c F).At m0 m=Af m0 m (.slice a F.length c) 75 3 (F.map Cm):=rfl
def Aca :(Agt a c l).At m0 m=Af m0 m (.slice a l.length c) 3 1 (Ai l):=rfl
def Ak2 (x:List UInt8×Nat):A9 2 [D9 x]:=by
 intro e d;simp at d;subst d;exact⟨rfl,fun y g=>by simp[D9,Value.cells]at g;rcases g with rfl|rfl<;>rfl⟩
def Sh (x:Br):A9 2 [Hs x]:=by
 intro e d;simp at d;subst d;exact⟨rfl,fun y g=>by simp[Hs,Value.cells]at g;rcases g with rfl|rfl<;>rfl⟩
def Kg (x:Al):A9 3 [Cm x]:=by
 intro e d;simp at d;subst d;exact⟨rfl,fun y g=>by simp[Cm,Value.cells]at g;rcases g with rfl|rfl|rfl<;>rfl⟩
end
section
variable {A T post:List Nat}{i x y:Nat}{listed:Array Bool}{o:Oper}{s s0:S}
variable [Cl] [Co]
section
variable {P:Program} {id:Nat} {ops:Array Oper} {dr:Bool} {Fin:S->PH->PH->Prop} {c:Cx} {Q:Exit->Act->World->Prop}
def Ob.append {l2:List Nat}:∀ {d:List Nat} {s:S} {u m:PH},Ob P id ops dr (fun s u m=>Ob P id ops dr Fin l2 s u m) d s u m->Ob P id ops dr Fin (d++l2) s u m
 |[],s,u,m,h=>by
  cases h with
  |nil h=>exact h
 |i::d,s,u,m,h=>by
  cases h with
  |auto ho hg hd he hl=>exact .auto ho hg hd he hl.append
  |skip ho hg hd hl=>exact .skip ho hg hd hl.append
  |ask ho hg hd hv hs hal hw hl=>exact .ask ho hg hd hv hs hal hw hl.append
  |big ho hg hd hv hs hf hk hw hl=>exact .big ho hg hd hv hs hf hk hw fun v n j e g=>(hl v n j e g).append
def Ob.fin {d:S->PH->PH->Prop}(e:∀ s u m,Fin s u m->d s u m):∀ {l:List Nat} {s:S} {u m:PH},Ob P id ops dr Fin l s u m->Ob P id ops dr d l s u m
 |[],s,u,m,h=>by
  cases h with
  |nil h=>exact .nil (e _ _ _ h)
 |i::l1,s,u,m,h=>by
  cases h with
  |auto ho hg hd he hl=>exact .auto ho hg hd he (hl.fin e)
  |skip ho hg hd hl=>exact .skip ho hg hd (hl.fin e)
  |ask ho hg hd hv hs hal hw hl=>exact .ask ho hg hd hv hs hal hw (hl.fin e)
  |big ho hg hd hv hs hf' hk hw hl=>exact .big ho hg hd hv hs hf' hk hw fun v t n g j=>(hl v t n g j).fin e
structure Km (ops:Array Oper)(listed:Array Bool)(T:List Nat):Prop where
 sz:listed.size=ops.size
 mem:∀ i,i<ops.size->(listed.getD i true=false↔i∈T)
 lt:∀ i∈T,i<ops.size
 nd:T.Nodup
 cl:Ag7 ops listed
theorem Tz :i∈Region.ready .any ops listed↔i<ops.size/\listed.getD i true=false/\∃ o,ops[i]?=some o/\∀ e∈o.after,Region.binds .any e=true->listed.getD e.on false=true:=by
 simp only[Region.ready,A7a,A6q,A1m,A3w];refine and_congr_right fun hi=>and_congr_right fun _=>?_;have d:ops[i]?=some ops[i]:=A2v hi;rw[d];simp only[A4c,A4w,Bab];constructor
 ·grind
 grind
theorem Km.no (h:Km ops listed T)(g:x∈T):listed.getD x false=true->False:=by
 intro d;have e:=h.lt x g;have:=(h.mem x e).2 g;have j:x<listed.size:=by grind
 simp only[A2t,A2v j,A4w]at d this;rw[this]at d;cases d
theorem Km.next {A B:List Nat}(h:Km ops listed (A++i::B))(N:ops[i]?=some o)(I:∀ e∈o.after,Region.binds .any e=true->listed.getD e.on false=true):Km ops (listed.setIfInBounds i true) (A++B):=by
 obtain⟨F,hT,v,L,z⟩:=h;have n:(A++B).Nodup/\i∉A++B:=by grind
 refine⟨by simpa using F,fun j g=>?_,fun j g=>v j ?_,n.1,?_⟩
 ·by_cases d:j=i
  ·simp_all
  have:=hT j g;simp only[A2t,A2m (fun h=>d h.symm)]at this⊢;rw[this];simp[d]
 ·grind
 intro j g o' E e K J;have t:∀ k,listed.getD k false=true->(listed.setIfInBounds i true).getD k false=true:=by
  intro k H;by_cases C:k=i
  ·grind
  simp only[A2t,A2m (fun h=>C h.symm)]at H⊢;exact H
 by_cases d:j=i
 ·grind
 refine t _ (z j ?_ o' E e K J);simp only[A2t,A2m (fun h=>d h.symm)]at g⊢;exact g
def Km.swaps (h:Km ops listed T)(v:∀ x∈A,x∈T)(C:ops[i]?=some o)(n:∀ e∈o.after,Region.binds .any e=true->listed.getD e.on false=true)(z:∀ x∈A,Ge ops s0 x i=true):∀ x∈A,Aga ops s0 x i=true:=by
 intro x t;have hp:=z x t;unfold Ge at hp;simp only[A1m,A4b]at hp;have j:∀ o',ops[i]?=some o'->∀ e∈o'.after,Region.binds .any e=true->listed.getD e.on false=true:=fun o' g=>by rw[C]at g;obtain rfl:=A28 g;exact n
 rcases hp.2 with (d|d)|d
 ·exact (h.no (v x t) (Xi j d)).elim
 ·exact d
 exact (h.no (v x t) (Ib h.cl ops.size i j d)).elim
def Km.any {s0:S}(d:On s0)(g:(List.range ops.size).all (Kd ops)=true)(hF:∀ s u m ρ a w,Fin s u m->Rel c s u m ρ a w->Q .normal a w){n:Nat}{T:List Nat}{listed:Array Bool}{s:S}{u m:PH}{ρ:Nat->Nat}{a:Act}{w:World}(h:Km ops listed T)(v:T.length=n)
 (t:T.Pairwise (fun x y=>Ge ops s0 x y=true)) (e:Gb ops s0 s) (j:Ob P id ops true Fin T s u m) (z:Rel c s u m ρ a w):Go.wpAny P .any ops Q n listed a w :=
 Ob.wpAny d g hF n T listed v h.sz h.mem h.lt h.nd h.cl t e j z
def Km.perm {T d:List Nat}(h:Km ops listed T)(hp:T.Perm d):Km ops listed d :=
 ⟨h.sz,fun i hi=>(h.mem i hi).trans hp.mem_iff,fun i hi=>h.lt i (hp.mem_iff.2 hi),hp.nodup_iff.1 h.nd,h.cl⟩
theorem Km.first {t:Nat}(h:Km ops listed (t::T))(n:(List.range ops.size).all (Kd ops)=true)(H:∀ x∈T,dir ops t x=false):t∈Region.ready .any ops listed:=by
 have hp:=h.lt t mV;refine Tz.2 ⟨hp,(h.mem t hp).2 mV,ops[t],A2v hp,fun e C v=>?_⟩;rw[A1o]at n;have d:=n t (by simpa using hp);unfold Kd at d;rw[A2v hp]at d;simp only[A1o]at d;have:=d e (by simpa using C);simp only[v,A72,A80,A1m]at this;have g:e.on<ops.size:=A8f▸this.1;have F:e.on≠t:=fun h=>by rw[h]at this;simp at this
 have z:dir ops t e.on=true:=by
  unfold dir;rw[A2v hp];simp only[A5h,A1m];exact⟨e,by simpa using C,v,mV⟩
 cases hl:listed.getD e.on true with
 |true =>
  have E:e.on<listed.size:=by have:=h.sz;omega
  simp only[A2t,A2v E]at hl⊢;exact hl
 |false =>
  have j:=(h.mem e.on g).1 hl;rcases A1g.1 j with j|j
  ·grind
  grind
def Gq (h:Ge ops s0 x y=true):dir ops x y=false:=by
 unfold Ge at h;simp only[A1m,A3w]at h;exact h.1.1
def Qh (P:Program)(id:Nat)(ops:Array Oper)(post:List Nat)(Fin:S->PH->PH->Prop):Nat->List Nat->S->PH->PH->Prop
 |0,_,s,u,m=>Ob P id ops true Fin post s u m
 |n+1,A,s,u,m=>∀ a∈A,(∀ b∈A,b≠a->bef ops ops.size a b=false)->Ob P id ops true (Qh P id ops post Fin n (A.erase a)) [a] s u m
theorem Ob.wpAnyT (J:On s0)(hE:(List.range ops.size).all (Kd ops)=true)(hF:∀ s u m ρ a w,Fin s u m->Rel c s u m ρ a w->Q .normal a w){post A0:List Nat}(V:∀ y∈post,∀ a∈A0,bef ops ops.size y a=true)(a3:∀ a∈A0,∀ y∈post,dir ops a y=false) :
 ∀ (n k:Nat) (A j:List Nat) (listed:Array Bool) {s:S} {u m:PH} {ρ:Nat->Nat} {a:Act} {w:World},A.length=k->(∀ x∈A,x∈A0)->A.Pairwise (fun x y=>dir ops x y=false)->j.length+(k+post.length)=n->Km ops listed (j++(A++post)) ->
  (j++post).Pairwise (fun x y=>Ge ops s0 x y=true)->(∀ x∈j,∀ y∈A,Ge ops s0 x y=true)->Gb ops s0 s->Ob P id ops true (Qh P id ops post Fin k A) j s u m->Rel c s u m ρ a w->Go.wpAny P .any ops Q n listed a w:=by
 intro n;induction n with
 |zero =>
  intro k A j listed s u m ρ a w U I N K d Z F C hO W;obtain rfl:k=0:=oV;obtain rfl:=A2l U;exact d.any J hE hF (by simp only[A1d,A30];omega) Z C (Ob.append hO) W
 |succ n ih =>
  intro k A j listed s u m ρ a w U I N K d Z F C hO W;cases A with
  |nil =>
   simp at U;subst U;exact d.any J hE hF gV Z C (Ob.append hO) W
  |cons b A' =>
   obtain⟨k,rfl⟩:∃ k',k=k'+1:=⟨k-1,by simp at U;omega⟩;refine⟨fun L=>?_,fun i hi=>?_⟩
   ·cases j with
    |nil =>
     have:=Km.first (t:=b) (T:=A'++post) d hE fun x v=>by
      rcases A1h.1 v with v|v
      ·simp_all
      grind
     rw[L]at this;cases this
    |cons t T' =>
     have:=Km.first (t:=t) (T:=T'++(b::A'++post)) d hE fun x v=>by
      rcases A1h.1 v with v|v
      ·exact Gq (A34 Z (by simp[v]))
      rcases A1h.1 v with v|v
      ·exact Gq (F t mV x v)
      exact Gq (A34 Z (by simp[v]))
     rw[L]at this;cases this
   obtain⟨h1,h2,o,ho,z⟩:=Tz.1 hi;have E:=(d.mem i h1).1 h2;rcases A1h.1 E with E|E
   ·obtain⟨Y,B1,rfl⟩:=A6k E;have g:Km ops listed (Y++i::(B1++(b::A'++post))):=by grind
    have a0:(Y++i::(B1++post)).Pairwise (fun x y=>Ge ops s0 x y=true):=by grind
    have X:=g.swaps (A:=Y) (s0:=s0) (fun x v=>by simp[v]) ho z fun x v=>(A35.1 a0).2.2 x v i mV;have O:=Ob.bubble J Y X W.lv C hO;refine wpOp_mono (fun a' w' ⟨s',u',m',ρ',r1,ra,r2⟩=>?_) (O.step (Q:=Q) W);refine ih (k+1) (b::A') (Y++B1) _ U I N (by simp at K⊢;omega) (by rw[A2k];exact g.next ho z) ?_ (fun x v y hy=>F x (by simp at v⊢;rcases v with h|h<;>simp[h]) y hy) (C.trans ra) r2 r1
    rw[A2k];exact a0.sublist (List.Sublist.append_left (List.sublist_cons_self i _) Y)
   rcases A1h.1 E with E|E
   ·have a2:(j++(b::A'++post)).Perm (j++i::((b::A').erase i++post)):=by
     refine List.Perm.append_left j ?_;rw[<-A4x];exact (List.perm_cons_erase E).append_right post
    have g:=d.perm a2;have X:=g.swaps (A:=j) (s0:=s0) (fun x v=>by simp[v]) ho z fun x v=>F x v i E;have R:∀ b'∈b::A',b'≠i->bef ops ops.size i b'=false:=fun b' a1 a4=>by
     cases e:bef ops ops.size i b' with
     |false=>rfl
     |true=>exact (d.no (x:=b') (by simp at a1⊢;rcases a1 with h|h<;>simp[h]) (Ib d.cl ops.size i (fun o' H=>by rw[ho]at H;obtain rfl:=A28 H;exact z) e)).elim
    have O:=Ob.bubble (B:=[]) J j X W.lv C (Ob.append (l2:=[i]) (hO.fin fun s u m h=>h i E R));refine wpOp_mono (fun a' w' ⟨s',u',m',ρ',r1,ra,r2⟩=>?_) (O.step (Q:=Q) W);rw[A1x]at r2;exact ih k ((b::A').erase i) j _ (by rw[List.length_erase_of_mem E];simp at U⊢;omega) (fun x v=>I x (A9x v)) (N.sublist List.erase_sublist) oV (g.next ho z) Z (fun x v y hy=>F x v y (A9x hy)) (C.trans ra) r2 r1
   exfalso;exact d.no (x:=b) mV (Ib d.cl ops.size i (fun o' H=>by rw[ho]at H;obtain rfl:=A28 H;exact z) (V i E b (I b mV)))
def Akn (ops:Array Oper):List Nat->Bool
 |[]=>true
 |x::l=>l.all (fun y=>!dir ops x y)&&Akn ops l
def W6:∀ {l:List Nat},Akn ops l=true->l.Pairwise (fun x y=>dir ops x y=false)
 |[],_=>.nil
 |x::l,h=>by
  unfold Akn at h;rw[A1m,A1o]at h;exact .cons (fun y d=>by simpa using h.1 y d) (W6 h.2)
def Alo (ops:Array Oper)(s:S)(pre A post:List Nat):Bool :=
 Nat.beq (pre.length+(A.length+post.length)) ops.size&&(List.range ops.size).all (fun i=>(pre++(A++post)).contains i)&&(pre++(A++post)).all (fun i=>Nat.blt i ops.size)&&decide ((pre++(A++post)).Nodup)&&Qp ops s (pre++post) &&
  pre.all (fun x=>A.all fun y=>Ge ops s x y)&&Akn ops A&&(List.range ops.size).all (Kd ops)&&post.all (fun y=>A.all fun a=>bef ops ops.size y a)&&A.all (fun a=>post.all fun y=>!dir ops a y)
def Ob.uncons {l:List Nat}{u m:PH}(h:Ob P id ops dr Fin (i::l) s u m):Ob P id ops dr (fun s u m=>Ob P id ops dr Fin l s u m) [i] s u m:=by
 cases h with
 |auto ho hg hd he hl=>exact .auto ho hg hd he (.nil hl)
 |skip ho hg hd hl=>exact .skip ho hg hd (.nil hl)
 |ask ho hg hd hv hs hal hw hl=>exact .ask ho hg hd hv hs hal hw (.nil hl)
 |big ho hg hd hv hs hf hk hw hl=>exact .big ho hg hd hv hs hf hk hw fun v j g d e=>.nil (hl v j g d e)
def Qh.one {u m:PH}(h:Ob P id ops true Fin (x::post) s u m):Qh P id ops post Fin 1 [x] s u m:=fun a d _=>by
 obtain rfl:a=x:=by simpa using d
 rw[A3a];exact h.uncons
def Qh.two {u m:PH}(h:Ob P id ops true Fin (x::y::post) s u m)(d:bef ops ops.size y x=false->Ob P id ops true Fin (y::x::post) s u m):Qh P id ops post Fin 2 [x,y] s u m:=fun a g j=>by
 by_cases e:a=x
 ·subst e;rw[A3a];exact h.uncons.fin fun _ _ _ h=>.one h
 obtain rfl:a=y:=by simpa[e] using g
 rw[List.erase_cons_tail (by simpa using fun h=>e h.symm),A3a];exact (d (j x mV fun h=>e h.symm)).uncons.fin fun _ _ _ h=>.one h
def Ru (P:Program)(id:Nat)(ops:Array Oper):List Nat->S->Option S
 |[],s=>some s
 |i::l,s=>match ops[i]? with
  |some o=>match Fb s o with
   |true=>match gv s ops o with
    |some true=>match eff P (id*1000+i) s o.op with
     |some (x,hw)=>Ru P id ops l ((s.put o.dst x).setb hw)
     |none=>none
    |some false=>Ru P id ops l (s.put o.dst (.v undef))
    |none=>none
   |false=>none
  |none=>none
def Ob.autos:∀ {l:List Nat} {s d:S} {u m:PH},Ru P id ops l s=some d->Fin d u m->Ob P id ops dr Fin l s u m
 |[],s,d,u,m,h,hf=>by
  unfold Ru at h;cases h;exact .nil hf
 |i::l,s,d,u,m,h,hf=>by
  unfold Ru at h;split at h
  ·rename_i o ho;split at h
   ·rename_i hd;split at h
    ·rename_i hg;split at h
     ·rename_i x hw he;exact .auto ho hg hd he (Ob.autos h hf)
     cases h
    ·rename_i hg;exact .skip ho hg hd (Ob.autos h hf)
    cases h
   cases h
  cases h
end
section
variable {P:Program} {fn:Func} {Post:Ce}
theorem Sym.reg_tree (R:P.follows .mixedOrders=true){id:Nat}{ops:Array Oper}{d A post:List Nat}{s:S}(v:Alo ops s d A post=true){k:List KI}{u m:PH}
 (h:Ob P id ops true (Qh P id ops post (Hm P fn Post k) A.length A) d s u m):Hm P fn Post (.code (.region id ops true)::k) s u m:=by
 intro c ρ a w C j;unfold Alo at v;simp only[A1m]at v;obtain⟨⟨⟨⟨⟨⟨⟨⟨⟨n,I⟩,E⟩,t⟩,J⟩,F⟩,K⟩,L⟩,H⟩,e⟩:=v;have n:=A1y n;rw[A1o]at I E F H e;have t:=of_decide_eq_true t;refine wp_region_any R ?_;refine Ob.wpAnyT (c:=c) (A0:=A) j.lv L (fun s u m ρ a w N j=>N c ρ a w C j) (fun y g a z=>by have:=H y g;rw[A1o]at this;exact this a z) (fun a z y g=>by have:=e a z;rw[A1o]at this;simpa using this y g) _ A.length A d _ rfl (fun _ h=>h) (W6 K) n
  ⟨mV,fun i hi=>?_,fun i hi=>A8f▸E i hi,t,fun i hi=>?_⟩ (G0 J) (fun x U y g=>by have:=F x U;rw[A1o]at this;exact this y g) (Gb.refl _ _) h j.drew
 ·simp_all
 simp only[A2t]at hi;by_cases O:i<ops.size
 ·grind
 grind
def Aw2 (P:Program)(pre:List Nat)(p q:Nat)(post:List Nat)(st:List KI×S):Bool:=match st with
 |(.code (.region id ops true)::k,s)=>Alo ops s pre [p,q] post&&(Ru P id ops pre s).isSome
 |_=>false
def Akz (P:Program)(pre l:List Nat)(st:List KI×S):List KI×S:=match st with
 |(.code (.region id ops true)::k,s)=>match Ru P id ops pre s with
  |some s'=>(.reg id ops true l::k,s')
  |none=>st
 |_=>st
end
section rules
variable {P:Program} [A6 P] {fn:Func} {Post:Ce} {st:List KI×S} {u m:PH}
def G.both (d:List Nat)(p q:Nat)(post:List Nat)(h:Aw2 P d p q post (adv P st)=true)(j:G P fn Post (Akz P d (p::q::post) (adv P st)) u m)(n:G P fn Post (Akz P d (q::p::post) (adv P st)) u m):G P fn Post st u m:=by
 refine G.stp ⟨?_⟩;generalize adv P st=st' at h j n;unfold Aw2 at h;split at h
 ·rename_i id ops k s;rw[A1m]at h;obtain⟨t,v⟩:=h;obtain⟨z,g⟩:=A6a.1 v;have e:∀ l,Akz P d l (.code (.region id ops true)::k,s)=(.reg id ops true l::k,z):=fun l=>by unfold Akz;simp only[g]
  rw[e]at j n;exact Sym.reg_tree A6.mx t (Ob.autos g (.two j.out fun _=>n.out))
 cases h
end rules
end
section
variable {a:Act}{i:Nat}{o:Oper}{s:S}{w w':World}
structure Aoh (F:Fence):Prop where
 fn:∀ f,F.fn f
 dep:F.depth.isSome=false
 calls:∀ {P:Program} {f:FuncId} {args:Array Value} {w:World} {R:Ending->World->Prop},Calls P f args w R->CallsIn F 0 P f args w R
def Tf:Aoh Fence.wide:=⟨fun _=>trivial,rfl,fun h=>callsIn_wide.2 h⟩
def Aju (l:Nat):Aoh (Fence.wide.inRound l):=⟨fun _=>trivial,rfl,fun h=>(callsIn_wide (n:=0)).2 h⟩
def Ak1:Op->Bool
 |.defer _=>true
 |_=>false
def Bhl (ops:Array Oper):Bool:=ops.toList.all fun o=>!Ak1 o.op
def Mo {ops:Array Oper}(h:Bhl ops=true)(d:ops[i]?=some o):∀ c,o.op≠.defer c:=fun c e=>by
 unfold Bhl at h;rw[A1o]at h;have:=h o (Array.mem_toList_iff.2 (Array.mem_of_getElem? d));rw[e]at this;simp[Ak1]at this
section
variable {P:Program} {id:Nat} {ops:Array Oper} {dr:Bool} {Fin:S->PH->PH->Prop} {c:Cx} {Q:Exit->Act->World->Prop} {F:Fence}
def Aas {y:Value}{K:Act->World->Prop}(hF:Aoh F)(e:∀ c,o.op≠.defer c)(h:Ay2 P a o w y w')(d:K (a.put o.dst y) w'):o.wpIn F 0 P a w K Q:=by
 refine⟨fun f _=>hF.fn f,?_⟩;rw[Oper.semAt_plain F _ _ e];rcases h with h|⟨h,rfl⟩<;>rw[h]<;>exact d
theorem Aoy {a:Act}{o:Oper}{w:World}{s:S}{u m:PH}{ρ:Nat->Nat}{K:Value->World->Prop}{g:Act->World->Prop}(hF:Aoh F)(z:∀ c,o.op≠.defer c)(C:Rel c s u m ρ a w)(H:Kl s o.op=true)(E:Ix o.op=true)
 (h:Eg P (C2 s) o w K) (d:∀ v w',K v w'->g (a.put o.dst v) w'):o.wpIn F 0 P a w g Q:=by
 refine⟨fun f _=>hF.fn f,?_⟩;rw[Oper.semAt_plain F _ _ z,Hw C (Gv E) H];unfold Eg at h;split at h
 ·rename_i v w' e;rw[e];exact d _ _ h
 ·rename_i w' e;rw[e];exact d _ _ h
 ·rename_i f args w' e;rw[e];refine⟨fun j=>(by rw[hF.dep]at j;cases j),hF.calls (Calls.mono h fun J I t=>?_)⟩;obtain⟨v,rfl,n⟩:=t;exact d _ _ n
 grind
def Rel.after {u m t j:PH}{ρ:Nat->Nat}(h:Rel c s u m ρ a w)(g1:Bv t j w')(g2:B0 u m w t j w'){d:Option Nat}(K:∀ e,d=some e->e<s.n)(v:Value):Rel c (s.put d (.v v)) t j ρ (a.put d v) w':=by
 refine Rel.put (x:=.v v) ?_ (fun _=>rfl) mV K;refine⟨h.sz,h.tm,h.df.of fun r e _ L E=>⟨by rw[g2.old _ (Aw e) E];exact e,by rw[g2.us _ (Aw e)];exact L,g2.ms _ (Aw e) E⟩,fun k b J=>?_,h.inj,h.lv,g1,h.gr.trans g2⟩;obtain⟨z,H,I,C⟩:=h.box k b J;have g:ρ k<w.heap.size:=by obtain⟨cs,e,_⟩:=z;exact Aw e
 refine⟨?_,H,?_,?_⟩
 ·rw[g2.old _ g C];exact z
 ·rw[g2.us _ g];exact I
 exact g2.ms _ g C
def Ob.wpOpsIn (hF:Aoh F)(e:Bhl ops=true){rest:List Nat}(d:∀ s u m ρ a w,Fin s u m->Rel c s u m ρ a w->Go.wpOpsIn F 0 P ops Q rest a w) :
 ∀ {l:List Nat} {s:S} {u m:PH} {ρ:Nat->Nat} {a:Act} {w:World},Ob P id ops dr Fin l s u m->Rel c s u m ρ a w->Go.wpOpsIn F 0 P ops Q (l++rest) a w
 |[],s,u,m,ρ,a,w,h,hr=>by
  cases h with
  |nil h=>exact d _ _ _ _ _ _ h hr
 |i::l,s,u,m,ρ,a,w,h,hr=>by
  rw[A4x,wpOpsIn_cons];cases h with
  |auto ho hg hd he hl =>
   simp only[wpOpIn,ho,Ey hr hg,if_true];obtain⟨C,w',y,j,n⟩:=Aav (P:=P) hr he (Lg hd);exact Aas hF (Mo e ho) j (Ob.wpOpsIn hF e d hl n)
  |skip ho hg hd hl =>
   simp only[wpOpIn,ho,Ey hr hg,if_false,A4z];exact⟨fun f _=>hF.fn f,Ob.wpOpsIn hF e d hl (hr.put (x:=.v undef) (fun _=>rfl) mV (Lg hd))⟩
  |ask ho hg hd hv hs hal hw hl =>
   simp only[wpOpIn,ho,Ey hr hg,if_true];refine Aas hF (Mo e ho) (.inl ?_) (Ob.wpOpsIn hF e d hl (hr.put (fun _=>rfl) mV (Lg hd)));rw[Hw hr (Gv hs) hv];exact hw w (fun _=>⟨hr.gd.pu,fun _=>hr.gd.pm⟩)
  |big ho hg hd hv hs hf hk hw hl =>
   simp only[wpOpIn,ho,Ey hr hg,if_true];refine Aoy hF (Mo e ho) hr hv hs (hw w hr.gd) fun v w' ⟨z,t,g1,g2,g⟩=>?_;exact Ob.wpOpsIn hF e d (hl v z t (g2.le hr.gd.pu) g) (hr.after g1 g2 (Lg hd) v)
end
def yv (s:S)(ops:Array Oper)(i:Nat):Option (Nat×List Value):=match ops[i]? with
 |some o=>match Fb s o&&(Kl s o.op&&Ix o.op) with
  |true=>match gv s ops o with
   |some true=>match o.op with
    |.call c=>match c.callee with
     |.value f=>match C2 s f with
      |.func (.yield l) first cap=>some (l,first.toList++c.args.toList.map (C2 s))
      |_=>none
     |_=>none
    |_=>none
   |_=>none
  |false=>none
 |none=>none
def ysk (s:S)(ops:Array Oper)(i:Nat):Bool:=match ops[i]? with
 |some o=>match Fb s o with
  |true=>match gv s ops o with
   |some false=>true
   |_=>false
  |false=>false
 |none=>false
def Acq (P:Program)(l:Nat)(args:List Value)(u m:PH)(K:Value->PH->PH->Prop):Prop :=
 ∀ w,Bv u m w->YieldAt Fence.wide 0 P l args.toArray w fun e w'=>∃ v u' m',e=.returned v/\Bv u' m' w'/\B0 u m w u' m' w'/\K v u' m'
theorem Ate {ops:Array Oper}{i l:Nat}{args:List Value}(h:yv s ops i=some (l,args)):∃ o,ops[i]?=some o/\gv s ops o=some true/\Fb s o=true/\Kl s o.op=true/\Ix o.op=true /\
 ∀ (P:Program) (w:World),(execOp (C2 s) o).run P w=(Instr.yield l args.toArray).run P w:=by
 unfold yv at h;split at h
 ·rename_i o ho;split at h
  ·rename_i hc;simp only[A1m]at hc;split at h
   ·rename_i hg;split at h
    ·rename_i c hop;split at h
     ·rename_i f hcal;split at h
      ·rename_i l' first cap he
       obtain⟨rfl,rfl⟩:=h;refine⟨o,ho,hg,hc.1,hc.2.1,hc.2.2,fun P w=>?_⟩;obtain⟨dst,e,type,pos,after,guard⟩:=o;simp only at hop;subst hop;have d:(first.toList++c.args.toList.map (C2 s)).toArray=first++c.args.map (C2 s):=by grind
       rw[d];simp[execOp,resolve,hcal,he,Deferred.ofValue,invoke]
      cases h
     cases h
    cases h
   cases h
  cases h
 cases h
theorem Arg {ops:Array Oper}(h:ysk s ops i=true):∃ o,ops[i]?=some o/\gv s ops o=some false/\Fb s o=true:=by
 unfold ysk at h;split at h
 ·grind
 cases h
def yB (pre:List Nat)(i:Nat)(post:List Nat)(st:List KI×S):Bool:=match st.1 with
 |.code (.region _ ops false)::_=>Nat.beq ops.size (pre.length+1+post.length)&&(List.range ops.size).zipIdx.all (fun x=>(pre++i::post)[x.2]? == some x.1)&&Bhl ops
 |_=>false
def Azg (st:List KI×S):Array Oper:=match st.1 with
 |.code (.region _ ops false)::_=>ops
 |_=>#[]
def yS (pre:List Nat)(J:S->PH->PH->Prop)(st:List KI×S):List KI×S:=match st.1 with
 |.code (.region id ops false)::k=>(.reg id ops false pre::.lp J::k,st.2)
 |_=>st
def Alw (i:Nat)(post:List Nat)(st:List KI×S)(s:S)(v:Value):List KI×S:=match st.1 with
 |.code (.region id ops false)::k=>match ops[i]? with
  |some o=>(.reg id ops false post::k,s.put o.dst (.v v))
  |none=>st
 |_=>st
section rules
variable {P:Program} [A6 P] {fn:Func} {Post:Ce} {st:List KI×S} {u m:PH}
def G.yreg (R:List Nat)(i:Nat)(d:List Nat)(h:yB R i d (Ff P 200 st)=true)
 (kk:∀ J:S->PH->PH->Prop,
  (∀ t H I,ysk t (Azg (Ff P 200 st)) i=true->G P fn Post (Alw i d (Ff P 200 st) t undef) H I->J t H I) ->
  (∀ t H I l args (K:Value->PH->PH->Prop),yv t (Azg (Ff P 200 st)) i=some (l,args)->Acq P l args H I K->(∀ v g C,PH.le H g->K v g C->G P fn Post (Alw i d (Ff P 200 st) t v) g C)->J t H I) ->
  G P fn Post (yS R J (Ff P 200 st)) u m):G P fn Post st u m:=by
 refine⟨Mq 200 st ?_⟩;generalize Ff P 200 st=st' at h kk;obtain⟨ks,s⟩:=st';unfold yB at h;simp only at h;split at h
 ·rename_i id ops k;simp only[A1m]at h;obtain⟨⟨Y,V⟩,L⟩:=h;have hl:List.range ops.size=R++i::d:=by
   refine A4g fun j=>?_;rw[A1o]at V;by_cases hj:j<ops.size
   ·have:=V (j,j) (by
     refine A1k (i:=j) ?_;rw[A92];simp[hj])
    simp only[beq_iff_eq]at this;rw[this];simp[hj]
   have N:=A1y Y;rw[A1v gV,A1v gV]
  intro c ρ a w U hr;refine (wpIn_wide (n:=0)).1 (wpIn_region ?_);rw[hl];have a0:=(kk (fun t H I=>(∃ o,ops[i]?=some o/\gv t ops o=some false/\Fb t o=true/\Ob P id ops false (Hm P fn Post k) d (t.put o.dst (.v undef)) H I) \/
   ∃ (o:Oper) (l:Nat) (args:List Value) (K:Value->PH->PH->Prop),ops[i]?=some o/\gv t ops o=some true/\Fb t o=true/\Kl t o.op=true/\Ix o.op=true/\(∀ (P:Program) (w:World),(execOp (C2 t) o).run P w=(Instr.yield l args.toArray).run P w)/\Acq P l args H I K /\
    ∀ v g C,PH.le H g->K v g C->Ob P id ops false (Hm P fn Post k) d (t.put o.dst (.v v)) g C)
   (fun t H I hs hg=>by
    obtain⟨o,E,N,O⟩:=Arg hs;have E:ops[i]?=some o:=E;have:=hg.out;simp only[Alw]at this;rw[E]at this;exact .inl ⟨o,E,N,O,this⟩)
   (fun t H I l args K hy hc hg=>by
    obtain⟨o,E,N,O,T,W,X⟩:=Ate hy;have E:ops[i]?=some o:=E;refine .inr ⟨o,l,args,K,E,N,O,T,W,X,hc,fun v g C Y V=>?_⟩;have:=(hg v g C Y V).out;simp only[Alw]at this;rw[E]at this;exact this)).out
  refine Ob.wpOpsIn Tf L (fun s1 u1 m1 ρ1 a1 w1 Z a2=>?_) a0 hr;obtain⟨s2,u2,m2,ρ2,z,hJ⟩:=Z c ρ1 a1 w1 U a2;rw[wpOpsIn_cons];have fin:∀ (s u m ρ a w),Hm P fn Post k s u m->Rel c s u m ρ a w->Go.wpOpsIn Fence.wide 0 P ops (It P fn Post c k) [] a w:=fun s u m ρ a w Z hr=>Z c ρ a w U hr;rcases hJ with ⟨o,E,N,O,T⟩|⟨o,l,args,K,E,N,O,T,W,X,e6,e7⟩
  ·simp only[wpOpIn,E,Ey z N,if_false,A4z];refine⟨fun f _=>trivial,?_⟩;have:=Ob.wpOpsIn Tf L fin T (z.put (x:=.v undef) (fun _=>rfl) mV (Lg O));rwa[A1x]at this
  simp only[wpOpIn,E,Ey z N,if_true];refine⟨fun f _=>trivial,?_⟩;rw[Oper.semAt_plain _ _ _ (Mo L E),Hw z (Gv W) T,X];obtain⟨a3,tmps,assign,body,hy,hR⟩:=e6 w1 z.gd;rw[hy];refine⟨fun hh=>(by cases hh),hR.mono fun e w' he=>?_⟩;obtain⟨v,H,I,rfl,g1,g2,g3⟩:=he;have:=Ob.wpOpsIn Tf L fin (e7 v H I (g2.le z.gd.pu) g3) (z.after g1 g2 (Lg O) v);rwa[A1x]at this
 cases h
def Az8 {F:Fence}(hF:Aoh F){id:Nat}{ops:Array Oper}(e:Bhl ops=true){J:S->PH->PH->Prop}{s:S}{c:Cx}{ρ:Nat->Nat}{a:Act}{w:World}{Q:Exit->Act->World->Prop}
 (h:G P fn Post ([.reg id ops false (List.range ops.size),.lp J],s) u m) (C:Rel c s u m ρ a w) (d:c.m0=Post.m0) (v:∀ s u m ρ a w,Rel c s u m ρ a w->J s u m->Q .normal a w):(Code.region id ops false).wpIn F 0 P Q a w:=by
 refine wpIn_region ?_;have:=Ob.wpOpsIn (rest:=[]) hF e (Q:=Q) (fun L O I H n E z g=>by
  obtain⟨N,R,K,T,j,t⟩:=z c H n E d g;exact v _ _ _ _ _ _ j t) h.out C
 rwa[A1x]at this
end rules
def S.ofT (n:Nat)(T:List (Nat×Value)):S:={ n:=n,tm:=fun d=>match T.find? (fun x=>Nat.beq x.1 d) with|some x=>.v x.2|none=>.junk,hp:=fun _=>none }
theorem Rel.start {u m:PH}(h:Bv u m w){tmps:Array Value}{T:List (Nat×Value)}(hT:∀ x∈T,tmps[x.1]?=some x.2):Rel ⟨w,u,m⟩ (S.ofT tmps.size T) u m (fun _=>0) { tmps:=tmps,defers:=[] } w:=by
 refine⟨rfl,fun d g=>?_,Agv.nil _ _ _ _,fun k b n=>(by cases n),fun k j t=>absurd rfl t,⟨fun d k off g=>?_,fun j b k off n=>(by cases n)⟩,h,⟨A08 _,fun _ _ _=>rfl,fun _ _=>rfl,fun _ _ h=>h,⟨rfl,rfl⟩,fun _=>⟨rfl,A08 _⟩⟩⟩
 ·unfold S.ofT at g⊢;simp only at g⊢;split
  ·rename_i x hx;have:=hT x (List.mem_of_find?_eq_some hx);have e:=List.find?_some hx;rw[<-A1y e];exact this
  grind
 unfold S.ofT at g;simp only at g;split at g<;>cases g
def Bv.putO {u m:PH}(h:Bv u m w){g:Nat}{o o':Obj}(d:m g=some o)(e:Q9 o'=true):Bv u (m.upd g o') (w.putObj g o')/\B0 u m w u (m.upd g o') (w.putObj g o'):=by
 have:=h.setO d e;rwa[show Ta w g o'=w.putObj g o' from rfl]at this
end
def ElP.sub {u:PH}{b off:Nat}{e x:Value}{k:Nat}(h:ElP u b off e)(j:∀ i y,x.cells[i]?=some y->e.cells[k+i]?=some y):ElP u b (off+k) x:=fun i y m=>by
 obtain⟨cs,t,fr,d,g⟩:=h (k+i) y (j i y m);exact⟨cs,t,fr,d,by rw[A3p];exact g⟩
def Acq.mono {P:Program}{l:Nat}{args:List Value}{u m:PH}{K j:Value->PH->PH->Prop}(h:Acq P l args u m K)(I:∀ v g d,K v g d->j v g d):Acq P l args u m j:=fun w H=>by
 obtain⟨fn,tmps,assign,body,E,F⟩:=h w H;exact⟨fn,tmps,assign,body,E,RoundIn.mono F fun e w' ⟨v,g,d,n,t,z,C⟩=>⟨v,g,d,n,t,z,I _ _ _ C⟩⟩
def Bcw {u m:PH}{l b1 b2:Nat}{v tv:Value}{T:List (List UInt8×Nat)}{R:List Br}{F:List Al}{lab:Int}{ss:List (List UInt8)}(h:Mv u v tv T R F lab ss)(a6:ElP u b1 0 v)(Z:ElP u b2 0 tv)(J:List (Par×Rat)->PH->PH->Prop)(D:PH->PH->Prop)
 (a7:∀ L t V E,PH.le t V->J L t E->J L V E)
 (hY:∀ (i:Nat) (x:Par×Rat) t E,i<F.length->PH.le u t->J (Dx F ss i) t E->x∈Dx F ss F.length->x.1.1=(i:Int)->Acq prog l [Ap x.1,.string (mkS (Ae x.2))] t E fun r V a4=>r=.bool true/\J (Dx F ss i++[x]) V a4\/r=.bool false/\D V a4)
 (h0:J [] u m):Ag prog 95 [.func (.yield l) #[] #[],.pointer (some ⟨b1,0,none⟩),.pointer (some ⟨b2,0,none⟩)] u m fun _ t E=>J (Dx F ss F.length) t E\/D t E:=by
 obtain⟨⟨xa,xc,xb,xd,xe,xf,rfl,a9,a8,a5⟩,ok,hS,hT⟩:=h;obtain⟨ya,yc,rfl⟩:=hS.opn;rw[A03]at hS Z;have aa:=ok.f2;have I:=ok.feat;have e2:ElP u b1 (0+2) (.slice xe F.length xf):=a6.sub (k:=2) fun i y P=>by
  match i,P with
  |0,P=>simpa[Value.cells] using P
  |i+1,P=>simp[Value.cells]at P
 refine Ag.o func95<|G.f 27 b1 0 2 2<|G.lU none b1 (0+2) (.slice xe F.length xf) e2<|G.l (ι:=Nat) (fun i=>[(0,.v (.func (.yield l) #[] #[])),(2,.v (.pointer (some ⟨b2,0,none⟩))),(9,sV xe F.length xf),(10,iV F.length),(11,iV i)]) (fun _=>[])
  (fun i t E=>i<=F.length/\J (Dx F ss i) t E) (fun i=>F.length-i) 0 ⟨oV,h0⟩ ?_
 rintro Jl i hJ u1 m1 Y ⟨hi,g⟩;by_cases N:i<F.length
 ·refine G.lT i F.length ?_;have W:F[i]?=some F[i]:=A01 N;have a0:=A09 N;have K:=Vz I hT a0;have n:=Aab (ss:=ss) W;have C:=fun h2 h0=>S3 I hT a0 h2 h0;have a3:∀ x,Jf ss i F[i]=some x->x∈Dx F ss F.length:=fun x hx=>F9.2 ⟨i,F[i],N,W,hx⟩;obtain⟨fb,fo,rfl,ef⟩:=Ac.at' (a5.mono Y) (j:=i) (e:=Cm F[i]) (by simp[W]);have step:=fun (x:Par×Rat) (hx:Jf ss i F[i]=some x) (t E:PH) (hl:PH.le u1 t) (hj:J (Dx F ss i) t E)=>hY i x t E N (Y.trans hl) hj (a3 x hx) (Ow hx);have U:Jf ss i F[i]=none->Dx F ss (i+1)=Dx F ss i:=fun e=>by rw[n,e];simp
  have H:∀ x,Jf ss i F[i]=some x->Dx F ss (i+1)=Dx F ss i++[x]:=fun x e=>by rw[n,e];simp
  clear n a3;generalize F[i]=f at W a0 K C ef step U H;obtain⟨z,f2,f3⟩:=f;simp only at K C;refine G.a fb fo F.length xf i 3 N<|G.lU (some 3) fb (fo+i*3) (.agg #[.int .i64 z,.int .i64 f2,.int .i64 f3]) ef<|G.lU none b2 0 (.slice ya ss.length yc) (Z.mono Y) ?_;obtain⟨b,off,rfl,e⟩:=M5 (hS.mono Y) K;refine G.a b off ss.length yc z 1 K<|G.lU none b (off+z*1) (.string (mkS (ss.getD z []))) e ?_;by_cases a1:f2=2
  ·subst a1;have hv:Jf ss i (z,2,f3)=some (((i:Int),ss.getD z []),1):=by unfold Jf;rw[if_pos rfl]
   refine G.eT (2:Nat) 2<|G.lU none b2 0 (.slice (some ⟨b,off,none⟩) ss.length yc) (Z.mono Y)<|G.a b off ss.length yc z 1 K<|G.lU none b (off+z*1) (.string (mkS (ss.getD z []))) e<|G.yreg [0,1,2,3,4,5,6,7,8,9] 10 [11,12] kV ?_;intro Jy O Q;refine G.x [49] [] mV<|G.x [49] [48] mV ?_;have P:=step _ hv u1 m1 (PH.le_refl _) g;rw[Sv]at P;refine G.b (Q _ _ _ l _ _ kV P ?_);rintro v2 u2 m2 l2 (⟨rfl,hJ2⟩|⟨rfl,hD2⟩)
   case inr=>exact G.r (.tuple #[]) (.inr hD2)
   rw[<-H _ hv]at hJ2;exact G.i i<|G.b (hJ (i+1) _ _ _ cV (Y.trans l2) ⟨oV,hJ2⟩ oV)
  refine G.eF f2 2 ?_;have d:Jf ss i (z,f2,f3)=if ss.getD z [] = []\/ss.getD z [] = [48] then none else some (((i:Int),[]),Lk (ss.getD z [])):=by unfold Jf;rw[if_neg a1]
  have C:=C a1;generalize ss.getD z []=w at d C e;by_cases X:w = []
  ·subst X;rw[if_pos (.inl rfl)]at d;refine G.yreg [0,1,2,3,4,5,6,7,8,9] 10 [11,12] kV ?_;intro Jy O Q;refine G.y [] [] rfl<|G.b (O _ _ _ kV ?_);rw[<-U d]at g;exact G.i i<|G.b (hJ (i+1) _ _ _ cV Y ⟨oV,g⟩ oV)
  by_cases a2:w = [48]
  ·subst a2;rw[if_pos (.inr rfl)]at d;refine G.yreg [0,1,2,3,4,5,6,7,8,9] 10 [11,12] kV ?_;intro Jy O Q;refine G.x [48] [] mV<|G.y [48] [48] rfl<|G.b (O _ _ _ kV ?_);rw[<-U d]at g;exact G.i i<|G.b (hJ (i+1) _ _ _ cV Y ⟨oV,g⟩ oV)
  rw[if_neg (fun e=>e.elim X a2)]at d;refine G.yreg [0,1,2,3,4,5,6,7,8,9] 10 [11,12] kV ?_;intro Jy O Q;refine G.x w [] X<|G.x w [48] a2 ?_;have P:=step _ d u1 m1 (PH.le_refl _) g;rw[(C X).2]at P;refine G.b (Q _ _ _ l _ _ kV P ?_);rintro v2 u2 m2 l2 (⟨rfl,hJ2⟩|⟨rfl,hD2⟩)
  case inr=>exact G.r (.tuple #[]) (.inr hD2)
  rw[<-H _ d]at hJ2;exact G.i i<|G.b (hJ (i+1) _ _ _ cV (Y.trans l2) ⟨oV,hJ2⟩ oV)
 obtain rfl:i=F.length:=oV;exact G.lF F.length F.length<|G.r (.tuple #[]) (.inl g)
def Arp {u m:PH}{l E H:Nat}{v I:Value}{T:List (List UInt8×Nat)}{R:List Br}{F:List Al}{lab:Int}{ss:List (List UInt8)}(h:Mv u v I T R F lab ss)(t:ElP u E 0 v)(z:ElP u H 0 I)(J:List (Par×Rat)->PH->PH->Prop)
 (n:∀ L d j g,PH.le d j->J L d g->J L j g)
 (Y:∀ (i:Nat) (x:Par×Rat) d g,i<F.length->PH.le u d->J (Dx F ss i) d g->x∈Dx F ss F.length->x.1.1=(i:Int)->Acq prog l [Ap x.1,.string (mkS (Ae x.2))] d g fun r j C=>r=.bool true/\J (Dx F ss i++[x]) j C)
 (h0:J [] u m):Ag prog 95 [.func (.yield l) #[] #[],.pointer (some ⟨E,0,none⟩),.pointer (some ⟨H,0,none⟩)] u m fun _ d g=>J (Dx F ss F.length) d g:=fun w Z =>
 Calls.mono (Bcw h t z J (fun _ _=>False) n (fun i x d g Q U V W X=>(Y i x d g Q U V W X).mono fun _ _ _ h=>.inl h) h0 w Z) fun e w' ⟨v,d,g,K,N,O,P⟩=>⟨v,d,g,K,N,O,P.resolve_right id⟩
section
variable {c x y:Code}{id:Nat}
def Lb:Code->Option (Operand×Array Tmp×Code×Code)
 |.seq a b=>match Lb a with|some x=>some x|none=>Lb b
 |.block _ a=>Lb a
 |.loop a=>Lb a
 |.cond _ a b=>match Lb a with|some x=>some x|none=>Lb b
 |.rangeFunc g ps x y=>some (g,ps,x,y)
 |_=>none
def rfG (fn:Func):Operand:=match Lb (Qd fn) with|some x=>x.1|none=>.tmp 0
def A0v (fn:Func):Array Tmp:=match Lb (Qd fn) with|some x=>x.2.1|none=>#[]
def rfX (fn:Func):Code:=match Lb (Qd fn) with|some x=>x.2.2.1|none=>.skip
def rfY (fn:Func):Code:=match Lb (Qd fn) with|some x=>x.2.2.2|none=>.skip
def Az5:Code->Bool
 |.seq _ _=>true
 |_=>false
def A0q:Code->Code
 |.seq a _=>a
 |_=>.skip
def A0w:Code->Code
 |.seq _ b=>b
 |_=>.skip
def A0r:Code->Bool
 |.block _ _=>true
 |_=>false
def A0f:Code->Code
 |.block _ a=>a
 |_=>.skip
def rgB:Code->Bool
 |.region _ ops false=>Bhl ops
 |_=>false
def rgI:Code->Nat
 |.region id _ _=>id
 |_=>0
def rgO:Code->Array Oper
 |.region _ ops _=>ops
 |_=>#[]
def cnB:Code->Bool
 |.cond _ _ _=>true
 |_=>false
def cnX:Code->Operand
 |.cond x _ _=>x
 |_=>.tmp 0
def cnY:Code->Code
 |.cond _ y _=>y
 |_=>.skip
def cnZ:Code->Code
 |.cond _ _ z=>z
 |_=>.skip
def skB:Code->Bool
 |.skip=>true
 |_=>false
def RW (P:Program)(l:Nat)(c:Code)(J:S->PH->PH->Prop)(s:S)(u m:PH):Prop :=
 ∀ (cx:Cx) (ρ:Nat->Nat) (a:Act) (w:World),Rel cx s u m ρ a w->c.wpIn (Fence.wide.inRound l) 0 P (Exit.then (fun a w=>∃ s u m ρ,Rel cx s u m ρ a w/\J s u m) (fun _ _ _=>False)) a w
section
variable {P:Program} {l:Nat} {J J':S->PH->PH->Prop} {s:S} {u m:PH}
def RW.skip (h:J s u m):RW P l .skip J s u m:=fun e ρ a w d=>wpIn_skip ⟨s,u,m,ρ,d,h⟩
def RW.seq (h:RW P l x (fun s u m=>RW P l y J s u m) s u m):RW P l (.seq x y) J s u m:=fun d ρ a w t=>wpIn_seq (wpIn_mono (h d ρ a w t) fun e a w g=>by
 cases e with
 |normal=>obtain⟨s,u,m,ρ,j,n⟩:=g;exact n d ρ a w j
 |_=>exact g)
def RW.block (h:RW P l x J s u m):RW P l (.block id x) J s u m:=fun g ρ a w j=>wpIn_block (wpIn_mono (h g ρ a w j) fun e a w d=>by
 cases e with
 |normal=>exact d
 |_=>exact d.elim)
def RW.condF {x:Operand}{y z:Code}(e:s.ev x=.v (.bool false))(h:RW P l z J s u m):RW P l (.cond x y z) J s u m:=fun g ρ a w d =>
 wpIn_cond_false (by rw[d.eval x (by rw[e];simp),e];rfl) (h g ρ a w d)
def RW.reg [A6 P]{d:Array Oper}(fn:Func)(e:Bhl d=true)(h:∀ (Post:Ce) (J':S->PH->PH->Prop),(∀ s u m,J s u m->J' s u m)->G P fn Post ([.reg id d false (List.range d.size),.lp J'],s) u m):RW P l (.region id d false) J s u m:=fun g ρ a w t =>
 Az8 (Aju l) e (h ⟨fun _ _ _=>False,g.m0⟩ J fun _ _ _ h=>h) t rfl fun s u m ρ a w j n=>⟨s,u,m,ρ,j,n⟩
end
def Ag.weak {P:Program}{f:FuncId}{args:List Value}{u m:PH}{R j:Value->PH->PH->Prop}(h:Ag P f args u m R)(F:∀ v g d,R v g d->j v g d):Ag P f args u m j:=fun w E=>Calls.mono (h w E) fun e w' ⟨v,g,d,n,t,z,C⟩=>⟨v,g,d,n,t,z,F _ _ _ C⟩
def RW.seq' {P:Program}{l:Nat}{J:S->PH->PH->Prop}{s:S}{u m:PH}(d:Az5 c=true)(h:RW P l (A0q c) (fun s u m=>RW P l (A0w c) J s u m) s u m):RW P l c J s u m:=by
 cases c<;>first|exact RW.seq h|cases d
def RW.block' {P:Program}{l:Nat}{J:S->PH->PH->Prop}{s:S}{u m:PH}(d:A0r c=true)(h:RW P l (A0f c) J s u m):RW P l c J s u m:=by
 cases c<;>first|exact RW.block h|cases d
def RW.skip' {P:Program}{l:Nat}{J:S->PH->PH->Prop}{s:S}{u m:PH}(d:skB c=true)(h:J s u m):RW P l c J s u m:=by
 cases c<;>first|exact RW.skip h|cases d
def RW.condF' {P:Program}{l:Nat}{J:S->PH->PH->Prop}{s:S}{u m:PH}(d:cnB c=true)(e:s.ev (cnX c)=.v (.bool false))(h:RW P l (cnZ c) J s u m):RW P l c J s u m:=by
 cases c<;>first|exact RW.condF e h|cases d
def RW.reg' {P:Program}[A6 P]{l:Nat}{J:S->PH->PH->Prop}{s:S}{u m:PH}(fn:Func)(d:rgB c=true)(h:∀ (Post:Ce) (J':S->PH->PH->Prop),(∀ s u m,J s u m->J' s u m)->G P fn Post ([.reg (rgI c) (rgO c) false (List.range (rgO c).size),.lp J'],s) u m):RW P l c J s u m:=by
 cases c with
 |region id ops dr =>
  cases dr with
  |false=>exact RW.reg fn d h
  |true=>cases d
 |_=>cases d
def Vg (r:Loop):Loop:={ r with state:=.busy }
def Aje (p q:Nat)(a b:Value)(t:Array Value):((#[p,q].zip [a,b].toArray).foldl (fun tmps (t,a)=>tmps.setIfInBounds t a) t)=(t.setIfInBounds p a).setIfInBounds q b:=mV
theorem Amn {P:Program}{l n:Nat}{r:Loop}{args:List Value}{T:List (Nat×Value)}{u m:PH}{K:PH->PH->Prop}(hm:m l=some (.loop r))(hr:r.state=.ready)(hp:r.pending=none)(hs:args.length=r.params.size)
 (hn:r.tmps.size=n) (hT:∀ x∈T,((r.params.zip args.toArray).foldl (fun tmps (t,a)=>tmps.setIfInBounds t a) r.tmps)[x.1]?=some x.2)
 (h:RW P l r.assign (fun s Y O=>O l=some (.loop r)/\RW P l r.body (fun _ u2 W=>W l=some (.loop (Vg r))/\K u2 (W.upd l (.loop r))) s Y (O.upd l (.loop (Vg r)))) (S.ofT n T) u m) :
 Acq P l args u m fun v u' m'=>v=.bool true/\K u' m':=by
 intro w C;have hl:=C.pm l _ hm;have V:((r.params.zip args.toArray).foldl (fun tmps (t,a)=>tmps.setIfInBounds t a) r.tmps).size=n:=by
  rw[<-hn,<-A99];generalize (r.params.zip args.toArray).toList=L;generalize r.tmps=t0;induction L generalizing t0 with
  |nil=>rfl
  |cons x L ih=>grind
 refine⟨r.fn,_,r.assign,r.body,run_yield hl (by simpa using hs),roundIn_of_wpIn trivial ?_⟩;have g:=Rel.start (T:=T) C (tmps:=(r.params.zip args.toArray).foldl (fun tmps (t,a)=>tmps.setIfInBounds t a) r.tmps) hT;rw[V]at g;refine wpIn_mono (h _ _ _ _ g) fun e a1 w1 hq=>?_;cases e with
 |normal =>
  obtain⟨s1,Y,O,ρ1,d,N,h2⟩:=hq;have R:=d.gd.pm l _ N;have E:∀ k b,s1.hp k=some b->ρ1 k≠l:=fun k b z e=>by
   obtain⟨_,_,_,I⟩:=d.box k b z;rw[e,N]at I;cases I
  obtain⟨g1,g2⟩:=d.gd.putO (o':=.loop (Vg r)) N rfl;have r2:Rel ⟨w,u,m⟩ s1 Y (O.upd l (.loop (Vg r))) ρ1 a1 (w1.putObj l (.loop (Vg r))):=by
   refine⟨d.sz,d.tm,d.df.of fun q e _ hu j=>?_,fun k b z=>?_,d.inj,d.lv,g1,d.gr.trans g2⟩
   ·have H:q≠l:=fun e'=>by rw[e',N]at j;cases j
    exact⟨by rw[World.putObj_heap_other H];exact e,hu,by rw[Ad _ _ H];exact j⟩
   obtain⟨e1,Q,e3,I⟩:=d.box k b z;exact⟨by rw[World.putObj_heap_other (E k b z)];exact e1,Q,e3,by rw[Ad _ _ (E k b z)];exact I⟩
  refine⟨_,run_beginRound R hr,wpIn_mono (h2 _ _ _ _ r2) fun Q a2 w2 F=>?_⟩;cases Q with
  |normal =>
   obtain⟨s2,u2,W,ρ2,X,Z,h4⟩:=F;have U:=X.gd.pm l _ Z;refine⟨_,_,run_endRound none U,?_⟩;have e5:({ Vg r with state:=if (none:Option Code).isNone then .ready else .done,pending:=none }:Loop)=r:=by
    cases r;subst hr;subst hp;rfl
   rw[e5];obtain⟨g3,g4⟩:=X.gd.putO (o':=.loop r) Z rfl;exact⟨_,_,_,rfl,g3,X.gr.trans g4,rfl,h4⟩
  |_=>exact F.elim
 |_=>exact hq.elim
section
variable {P:Program} [A6 P] {fn:Func} {Post:Ce} {st:List KI×S} {u m:PH}
def Azy (st:List KI×S):Option (Operand×Array Tmp×Code×Code):=match st.1 with
 |.code (.rangeFunc g ps x y)::_=>some (g,ps,x,y)
 |_=>none
def Ais (st:List KI×S):List KI×S:=match st.1 with
 |.code (.rangeFunc _ _ _ _)::k=>(k,st.2)
 |_=>st
theorem G.rangeF (g:Operand)(ps:Array Tmp)(x y:Code)(N:Nat)(cap:List Value)(a0:PH->PH->Prop)(h:Azy (adv P st)=some (g,ps,x,y))(I:(adv P st).2.ev g=.v (.func (.func N) #[] cap.toArray))(hn:Bgr (Ais (adv P st)).1=true)
 (hc:∀ args w,(callFunc N args).run P w=.ok (.enter N args) w)
 (O:∀ (l:Nat) (r:Loop),r.state=.ready->r.pending=none->r.params=ps->r.assign=x->r.body=y->r.tmps.size=(adv P st).2.n->(∀ d v,(adv P st).2.tm d=.v v->r.tmps[d]?=some v)->m l=none->u l=none ->
  Ag P N (.func (.yield l) #[] #[]::cap) u (m.upd l (.loop r)) fun _ Z X=>∃ Y:Loop,Y.state≠.busy/\Y.pending=none/\X l=some (.loop Y)/\∃ T,PH.le T X/\T l=none/\a0 Z T)
 (k:∀ Z X,PH.le u Z->a0 Z X->G P fn Post (Ais (adv P st)) Z X):G P fn Post st u m:=by
 refine G.stp ?_;generalize adv P st=st' at h I hn O k;obtain⟨ks,s⟩:=st'
 match ks,h with
 |.code (.rangeFunc g' ps' x' y')::kk,h =>
  simp only[Azy,A1f,A2i]at h;obtain⟨rfl,rfl,rfl,rfl⟩:=h;simp only[Ais]at hn O k;refine⟨?_⟩;intro c ρ a w ad L;show (Code.rangeFunc g' ps' x' y').wp P (It P fn Post c kk) a w;refine (wpIn_wide (n:=0)).1 (wpIn_rangeFunc fun fid _=>?_);obtain⟨C,F⟩:∃ C:Loop,C={ state:=.ready,pending:=none,fn:=fid,tmps:=a.tmps,params:=ps',assign:=x',body:=y',defers:=w.heap.size }:=⟨_,rfl⟩;have U:=run_enterLoop_outer (P:=P) (w:=w) fid a.tmps ps' x' y';rw[<-F]at U;obtain⟨E,H⟩:∃ E,E=w.alloc (.deferred (some [])):=⟨_,rfl⟩;rw[<-H]at U;have a8:E.heap.size=w.heap.size+1:=by rw[H,B6]
  rw[<-a8]at U;have a1:E.heap[w.heap.size]?=some (.deferred (some [])):=by rw[H];exact Cn _ _
  have ag:u w.heap.size=none:=L.gd.pu.none (A08 _);have ae:m w.heap.size=none:=L.gd.pm.none (A08 _);have W:Bv u m E:=by
   refine⟨fun g o I=>?_,fun g o I=>?_,L.gd.ap,fun g cs t fr j z I hj=>?_⟩
   ·rw[H,Aq _ _ (L.gd.pu.lt I)];exact L.gd.pu g o I
   ·rw[H,Aq _ _ (L.gd.pm.lt I)];exact L.gd.pm g o I
   by_cases e:g=w.heap.size
   ·subst e;rw[a1]at I;simp at I
   have K:=Aw I;rw[a8]at K;rw[H,Aq _ _ oV]at I;exact L.gd.cl g cs t fr j z I hj
  have a3:B0 c.u0 c.m0 c.w0 u m E:=L.gr.trans ⟨oV,fun g I _=>by rw[H];exact Aq _ _ I,fun _ _=>rfl,fun _ _ h=>h,by rw[H];exact⟨rfl,rfl⟩,fun _=>by rw[H];exact⟨rfl,A08 _⟩⟩;have Q:Rel c s u m ρ { a with defers:=Xm w.heap.size::a.defers } E:=by
   refine⟨L.sz,L.tm,?_,fun k b hb=>?_,L.inj,L.lv,W,a3⟩
   ·obtain⟨ds,d1,d2,a9,d3⟩:=L.df;refine⟨w.heap.size::ds,A4j.2 ⟨fun a6=>?_,d1⟩,by rw[A2u,<-d2];rfl,by rw[<-a9];rfl,fun q hq=>?_⟩
    ·obtain⟨e,_⟩:=d3 _ a6;exact absurd (Aw e) oV
    rcases A1g.1 hq with rfl|hq
    ·exact⟨a1,L.gr.sz,ag,ae⟩
    obtain⟨e1,e2,e3,e4⟩:=d3 q hq;exact⟨by rw[H,Aq _ _ (Aw e1)];exact e1,e2,e3,e4⟩
   obtain⟨⟨cs,f1,f2,f3⟩,f4⟩:=L.box k b hb;exact⟨⟨cs,by rw[H,Aq _ _ (Aw f1)];exact f1,f2,f3⟩,f4⟩
  obtain⟨g1,g2,g3,g4⟩:=W.newO (o:=.loop C) rfl;have R:Rel c s u (m.upd E.heap.size (.loop C)) ρ { a with defers:=Xm w.heap.size::a.defers } (E.alloc (.loop C)):=by
   refine⟨Q.sz,Q.tm,Q.df.of fun q e _ hu V=>?_,fun k b hb=>?_,Q.inj,Q.lv,g1,Q.gr.trans g2⟩
   ·have K:=Aw e;exact⟨by rw[Aq _ _ K];exact e,hu,by rw[Ad _ _ oV];exact V⟩
   obtain⟨⟨cs,f1,f2,f3⟩,f4,f5,f6⟩:=Q.box k b hb;have K:=Aw f1;exact⟨⟨cs,by rw[Aq _ _ K];exact f1,f2,f3⟩,f4,f5,by rw[Ad _ _ oV];exact f6⟩
  have ab:a.eval g'=.func (.func N) #[] cap.toArray:=by rw[L.eval g' (by rw[I];simp),I];rfl
  have aa:=O E.heap.size C (by rw[F]) (by rw[F]) (by rw[F]) (by rw[F]) (by rw[F]) (by rw[F];exact L.sz) (fun d v hd=>by
   have:=L.tm d (by rw[hd];simp);rw[hd]at this;rw[F];exact this) g3 g4
  obtain⟨dd,a2⟩:∃ dd:Deferred,dd={ target:=.fn (.func N) cap.toArray,args:=#[.func (.yield E.heap.size) #[] #[]] }:=⟨_,rfl⟩;have a7:(resolve a.eval (rangeCall g' E.heap.size) 0).run P (E.alloc (.loop C))=.ok dd (E.alloc (.loop C)):=by
   rw[a2];simp only[resolve,ab,Deferred.ofValue];simp[Act.eval]
  have a4:(invoke dd.target dd.args).run P (E.alloc (.loop C))=.ok (.enter N (.func (.yield E.heap.size) #[] #[]::cap).toArray) (E.alloc (.loop C)):=by
   rw[a2];simp[invoke,hc]
  refine⟨E.heap.size,[Xm w.heap.size],E.alloc (.loop C),dd,E.alloc (.loop C),N,(.func (.yield E.heap.size) #[] #[]::cap).toArray,E.alloc (.loop C),U,a7,fun _ _=>trivial,a4,(fun h=>by cases h),?_⟩;refine callsIn_wide.2 (Calls.mono (aa _ g1) fun e w3 he=>?_);obtain⟨v,Z,X,rfl,k1,k2,Y,q1,q2,q3,T,q4,q5,q6⟩:=he;have ac:=k1.pm _ _ q3;refine⟨none,_,by rw[<-q2];exact run_endLoop ac q1,?_⟩;obtain⟨p1,p2⟩:=k1.putO (o':=.loop { Y with state:=.exhausted }) q3 rfl;have a5:PH.le T (X.upd E.heap.size (.loop { Y with state:=.exhausted })):=fun g o I=>by
   by_cases e:g=E.heap.size
   ·grind
   rw[Ad _ _ e];exact q4 g o I
  have af:Rel c s Z (X.upd E.heap.size (.loop { Y with state:=.exhausted })) ρ { a with defers:=Xm w.heap.size::a.defers } (w3.putObj E.heap.size (.loop { Y with state:=.exhausted })):=by
   have g5:=k2.trans p2;refine⟨R.sz,R.tm,R.df.of fun q e _ hu V=>⟨by rw[g5.old _ (Aw e) V];exact e,by rw[g5.us _ (Aw e)];exact hu,g5.ms _ (Aw e) V⟩,fun k b hb=>?_,R.inj,R.lv,p1,R.gr.trans g5⟩;obtain⟨e1,e2,e3,e4⟩:=R.box k b hb;have K:ρ k<(E.alloc (.loop C)).heap.size:=by obtain⟨cs,e,_⟩:=e1;exact Aw e
   refine⟨?_,e2,?_,?_⟩
   ·rw[g5.old _ K e4];exact e1
   ·rw[g5.us _ K];exact e3
   exact g5.ms _ K e4
  have hk:=(k Z T (k2.le g1.pu) q6).out;rw[Sym.ofNo hn]at hk;exact hk c ρ _ _ ad (af.less a5)
end
end
section
variable {b sz:Nat}{es:List Value}{m m0:PH}{o:Obj}{t:TypeId}{v:Value}
def Af.base (h:Af m0 m v t sz es)(F:m0 b≠none):Af (m0.upd b o) (m.upd b o) v t sz es:=by
 obtain⟨u,h⟩:=h;rcases h with ⟨j,n,rfl⟩|⟨g,cap,rest,j,rfl,n,z,C,E⟩
 ·exact⟨u,.inl ⟨j,n,rfl⟩⟩
 have d:g≠b:=fun e=>by subst e;exact F j
 exact⟨u,.inr ⟨g,cap,rest,by rw[Ad _ _ d];exact j,Iq _ _ _ d,n,z,C,E⟩⟩
def Af.see (h:Af m0 m v t sz es)(d:m0 b=some o):m b=some o:=h.le b o d
end
section
variable {l:Nat}{m:PH}{o:Obj}
def Alu {l b:Nat}(h:b≠l):(m.upd b o).del l=(m.del l).upd b o:=by
 funext k
 by_cases e:k=l
 ·subst e;rw[Ad _ _ (fun d=>h d.symm)];simp[PH.del]
 by_cases d:k=b
 ·subst d;rw[Ab];simp[PH.del,e,Ab]
 rw[Ad _ _ d];simp[PH.del,e,Ad _ _ d]
def Rk (h:m l=none):(m.upd l o).del l=m:=by
 funext k
 by_cases e:k=l
 ·subst e;simp[PH.del,h]
 simp[PH.del,e,Ad _ _ e]
def Ap6 (m:PH)(l:Nat):PH.le (m.del l) m:=fun g o h=>by
 unfold PH.del at h;split at h
 ·cases h
 exact h
def Axu (m:PH)(l:Nat):m.del l l=none:=by unfold PH.del;simp
def Af.del {m0 m:PH}{v:Value}{t:TypeId}{sz:Nat}{es:List Value}{l:Nat}(h:Af m0 m v t sz es)(F:m0 l≠none):Af (m0.del l) (m.del l) v t sz es:=by
 obtain⟨u,h⟩:=h;rcases h with ⟨j,n,rfl⟩|⟨g,cap,rest,j,rfl,n,z,C,E⟩
 ·exact⟨u,.inl ⟨j,n,rfl⟩⟩
 have d:g≠l:=fun e=>by subst e;exact F j
 exact⟨u,.inr ⟨g,cap,rest,by unfold PH.del;rw[if_neg d];exact j,Alu d,n,z,C,E⟩⟩
def Y4 (t et:TypeId)(sz b:Nat)(mr:PH)(es:List Value)(m:PH):Prop:=∃ a c,Af (mr.upd b (.cells #[.slice a es.length c] t (0,0))) m (.slice a es.length c) et sz es
def Y4.see {t et:TypeId}{sz b l:Nat}{d m:PH}{es:List Value}{o:Obj}(h:Y4 t et sz b d es m)(g:b≠l)(j:d l=some o):m l=some o:=by
 obtain⟨a,c,h⟩:=h;exact h.see (by rw[Ad _ _ (fun e=>g e.symm)];exact j)
def Y4.base {t et:TypeId}{sz b l:Nat}{d m:PH}{es:List Value}{o:Obj}(h:Y4 t et sz b d es m)(g:b≠l)(j:d l≠none):Y4 t et sz b (d.upd l o) es (m.upd l o):=by
 obtain⟨a,c,h⟩:=h;refine⟨a,c,?_⟩;rw[Iq _ _ _ (fun e=>g e.symm)];exact h.base (by rw[Ad _ _ (fun e=>g e.symm)];exact j)
def Bmj {u:PH}{v tv:Value}{T:List (List UInt8×Nat)}{R:List Br}{F:List Al}{lab:Int}{ss:List (List UInt8)}(h:Mv u v tv T R F lab ss) :
 Fn0 prog 19 [v,tv] u fun r K=>∃ lv,r=.tuple #[lv,.int .i64 0]/\Ac K lv 3 ((Dx F ss F.length).map Bt):=by
 have W:=Lm h;have O:=fun (K:PH) (l:PH.le u K)=>Aql (h.mono l);have U:=h;have a6:=h.ok.f2;obtain⟨⟨xa,xc,xb,xd,xe,xf,rfl,ab,aa,a9⟩,ok,hS,hT⟩:=h;obtain⟨ya,yc,rfl⟩:=hS.opn;rw[A03]at hS W O U⊢;refine Fn0.o func19<|G.c call24 W ?_;rintro v1 u1 l1 rfl;refine G.nF 0 0<|G.pastI<|G.pub 4000 30 [.slice none 0 0] kV kV ?_;intro b ac ad;refine G.c call51 (O u1 l1) ?_;rintro v2 u2 l2 ⟨b1,b2,rfl,e1,e2⟩;refine G.rangeF (rfG Tryz.f19) (A0v Tryz.f19) (rfX Tryz.f19) (rfY Tryz.f19) 95 [.pointer (some ⟨b1,0,none⟩),.pointer (some ⟨b2,0,none⟩)] (fun K z=>Y4 30 79 3 b PH.mt ((Dx F ss F.length).map Bt) z) kV kV kV call95 ?_ ?_
 ·intro l r r1 r2 r3 r4 r5 r6 r7 P ae;have d:b≠l:=fun e=>by subst e;rw[Ab]at P;cases P
  have V:r.params = #[19,20]:=r3.trans kV;have hn:r.tmps.size=28:=r6.trans kV;have a7:r.tmps[7]?=some (.pointer (some ⟨b,0,none⟩)):=r7 7 _ kV;have I:∀ {es:List Value} {z:PH},Y4 30 79 3 b (Pj l (.loop r)) es z->z l=some (.loop r):=fun h=>h.see d (Ck _ _);refine Ag.weak (Arp (U.mono (l1.trans l2)) e1 e2 (fun L _ z=>Y4 30 79 3 b (Pj l (.loop r)) (L.map Bt) z) (fun _ _ _ _ _ h=>h) (fun i x K z hi hl J hx af=>?_) ?_) ?_
  ·have a8:(Dx F ss i).length<=8:=A04 (Bdl F ss i) a6;refine Amn (n:=28) (T:=[(7,.pointer (some ⟨b,0,none⟩)),(19,Ap x.1),(20,.string (mkS (Ae x.2)))]) (I J) r1 r2 (by rw[V];rfl) hn (fun y X=>?_) ?_
   ·rw[V,Aje];simp only[A1g,A11,or_false]at X;rcases X with rfl|rfl|rfl
    ·rw[A2m mV,A2m mV];exact a7
    ·rw[A2m mV];simp[hn]
    simp[hn]
   rw[r4,r5];refine RW.seq' kV (RW.reg' Tryz.f19 kV fun C J' a0=>?_);refine G.b (a0 _ _ _ (RW.reg' Tryz.f19 kV fun C J2 a1=>?_));refine G.b (a1 _ _ _ ⟨I J,RW.block' kV (RW.reg' Tryz.f19 kV fun C J3 a2=>?_)⟩);have a3:=J.base (o:=.loop (Vg r)) d (by rw[Ck];simp);obtain⟨a,c,E⟩:=a3;rw[A03]at E;have H:∀ {n c':Nat} {a':Option Addr},(((Pj l (.loop r)).upd l (.loop (Vg r))).upd b (.cells #[.slice a' n c'] 30 (0,0))) b=some (.cells [Value.slice a' n c'].toArray 30 (0,0)):=Ab _ _ _;refine G.lM none b 0 (.slice a (Dx F ss i).length c) (My (xs:=[.slice a (Dx F ss i).length c]) (E.see H) rfl)<|G.B 79 3 40 (.agg #[.int .i64 0,.string (mkS []),.string (mkS [])]) [.agg #[.int .i64 x.1.1,.string (mkS x.1.2),.string (mkS (Ae x.2))]] (Afk x) ?_;intro g1 u4 l4 e4;refine G.k 79 3 40 (.agg #[.int .i64 0,.string (mkS []),.string (mkS [])]) _ ((Dx F ss i).map Bt) [.agg #[.int .i64 x.1.1,.string (mkS x.1.2),.string (mkS (Ae x.2))]] (.slice a (Dx F ss i).length c) g1 0 1 1 E e4 (Afk x) ?_;intro v5 m5 j;rw[show ((Dx F ss i).map Bt)++[.agg #[.int .i64 x.1.1,.string (mkS x.1.2),.string (mkS (Ae x.2))]]=((Dx F ss i)++[x]).map Bt by rw[A1i];rfl]at j;obtain⟨Y,Z,rfl⟩:=j.shape;refine G.storeM 1 b 0 30 [.slice a (Dx F ss i).length c] (.slice Y (((Dx F ss i)++[x]).map Bt).length Z) kV (j.see H) (fun y X=>by simp at X;subst X;rfl) mV rfl rfl ?_;have N:=j.base (b:=b) (o:=.cells #[.slice Y (((Dx F ss i)++[x]).map Bt).length Z] 30 (0,0)) (by rw[H];simp);rw[Dp]at N;have hB:Y4 30 79 3 b ((Pj l (.loop r)).upd l (.loop (Vg r))) (((Dx F ss i)++[x]).map Bt) (m5.upd b (.cells #[.slice Y (((Dx F ss i)++[x]).map Bt).length Z] 30 (0,0))):=⟨Y,Z,N⟩;refine G.b (a2 _ _ _ ⟨hB.see d (Ab _ _ _),?_⟩);have t:=hB.base (o:=.loop r) d (by rw[Ab];simp);rw[Dp]at t;unfold Pj at t⊢;rw[Dp]at t;exact t
  ·refine⟨none,0,?_⟩;unfold Pj;rw[Iq _ _ _ (fun e=>d e.symm)];exact Af.nil _ _ _
  rintro v' K z J;refine⟨r,by rw[r1];simp,r2,I J,z.del l,Ap6 _ _,Axu _ _,?_⟩;obtain⟨a,c,E⟩:=J;have:=E.del (l:=l) (by rw[Ad _ _ (fun e=>d e.symm),Ck];simp);rw[Alu d]at this;unfold Pj at this;rw[Rk rfl]at this;exact⟨a,c,this⟩
 rintro u3 m3 l3 ⟨a,c,E⟩;refine G.giveP (ma:=m3) (sm:=PH.mt) kV (by funext g;unfold PH.or;cases m3 g<;>rfl) (fun g=>.inr rfl) (fun g=>.inl rfl) ?_
 intro u4 l4 Q;have a4:m3 b=some (.cells [Value.slice a ((Dx F ss F.length).map Bt).length c].toArray 30 (0,0)):=E.see (Ab _ _ _);exact G.lU none b 0 (.slice a ((Dx F ss F.length).map Bt).length c) ((My (xs:=[.slice a ((Dx F ss F.length).map Bt).length c]) a4 rfl).mono Q)<|G.r (.tuple #[.slice a ((Dx F ss F.length).map Bt).length c,.int .i64 0]) ⟨rfl,_,rfl,E.list Q⟩
end
end Go.Proofs.YtnjlhkppabfebaaGreatDoor
