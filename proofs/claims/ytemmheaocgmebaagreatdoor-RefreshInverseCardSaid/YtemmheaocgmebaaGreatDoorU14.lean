/- Parts of one proof, joined by a program. -/
import Derived.Test.YtemmheaocgmebaaGreatDoorU13
import Derived.Test.YtemmheaocgmebaaGreatDoorCards
import Derived.WalkKit
import Derived.ProofKit
import Derived.OpenShut
import Derived.Deep.DeepHandedRow
import Derived.Deep.DeepWitnessRowRef
import Derived.Lib.LaidTab
import Derived.Stop.LaidErr
set_option linter.defProp false
set_option linter.unusedVariables false
set_option linter.unusedSimpArgs false
set_option linter.unusedSectionVars false
set_option maxHeartbeats 16000000
namespace Go.Proofs.YtemmheaocgmebaaGreatDoor
open Go.Proofs.Tryz
open Go.RowKit Go.MapKept
def Awg {u:PH}{k:Int}{f1 f2:N3}{fv:Value}:Fn0 prog 231 [.int .i64 k,nv f1,nv f2,fv] u fun r _=>r=.tuple #[]:=Fn0.o func231<|G.r (.tuple #[]) ⟨rfl,rfl⟩
def Bag.pre:∀ {l l':List Arr} {m:PH},Bag m (l++l')->Bag m l
 |[],_,_,_=>trivial
 |_::_,_,_,⟨m0,h1,h2⟩=>⟨m0,h1,Bag.pre h2⟩
def Bag.tl {m:PH}{x:Arr}{l:List Arr}(h:Bag m (x::l)):Bag m l:=Bag.pre (l':=[x]) (Bag.perm (A5r (l₁:=[x])) h)
def Axv {W:List Int}{j t:Nat}{x:Int}(h:j<W.length):gZ (W.set j x) t=if j=t then x else gZ W t:=by
 unfold gZ;rw[A02,A1z,A02];by_cases e:j=t
 ·subst e;simp[h]
 simp[e]
def Ay6 {A B:List Int}{n:Nat}(j:A.length=n)(m:B.length=n)(h:∀ t,t<n->gZ A t=gZ B t):A=B:=by
 refine A5l oV fun i e g=>?_;rw[<-Ol e,<-Ol g];exact h i oV
def Aou {u m:PH}{go n F E:Nat}{f:N3}{K:List (Value×List Value)}{X:List (List Int)}{M:Nat->Nat->Int}(hn:n<=12)(h0:0<n)(hL:Tc n M E 0 1 X)
 (hs:∀ i k,i<n->k<n->(M i k:Rat)=(M k i:Rat)) (hp:∀ x,(∃ i,i<n/\x i≠0)->0<frm n (fun i j=>(M i j:Rat)) x) (hE:∀ k,k<=n->zs E k<=1000000) (T:NAt u K X)
 (g:Bag m (oN (.slice (some ⟨go,0,none⟩) n F) K::K.map C3)) :
 Ag prog 230 [.agg #[.bool f.b,.slice f.a f.n f.c,.slice (some ⟨go,0,none⟩) n F],.func (.func 231) #[] #[]] u m fun r _ _=>r=.int .i64 n:=by
 refine Ag.o func230<|G.c call121 (Kf (z:=1) oV oV) ?_;intro v1 u1 l1 k1;obtain⟨f1,rfl⟩:=k1.opN;refine G.pastI<|G.pub 1003 185 [.slice (some ⟨go,0,none⟩) n F] kV kV ?_;intro N bu aj;have ag:Bag (m.upd N (.cells [Value.slice (some ⟨go,0,none⟩) n F].toArray 185 (0,0))) (Kq N 185 [.slice (some ⟨go,0,none⟩) n F]::oN (.slice (some ⟨go,0,none⟩) n F) K::K.map C3) :=
  ⟨m,R1 aj (fun x hx=>by simp at hx;subst hx;exact⟨rfl,rfl⟩),g⟩
 refine G.l (ι:=Nat×N3×Int×List (Value×List Value)×List (List Int)) (fun i=>[(1,.v (.func (.func 231) #[] #[])),(5,.v (.pointer (some ⟨N,0,none⟩))),(6,.p 1004 0),(15,iV n),(16,iV i.1)])
  (fun i=>[(1004,⟨141,Age i.2.1⟩)])
  (fun i u' m'=>i.1<=n/\Bi u' (nv i.2.1) i.2.2.1/\Tc n M E i.1 i.2.2.1 i.2.2.2.2/\NAt u' i.2.2.2.1 i.2.2.2.2/\Bag m' (Kq N 185 [.slice (some ⟨go,0,none⟩) n F]::oN (.slice (some ⟨go,0,none⟩) n F) i.2.2.2.1::i.2.2.2.1.map C3)) (fun i=>n-i.1)
  (0,f1,1,K,X) ⟨A1t _,k1,hL,T.mono l1,ag⟩ ?_
 clear ag g T hL k1;rintro J ⟨k,f2,v,R,Y⟩ hJ u2 m2 l2 ⟨hk,hv,hL,T,g⟩;simp only at hk hv hL T g hJ;by_cases C:k<n
 ·refine G.lT k n<|G.pastI<|G.pub 4001 3 [.int .i64 k] kV kV ?_;intro Q bv ak;have L:Bag (m2.upd Q (.cells [Value.int .i64 k].toArray 3 (0,0))) (Kq Q 3 [.int .i64 k]::Kq N 185 [.slice (some ⟨go,0,none⟩) n F]::oN (.slice (some ⟨go,0,none⟩) n F) R::R.map C3) :=
   ⟨m2,R1 ak (fun x hx=>by simp at hx;subst hx;exact⟨rfl,rfl⟩),g⟩
  clear g;generalize m2.upd Q _=m3 at L⊢;have hX:=hL.rc;have br:=hE k oV;obtain⟨gk,ck,ek,bi,bg,b4,al,ah⟩:=Ur L T hX C h0;obtain⟨fp,p5,p6,p7⟩:=ah k C;have c0:=hL.piv hs hp C;have a3:=hL.sz;have ao:=a3 k k C C;refine G.lM none N 0 (.slice (some ⟨go,0,none⟩) n F) (Cg L (i:=1) (j:=0) rfl rfl)<|G.lM none Q 0 (.int .i64 k) (Cg L (i:=0) (j:=0) rfl rfl)<|G.a go 0 n F k 1 C<|G.lM none go (0+k*1) _ al<|G.lM none Q 0 (.int .i64 k) (Cg L (i:=0) (j:=0) rfl rfl)<|G.a gk 0 n ck k 2 C<|G.lM (some 2) gk (0+k*2) (nv fp) p7<|G.c call195 (N1 (p6) (A04 ao oV)) ?_;rintro v3 u3 l3 rfl;have bj:sgn (enZ Y k k)=1:=by unfold sgn;rw[if_neg oV,if_pos oV]
  rw[bj];refine G.kF 1 0<|G.lM none Q 0 (.int .i64 k) (Cg L (i:=0) (j:=0) rfl rfl)<|G.c call231 (Awg (k:=(k:Int)) (f1:=fp) (f2:=f2) (fv:=.func (.func 261) #[] #[.pointer (some ⟨N,0,none⟩),.pointer (some ⟨Q,0,none⟩)])) ?_;rintro v4 u4 l4 rfl;refine G.lM none Q 0 (.int .i64 k) (Cg L (i:=0) (j:=0) rfl rfl)<|G.i k<|G.l (ι:=Nat×List (Value×List Value)×List (List Int)) (fun i=>[(1,.v (.func (.func 231) #[] #[])),(5,.v (.pointer (some ⟨N,0,none⟩))),(6,.p 1004 0),(7,.v (.pointer (some ⟨Q,0,none⟩))),(8,.p 5007 0),(9,iV i.1),(15,iV n),(16,iV k)])
   (fun _=>[(1004,⟨141,Age f2⟩),(5007,⟨141,Age fp⟩)])
   (fun i u' m'=>k+1<=i.1/\i.1<=n/\LdN n k v Y i.2.2 i.1/\NAt u' i.2.1 i.2.2/\Bag m' (Kq Q 3 [.int .i64 k]::Kq N 185 [.slice (some ⟨go,0,none⟩) n F]::oN (.slice (some ⟨go,0,none⟩) n F) i.2.1::i.2.1.map C3)) (fun i=>n-i.1)
   (k+1,R,Y) ⟨A08 _,C,LdN.init hX,T.mono (l3.trans l4),L⟩ ?_
  clear L bi bg b4 al ah p5 p7 T;rintro J2 ⟨i,h,Z⟩ ae u5 m5 l5 ⟨be,bc,hZ,T,g⟩;simp only at be bc hZ T g ae;have a9:=hZ.1;have a7:=(l3.trans l4).trans l5;have bk:=hv.mono a7;have am:=p6.mono a7;refine G.lM none N 0 (.slice (some ⟨go,0,none⟩) n F) (Cg g (i:=1) (j:=0) rfl rfl) ?_;by_cases I:i<n
  ·refine G.lT i n<|G.lM none Q 0 (.int .i64 k) (Cg g (i:=0) (j:=0) rfl rfl)<|G.i k ?_;obtain⟨O,U,ei,ac,bw,b3,bx,bs⟩:=Ur g T a9 I h0;obtain⟨gs,cs,es,ap,c1,bq,bz,b8⟩:=Ur g T a9 C h0;have bh:h.length=n:=by rw[T.1,a9.1]
   have b0:gMZ Z i=gMZ Y i:=by rw[hZ.2 i I,if_neg oV]
   have b1:gMZ Z k=gMZ Y k:=by rw[hZ.2 k C,if_neg oV]
   have a8:(gMZ Y i).length=n:=hX.2 i I;have ai:=fun (j:Nat) (hj:j<n)=>hL.fit C I hj;have bb:=a3 i k I C;have b6:∀ t,t<n->nl (enZ Y i t).natAbs<=zs E k:=fun t ht=>a3 i t I ht;have b7:∀ t,t<n->nl (enZ Y k t).natAbs<=zs E k:=fun t ht=>a3 k t C ht;refine G.l (ι:=Nat×List Value×List Int) (fun y=>[(1,.v (.func (.func 231) #[] #[])),(5,.v (.pointer (some ⟨N,0,none⟩))),(6,.p 1004 0),(7,.v (.pointer (some ⟨Q,0,none⟩))),(8,.p 5007 0),(9,iV i),(10,iV y.1),(15,iV n),(16,iV k)])
    (fun _=>[(1004,⟨141,Age f2⟩),(5007,⟨141,Age fp⟩)])
    (fun y u' m'=>k+1<=y.1/\y.1<=n/\y.2.2.length=n/\(∀ t,t<n->gZ y.2.2 t=if k<t/\t<y.1 then (enZ Y i t*enZ Y k k-enZ Y i k*enZ Y k t)/v else enZ Y i t)/\AtP Bi u' y.2.1 y.2.2 /\
     Bag m' (Kq Q 3 [.int .i64 k]::Kq N 185 [.slice (some ⟨go,0,none⟩) n F]::oN (.slice (some ⟨go,0,none⟩) n F) h::(h.set i (.slice (some ⟨O,0,none⟩) n U,y.2.1)).map C3)) (fun y=>n-y.1)
    (k+1,ei,gMZ Y i) ⟨A08 _,oV,a8,fun t ht=>by rw[if_neg oV];rfl,by rw[<-b0];exact b3,by rw[Ny ac];exact g⟩ ?_
   clear g;rintro J3 ⟨j,H,W⟩ af u6 m6 l6 ⟨bf,bd,a2,hW,V,g⟩;simp only at bf bd a2 hW V g af;have bt:H.length=n:=by rw[V.1,a2]
   have a0:(h.set i ((Value.slice (some ⟨O,0,none⟩) n U),H))[i]?=some ((Value.slice (some ⟨O,0,none⟩) n U),H):=by rw[A1z];simp[bh,I]
   have aa:(h.set i ((Value.slice (some ⟨O,0,none⟩) n U),H))[k]?=some (Value.slice (some ⟨gs,0,none⟩) n cs,es):=by rw[A1z,if_neg oV];exact ap
   refine G.lM none N 0 (.slice (some ⟨go,0,none⟩) n F) (Cg g (i:=1) (j:=0) rfl rfl) ?_;by_cases P:j<n
   ·refine G.lT j n ?_;have ab:ElP m6 go (0+i*1) (Value.slice (some ⟨O,0,none⟩) n U):=g.el 2 (x:=oN (.slice (some ⟨go,0,none⟩) n F) h) rfl rfl (by show (h.map (·.1))[i]?=_;rw[A1a,ac];rfl);have ba:ElP m6 go (0+k*1) (Value.slice (some ⟨gs,0,none⟩) n cs):=g.el 2 (x:=oN (.slice (some ⟨go,0,none⟩) n F) h) rfl rfl (by show (h.map (·.1))[k]?=_;rw[A1a,ap];rfl);obtain⟨e,e1,e2⟩:=V.at (j:=j) oV;obtain⟨fe,rfl⟩:=e2.opN;rw[<-Ol oV,hW j P,if_neg oV]at e2;obtain⟨d,d1,d2⟩:=V.at (j:=k) oV;obtain⟨fd,rfl⟩:=d2.opN;rw[<-Ol oV,hW k C,if_neg oV]at d2;obtain⟨fs,s5,s6,_⟩:=b8 j P;have b2:enZ Z k j=enZ Y k j:=by unfold enZ;rw[b1]
    rw[b2]at s6;have he:ElP m6 O (0+j*2) (nv fe):=g.el (i+3) (x:=C3 ((Value.slice (some ⟨O,0,none⟩) n U),H)) (F8 a0) rfl e1;have hd:ElP m6 O (0+k*2) (nv fd):=g.el (i+3) (x:=C3 ((Value.slice (some ⟨O,0,none⟩) n U),H)) (F8 a0) rfl d1;have b9:ElP m6 gs (0+j*2) (nv fs):=g.el (k+3) (x:=C3 (Value.slice (some ⟨gs,0,none⟩) n cs,es)) (F8 aa) rfl s5;refine G.lM none N 0 (.slice (some ⟨go,0,none⟩) n F) (Cg g (i:=1) (j:=0) rfl rfl)<|G.a go 0 n F i 1 I<|G.lM none go (0+i*1) _ ab<|G.lM none N 0 (.slice (some ⟨go,0,none⟩) n F) (Cg g (i:=1) (j:=0) rfl rfl)<|G.a go 0 n F i 1 I<|G.lM none go (0+i*1) _ ab<|G.a O 0 n U j 2 P<|G.lM (some 2) O (0+j*2) (nv fe) he<|G.lM none N 0 (.slice (some ⟨go,0,none⟩) n F) (Cg g (i:=1) (j:=0) rfl rfl)<|G.a go 0 n F i 1 I<|G.lM none go (0+i*1) _ ab<|G.lM none Q 0 (.int .i64 k) (Cg g (i:=0) (j:=0) rfl rfl)<|G.a O 0 n U k 2 C<|G.lM (some 2) O (0+k*2) (nv fd) hd<|G.lM none N 0 (.slice (some ⟨go,0,none⟩) n F) (Cg g (i:=1) (j:=0) rfl rfl)<|G.lM none Q 0 (.int .i64 k) (Cg g (i:=0) (j:=0) rfl rfl)<|G.a go 0 n F k 1 C<|G.lM none go (0+k*1) _ ba<|G.a gs 0 n cs j 2 P<|G.lM (some 2) gs (0+j*2) (nv fs) b9 ?_;obtain⟨z1,z2,z3,z4⟩:=ai j P;refine G.c call126 (Ea e2 (am.mono l6) (A04 (b6 j P) oV) (A04 ao oV)) ?_;intro c7 c3 a1 au;obtain⟨bn,rfl⟩:=au.opN;refine G.c call126 (Ea (d2.mono a1) (((s6.mono l6)).mono a1) (A04 bb oV) (A04 (b7 j P) oV)) ?_;intro c8 c4 a4 av;obtain⟨bo,rfl⟩:=av.opN;refine G.c call241 (Ac7 (au.mono a4) av (A04 z1 oV) (A04 z2 oV)) ?_;intro ca c5 ad aw;obtain⟨bp,rfl⟩:=aw.opN;have c2:=hL.v0;refine G.c call190 (M1 aw (bk.mono (((l6.trans a1).trans a4).trans ad)) (A04 z3 oV) (A04 hL.vs oV) oV) ?_;rintro cb c6 az ⟨cc,cd,rfl,ax,ay⟩;obtain⟨a6,rfl⟩:=ax.opN;obtain⟨bm,rfl⟩:=ay.opN;obtain⟨m0,aq,an⟩:=g.focus (i+3) (F8 a0);rw[Ack]at aq;refine G.a O 0 n U j 2 P<|G.storeA 2 m0 H O n U j (nv a6) kV aq oV rfl rfl ?_;intro bl ar;have a5:=an (C3 ((Value.slice (some ⟨O,0,none⟩) n U),H.set j (nv a6))) bl ar;rw[Afy,A6r]at a5;refine G.i j<|G.b (af (j+1,H.set j (nv a6),W.set j ((enZ Y i j*enZ Y k k-enZ Y i k*enZ Y k j)/v)) _ _ _ cV ((((l6.trans a1).trans a4).trans ad).trans az) ⟨dV,dV,by simpa using a2,fun t ht=>?_,?_,a5⟩ dV)
    ·dsimp only;rw[Axv oV];by_cases e:j=t
     ·subst e;rw[if_pos rfl,if_pos ⟨oV,oV⟩]
     rw[if_neg e,hW t ht];by_cases e3:k<t/\t<j
     ·rw[if_pos e3,if_pos ⟨e3.1,oV⟩]
     rw[if_neg e3,if_neg oV]
    exact (V.mono (fun _ _ k=>k.mono (((a1.trans a4).trans ad).trans az))).set j ax
   obtain rfl:j=n:=oV;refine G.lF j j ?_;have b5:W=U9 v (enZ Y k k) (enZ Y i k) k (gMZ Y k) (gMZ Y i):=Ay6 a2 (by rw[Abe];exact a8) fun t ht=>by
    rw[hW t ht,Afq (by rw[a8];exact ht)];by_cases e:k<t
    ·rw[if_pos ⟨e,ht⟩,if_pos e];rfl
    rw[if_neg oV,if_neg e];rfl
   subst b5;rw[<-Aq8 (es':=H) ac]at g;exact G.i i<|G.b (ae (i+1,h.set i ((Value.slice (some ⟨O,0,none⟩) j U),H),Z.set i (U9 v (enZ Y k k) (enZ Y i k) k (gMZ Y k) (gMZ Y i))) _ _ _ cV (l5.trans l6) ⟨dV,dV,hZ.row hX I oV,(T.mono l6).set oV V,g⟩ dV)
  obtain rfl:i=n:=oV;exact G.lF i i<|G.i k<|G.b (hJ (k+1,fp,enZ Y k k,h,Z) _ _ _ cV (l2.trans a7) ⟨dV,am,hL.step hs hp C hZ,T,g.tl⟩ dV)
 obtain rfl:k=n:=oV;exact G.lF k k<|G.lM none N 0 (.slice (some ⟨go,0,none⟩) k F) (Cg g (i:=0) (j:=0) rfl rfl)<|G.r (.int .i64 k) rfl
section
variable {A:List (List Rat)}{u:PH}{v:Value}
theorem Amv {n:Nat}{S A:Nat->Nat->Rat}{d:Rat}(h:∀ i k,i<n->k<n->S i k=A i k*d)(x:Nat->Rat):frm n S x=d*frm n A x:=by
 unfold frm;rw[<-B4];refine Ah fun i hi=>?_;have e:Bb n (fun k=>S i k*x k)=d*Bb n fun k=>A i k*x k:=by
  rw[<-B4];exact Ah fun k g=>by rw[h i k hi g];grind
 rw[e];grind
structure PdM (A:List (List Rat)):Prop where
 sq:Sq A
 n0:0<A.length
 n6:A.length<=6
 sy:Avc A
 lt:∃ L,Y5 A L 86
 pd:∀ x,(∃ i,i<A.length/\x i≠0)->0<frm A.length (en A) x
def Avc.en {A:List (List Rat)}(h:Avc A)(m:Sq A){i k:Nat}(hi:i<A.length)(e:k<A.length):en A i k=en A k i:=by
 have g:k<A[i].length:=by rw[m.len hi];exact e
 have j:i<A[k].length:=by rw[m.len e];exact hi
 unfold Go.Proofs.YtemmheaocgmebaaGreatDoor.en;rw[Ch hi,Ch e,Cu g,Cu j];exact h i k hi e g j
def Avr (h:C7 u v (Cv A))(F:PdM A):Fn0 prog 180 [v] u fun r _=>r=.int .i64 A.length:=by
 obtain⟨L,P⟩:=F.lt;have C:=F.sq;have O:=C.le;have h0:=F.n0;have R:=C.tx;have W:∀ r∈A,r.length<=12:=fun r V=>by rw[C.row r V];exact O
 refine Fn0.o func180<|G.callO _ _ kV call120 (Akc h R oV (fun r V=>by have:=W r V;omega) P.den P.pos P.nl) ?_;rintro v6 u6 m6 l6 ⟨D,Z,a6,c6,E,H,Q,J,rfl,a0,K,m⟩ _;rw[By];have n:E.length=A.length:=by rw[K.1];simp
 obtain⟨go,co,X⟩:=m.ptr 0 rfl (by intro e;simp only[oN,A6c]at e;rw[e]at n;simp at n;omega);simp only[oN,A03,n,Value.slice.injEq,true_and]at X;obtain⟨rfl,rfl⟩:=X;have N:∀ i,i<A.length->gMZ (A.map (Bp D)) i=Bp D (gM A i):=fun i hi=>by rw[Xj (by simpa using hi),A3v,Ch hi]
 have z:=fun (i k:Nat) (hi:i<A.length) (t:k<A.length)=>Ak4 (i:=i) (k:=k) C J hi t;have U:Tc A.length (Oq D A) 86 0 1 (A.map (Bp D)):=by
  refine Tc.init ⟨mV,fun i hi=>?_⟩ (fun i j hi Y=>?_) (fun i j hi Y=>?_) oV
  ·rw[N i hi];unfold Bp;rw[A03,Ch hi,C.len hi]
  ·unfold enZ Oq;rw[N i hi]
  have T:j<(gM A i).length:=by rw[Ch hi,C.len hi];exact Y
  unfold Oq;rw[Wf T];exact Yp ((P.dig D Q H).2 _ (Abw hi) _ (Xr T) (J _ (Abw hi) _ (Xr T)))
 have I:(0:Rat)<(D:Rat):=by exact_mod_cast H
 refine G.A call230 (Aou (f:=Z) O h0 U (fun i k hi t=>by rw[<-z i k hi t,<-z k i t hi,F.sy.en C hi t]) (fun x hx=>by
  rw[Amv (A:=en A) (d:=(D:Rat)) (fun i k hi t=>(z i k hi t).symm)];exact Rat.mul_pos I (F.pd x hx)) (fun k t=>A04 (Aqf 86 (show k<=12 by omega)) fV) K m) ?_
 rintro v7 u7 m7 l7 rfl _;rw[By];exact G.drop PH.mt kV (fun g o ho=>by cases ho)<|G.r (.int .i64 A.length) ⟨rfl,rfl⟩
def Amx (z:Hx u)(h:C7 u v (Cv A))(e:PdM A):Fn0 prog 179 [v] u fun r _=>r=.int .i64 0:=by
 obtain⟨L,g⟩:=e.lt;have j:=e.sq;have n:=e.n6;refine Fn0.o func179<|G.c call186 (Adf h j) ?_;rintro I E m rfl;refine G.nF 0 0<|G.c call229 (Aiy (h.mono m) j e.sy) ?_;rintro J F l2 rfl;refine G.c call119 (Aie (N:=6) (K:=86) (z.mono (m.trans l2)) (h.mono (m.trans l2)) j.tx n (fun r t=>by rw[j.row r t];exact n) oV oV oV g.den g.pos g.nl g.dig) ?_;rintro O H C rfl;exact G.r (.int .i64 0) ⟨rfl,rfl⟩
def Ab0 (m:Hx u)(h:C7 u v (Cv A))(g:PdM A):Fn0 prog 102 [v] u fun r _=>r=.tuple #[.bool true,.int .i64 0]:=by
 have j:=fun (e:PH) (l:PH.le u e)=>Amx (m.mono l) (h.mono l) g;have hp:=fun (e:PH) (l:PH.le u e)=>Avr (h.mono l) g;obtain⟨a,c,rfl⟩:=h.opn;rw[A3]at h j hp⊢;refine Fn0.o func102<|G.c call179 (j _ (PH.le_refl _)) ?_;rintro C t n rfl;refine G.nF 0 0<|G.c call180 (hp _ n) ?_;rintro E z l2 rfl;exact G.eT A.length A.length<|G.r (.tuple #[.bool true,.int .i64 0]) ⟨rfl,rfl⟩
end
section
variable {C:CF}{P:List Par}{X:List (List Rat)}{q:Rat}
def At5 {u:PH}{v:Value}(z:Ac u v 2 (P.map Ap))(Q:Hb Bk P)(V:P.length<=1000000) :
 Fn0 prog 99 [v] u fun r _=>r=.bool true:=by
 obtain⟨pa,pc,rfl⟩:=z.opn;rw[A03]at z⊢;refine Fn0.o func99<|G.l (ι:=Nat) (fun i=>[(0,sV pa P.length pc),(3,iV i)]) (fun _=>[])
  (fun i Y T=>1<=i/\T=PH.mt) (fun i=>P.length-i) 1 ⟨oV,rfl⟩ ?_
 rintro J i O Z W l2 ⟨hi,rfl⟩;by_cases g:i<P.length
 ·refine G.lT i P.length ?_;have m:=z.mono l2;have E:P[i]?=some P[i]:=A01 g;have F:P[i-1]?=some (P[i-1]'oV):=A01 oV;have H:Bk (P[i-1]'oV) P[i]<0:=A3n.1 Q (i-1) i oV g oV;obtain⟨n,t,I,L⟩:=Ac.at' m (j:=i) (e:=Ap P[i]) (by simp[E]);obtain⟨K,U,h,N⟩:=Ac.at' m (j:=i-1) (e:=Ap (P[i-1]'oV)) (by simp[F]);rw[I]at h;cases h;subst I;refine G.s i 1 (i-1:Nat)<|G.a n t P.length pc (i-1) 2 oV<|G.lU (some 2) n (t+(i-1)*2) (Ap (P[i-1]'oV)) N<|G.a n t P.length pc i 2 g<|G.lU (some 2) n (t+i*2) (Ap P[i]) L<|G.c call127 (Re _ _ true (decide_eq_true H)) ?_;rintro v3 u3 R rfl;exact G.i i<|G.b (O (i+1) _ _ _ cV (l2.trans R) ⟨oV,rfl⟩ oV)
 exact G.lF i P.length<|G.r (.bool true) ⟨rfl,rfl⟩
def H6.frmX (h:H6 P C q X)(j:0<q)(g:0<C.c)(hp:∀ z,0<=Dh z P C)(e:P.Nodup)(x:Nat->Rat)(m:∃ i,i<P.length+1/\x i≠0):0<frm (P.length+1) (en X) x :=
 Avk (Tg Mn h.inv) (fun y n=>Axs j g hp e y n) m
def H9.pdm {F:List Al}{b:List Rat}{s c:Rat}(h:H9 P C q X b s c)(hp:Td F P q)(g:Ug P C)(z:P.length<=5):PdM X:=by
 have j:=h.okF hp g;have H:=j.n;refine⟨j.sq,oV,oV,fun i k hi E t u=>?_,h.light hp g z,fun x m=>?_⟩
 ·have e:=Ak9 Mn h.inv.inv i k oV oV;unfold en at e;rw[Ch hi,Ch E,Cu t,Cu u]at e;exact e
 rw[H]at m⊢;exact h.inv.frmX hp.pen.pos g.pos g.psd (hp.srt.nodup Et) x m
def Anl {u:PH}{U Q:Value}{T:List (List UInt8×Nat)}{R:List Br}{F:List Al}{l:Nat}{P:List Par}{X:List (List Rat)}{b:List Rat}{s c q:Rat}{C:CF}
 (ht:Hx u) (O:H5 u U T R F (l:Int)) (ok:Bl u T R F (l:Int)) (H:Ma u Q P X b s c q) (E:H9 P C q X b s c) (hp:Td F P q) (z:Ug P C) (V:P.length<=5) :
 Fn0 prog 43 [U,Q] u fun r _=>r=.bool true:=by
 have g:=E.okF hp z;have e:=g.n;have h:=g.bn;have I:=Adn O ok;obtain⟨a1,c1,a2,c2,a3,c3,rfl,_⟩:=id O;obtain⟨pa,pc,xa,xc,ra,rc,rfl,W,t,N⟩:=id H;rw[e]at t H;rw[h]at N H;rw[e,h];refine Fn0.o func43<|G.c call98 I ?_;rintro v1 u1 j rfl;refine G.nF 0 0<|G.c call99 (At5 (W.mono j) hp.srt oV) ?_;rintro v2 u2 l2 rfl;refine G.c call100 (Xy (pa:=pa) (n:=P.length) (pc:=pc) (xa:=xa) (xc:=xc) (ra:=ra) (rc:=rc) (s:=s) (c:=c) (q:=q) (a1:=a1) (n1:=T.length) (c1:=c1) (a2:=a2) (n2:=R.length) (c2:=c2) (a3:=a3) (n3:=F.length) (c3:=c3) (lab:=(l:Int)) (t.mono (j.trans l2)) e (fun r K=>by rw[g.sq.row r K,e]) oV) ?_;rintro v3 u3 L rfl;refine G.c call101 (Uw (pa:=pa) (n:=P.length) (pc:=pc) (xa:=xa) (xc:=xc) (ra:=ra) (rc:=rc) (s:=s) (c:=c) (q:=q) (a1:=a1) (n1:=T.length) (c1:=c1) (a2:=a2) (n2:=R.length) (c2:=c2) (a3:=a3) (n3:=F.length) (c3:=c3) (lab:=(l:Int)) (t.mono ((j.trans l2).trans L)) (N.mono ((j.trans l2).trans L)) e (fun r K=>by rw[g.sq.row r K,e]) h g.sq.tx g.bt g.st g.ct hp.pen.tx oV) ?_;rintro v4 u4 l4 rfl;have m:=((j.trans l2).trans L).trans l4;have J:=Ab0 (ht.mono m) (t.mono m) (E.pdm hp z V);refine G.c call102 J ?_;rintro v5 u5 l5 rfl;have Y:sgn c.num=1:=C5 (R4 (by rw[E.ct];exact z.pos));have Z:sgn q.num=1:=C5 (R4 hp.pen.pos);refine G.eT 0 0<|G.c call103 (S7 g.ct) ?_;rintro v6 u6 l6 rfl;refine G.gT (sgn c.num) 0<|G.c call103 (S7 hp.pen.tx) ?_;rintro v7 u7 l7 rfl;exact G.gT (sgn q.num) 0<|G.r (.bool true) ⟨rfl,rfl⟩
end
section
variable {g:Nat}{u:PH}
def Vi:List (List UInt8×Nat):=[([120],2),([121],2)]
def Zt (g:Nat):List Br:=[([114],[0,1],(some ⟨g,0,none⟩,2))]
def Jc:List Al:=[(0,1,0)]
def Azf (h:Ac u (.slice (some ⟨g,0,none⟩) 2 2) 1 (Ai [0,1])):Bl u Vi (Zt g) Jc 1 where
 att:=⟨Sc jV,fun a j=>by simp[Vi]at j;rcases j with rfl|rfl<;>decide⟩
 rel:=⟨Sc (by show (([[114]]:List (List UInt8)).all Hn&&decide ([[114]]:List (List UInt8)).Nodup)=true;decide +kernel),fun r e=>by simp[Zt]at e;subst e;simp,fun r e a j=>by simp[Zt]at e;subst e;simp at j;show a<2;omega,fun r e=>by simp[Zt]at e;subst e;simp,fun r e k x y n m=>by
  simp[Zt]at e;subst e
  match k,n,m with
  |0,n,m=>simp at n m;omega
  |k+1,n,m=>simp at m,fun a j=>⟨_,A12.2 rfl,by
  have:a<2:=j;simp;omega⟩,fun r e=>by simp[Zt]at e;subst e;exact h⟩
 feat:=⟨fun f t=>by
  simp[Jc]at t;subst t;exact⟨[120],2,rfl,.inl ⟨rfl,rfl,fV⟩,fV⟩,fV⟩
 t1:=fV
 t2:=fV
 r1:=by show 0<1;omega
 r2:=by show 1<=6;omega
 f2:=fV
 l1:=fV
 l2:=fun l z=>by
  have:l=1:=oV
  subst this;exact⟨[121],rfl⟩
def Ajf:Bw Vi [[49],[50]]:=⟨rfl,fun i x t e h=>by
 match i,e,h with
 |0,e,h=>cases e;cases h;exact .inr (.inr (.inr ⟨rfl,1,I7,jV⟩))
 |1,e,h=>cases e;cases h;exact .inr (.inr (.inr ⟨rfl,2,Au1,jV⟩))
 |i+2,e,h=>simp[Vi]at e⟩
def Abn:Bw Vi [[48],[52]]:=⟨rfl,fun i x t e h=>by
 match i,e,h with
 |0,e,h=>cases e;cases h;exact .inr (.inr (.inr ⟨rfl,0,⟨jV,jV⟩,jV⟩))
 |1,e,h=>cases e;cases h;exact .inr (.inr (.inr ⟨rfl,4,⟨jV,jV⟩,jV⟩))
 |i+2,e,h=>simp[Vi]at e⟩
def Ad2:List Par:=[((0:Int),[])]
def Ai2 (C:CF):Nn Jc C Ad2:=⟨A6f _ _,fun p=>by
 constructor
 ·intro h;have:p=(0,[]):=by simpa[Ad2] using h
  subst this;exact .inl ⟨0,(0,1,0),rfl,rfl,rfl⟩
 rintro (⟨i,f,rfl,hf,_⟩|⟨_,i,f,_,hf,h2⟩)
 ·have:i<1:=(A05.1 hf).1;have:i=0:=oV;subst this;exact A12.2 rfl
 have:i<1:=(A05.1 hf).1;have:i=0:=oV;subst this;cases hf;simp at h2⟩
def Ws:Fd 1:=⟨jV,⟨30,jV,fV⟩,I7.tx⟩
def Qr (g:Nat):List Dm:=[([[49],[50]],1,(some ⟨g,0,none⟩,2))]
def Ml (g h:Nat):List Dm:=[([[49],[50]],1,(some ⟨g,0,none⟩,2)),([[48],[52]],1,(some ⟨h,0,none⟩,2))]
def Apl (g h e:Nat):Cf Jc 1 (Ml g h)=(Cf Jc 1 (Qr e)).add ((cfT Jc 1 [[48],[52]]).scale ((1:Int):Rat)):=rfl
def Ays:Av5 Jc 1 Ad2 [[48],[52]]:=⟨jV,jV⟩
def Azq (ok:Bl u Vi (Zt g) Jc 1)(h:Nat):0<(Cf Jc 1 (Qr h)).c:=by
 have o:=Apr ok Ajf jV;have e:Cf Jc 1 (Qr h)=(CF.num 0).add ((cfT Jc 1 [[49],[50]]).scale ((1:Nat):Rat)):=rfl;rw[e];show 0<0+(cfT Jc 1 [[49],[50]]).c*((1:Nat):Rat);rw[o.c];decide +kernel
theorem Azp (ok:Bl u Vi (Zt g) Jc 1)(e h:Nat):0<(Cf Jc 1 (Ml e h)).c:=by
 have o:=Apr ok Abn jV;have j:=Azq ok e;rw[Apl e h e];show 0<(Cf Jc 1 (Qr e)).c+(cfT Jc 1 [[48],[52]]).c*((1:Int):Rat);rw[o.c];have:(0:Rat)<1*((1:Int):Rat):=jV
 grind
end
def Ld {u:PH}{v:Value}{T:List (List UInt8×Nat)}{R:List Br}{F:List Al}{lab:Int}{a:Option Addr}{c:Nat}{L:List Dm}(X:H5 u v T R F lab)(ok:Bl u T R F lab)(H:T.length<=8)(hL:Ac u (.slice a L.length c) 2 (L.map F3))(hW:WOK u T L)(hl:L.length<=12) :
 Fn0 prog 11 [v,.slice a L.length c] u fun r N=>Azl N r (Cf F lab L) (255*L.length):=by
 have Y:=fun (N:PH) (l:PH.le u N)=>T2 (X.mono l) (ok.mono l);obtain⟨xa,xc,xb,xd,xe,xf,rfl,ah,ag,af⟩:=id X;have ai:=Awp H;have I:∀ n,∀ y∈L.take n,Bw T y.1/\y.2.1<=7:=fun n y hy=>by
  obtain⟨_,q1,_,q2⟩:=hW y (A27 hy);exact⟨q1,q2⟩
 have g:∀ n,CFS (Cf F lab (L.take n)):=fun n=>(Aee ok H (I n) (by rw[A1e];omega)).1;refine Fn0.o func11<|G.c call45 (Y u (PH.le_refl _)) ?_;rintro v1 u1 l1 rfl;refine G.nF 0 0<|G.gF L.length 2000<|G.callO _ _ kV call46 (Jm (n:=0) oV oV) ?_;intro v2 u2 m2 l2 k2 _;rw[By];have n0:(⟨((0:Int):Rat),fun _=>0,fun _=>0⟩:CF)=CF.num 0:=by rw[show ((0:Int):Rat)=0 by decide +kernel];rfl
 rw[n0]at k2;obtain⟨b,a2,n,c2,b',a',n',c',g1,g2,rfl⟩:=Oe k2;refine G.l (ι:=Nat×(Bool×SlI)×(Bool×SlI)×Nat×Nat) (fun i=>[(2,.p 0 0),(4,.p 1 0),(7,.p 6001 0),(22,sV a L.length c),(23,iV L.length),(24,iV i.1)])
  (fun i=>[(0,⟨30,[sV xa T.length xc,sV xb R.length xd,sV xe F.length xf,iV lab]⟩),(1,⟨38,[tV [],sV none 0 0,sV none 0 0]⟩),(6001,⟨108,[bV i.2.1.1,sV i.2.1.2.1 i.2.1.2.2.1 i.2.1.2.2.2,bV i.2.2.1.1,sV i.2.2.1.2.1 i.2.2.1.2.2.1 i.2.2.1.2.2.2,.v (.map (some i.2.2.2.1)),.v (.map (some i.2.2.2.2))]⟩)])
  (fun i N m'=>i.1<=L.length/\Kk m' N (.agg #[.bool i.2.1.1,.slice i.2.1.2.1 i.2.1.2.2.1 i.2.1.2.2.2,.bool i.2.2.1.1,.slice i.2.2.1.2.1 i.2.2.1.2.2.1 i.2.2.1.2.2.2,.map (some i.2.2.2.1),.map (some i.2.2.2.2)]) (Cf F lab (L.take i.1)) (255*i.1))
  (fun i=>L.length-i.1) (0,(b,a2,n,c2),(b',a',n',c'),g1,g2) ⟨oV,k2⟩ ?_
 rintro J ⟨i,⟨b,a2,n,c2⟩,⟨b',a',n',c'⟩,g1,g2⟩ hJ u3 m3 l3 ⟨hi,O⟩;simp only at hi O hJ;have C:=(l1.trans l2).trans l3;by_cases K:i<L.length
 ·refine G.lT i L.length ?_;obtain⟨y,m⟩:∃ y,L[i]?=some y:=⟨_,A01 K⟩;obtain⟨hS,hT,a0,t⟩:=hW y (A1k m);obtain⟨ba,oa,rfl,ea⟩:=Ac.at' (hL.mono C) (j:=i) (e:=F3 y) (by simp[m]);obtain⟨ss,w,ya,yc⟩:=y;simp only at hS hT a0 t;have Z:L.take (i+1)=L.take i++[(ss,w,ya,yc)]:=by rw[A1n,m];rfl
  have hP:Mv u (.agg #[.slice xa T.length xc,.slice xb R.length xd,.slice xe F.length xf,.int .i64 lab]) (.slice ya ss.length yc) T R F lab ss:=⟨X,ok,hS,hT⟩;have a4:=hT.len;obtain⟨d1,d2⟩:=Apv ok hT;have sK:CFS ((cfT F lab ss).scale (w:Rat)):=(d1.scale (Auv t)).cfs oV oV;have h:Cf F lab (L.take (i+1))=(Cf F lab (L.take i)).add ((cfT F lab ss).scale (w:Rat)):=by rw[Z,Eb]
  refine G.a ba oa L.length c i 2 K<|G.lU (some 2) ba (oa+i*2) (.agg #[.slice ya ss.length yc,.int .i64 w]) ea<|G.c call47 (Anz (hP.mono C)) ?_;rintro v4 u4 l4 rfl;refine G.nF 0 0<|G.lF w (-1000000000000)<|G.gF w 1000000000000<|G.c call49 (Arh (hP.mono (C.trans l4)) oV) ?_;rintro v5 u5 l5 ⟨k5,sF⟩;obtain⟨b5,a5,n5,c5,aa,a8,aj,ab,ad,ae,rfl⟩:=Sw k5;refine G.c call22 (P6 (z:=(w:Int)) oV oV) ?_;intro v6 u6 l6 k6;rw[A2r]at k6;obtain⟨b6,a6,n6,c6,a9,ak,ac,rfl,_⟩:=k6.opn;have a1:SB (w:Rat):=(Auv t).small oV oV;refine G.callA _ _ kV kV call48 (By m3).symm (Ef m3)
   (Ar1 (((O.grow l4).grow l5).grow l6) (k5.mono l6) k6 a1 (g i) sF sK (by rw[<-h];exact g (i+1))) ?_
  intro v7 u7 m7 l7 E _;rw[<-h]at E;rw[By];obtain⟨b7,a7,n7,c7,Q,P,a3,U,V,W,rfl⟩:=Oe E;exact G.i i<|G.b (hJ (i+1,(b7,a7,n7,c7),(Q,P,a3,U),V,W) _ _ _ cV ((((l3.trans l4).trans l5).trans l6).trans l7) ⟨dV,E.congr rfl dV⟩ dV)
 obtain rfl:i=L.length:=oV;refine G.lF L.length L.length ?_;have hc:=g L.length;rw[A15]at O hc;refine G.callK _ _ kV call50 (Aod O.i hc oV) ?_;rintro v7 u7 l7 ⟨r,rfl,E⟩;obtain⟨e1,f1,h1,e2,f2,h2,rfl⟩:=E.opn;exact G.drop PH.mt kV (PH.mt_le _)<|G.r (.tuple #[.agg #[.string (mkS (Ae (Cf F lab L).c)),.slice e1 f1 h1,.slice e2 f2 h2],.int .i64 0]) ⟨rfl,_,rfl,E⟩
def Ahv {u:PH}(ht:Hx u):Fn0 prog 8 [] u fun r _=>r=.bool true:=by
 refine Fn0.o func8<|G.buildU 96 2 24 (.agg #[.string (mkS []),.int .i64 0]) [.agg #[.string (mkS [120]),.int .i64 (2:Nat)],.agg #[.string (mkS [121]),.int .i64 (2:Nat)]] kV (fun x F=>by
  simp only[A1g,A11,or_false]at F;rcases F with rfl|rfl<;>exact⟨rfl,A1o.1 rfl⟩) rfl oV mV mV ?_
 intro g1 u1 l1 e1;refine G.B 3 1 8 (.int .i64 0) [.int .i64 (0:Nat),.int .i64 (1:Nat)] (Av [0,1]) ?_;intro g2 u2 l2 e2;refine G.buildU 98 2 40 (.agg #[.string (mkS []),.slice none 0 0]) [.agg #[.string (mkS [114]),.slice (some ⟨g2,0,none⟩) 2 2]] kV (fun x F=>by
  simp only[A1g,A11,or_false]at F;subst F;exact⟨rfl,A1o.1 rfl⟩) rfl oV mV mV ?_
 intro g3 u3 l3 e3;refine G.buildU 100 3 24 (.agg #[.int .i64 0,.int .i64 0,.int .i64 0]) [.agg #[.int .i64 (0:Nat),.int .i64 (1:Nat),.int .i64 (0:Nat)]] kV (fun x F=>by
  simp only[A1g,A11,or_false]at F;subst F;exact⟨rfl,A1o.1 rfl⟩) rfl oV mV mV ?_
 intro g4 u4 l4 e4;have hX:H5 u4 (.agg #[.slice (some ⟨g1,0,none⟩) 2 2,.slice (some ⟨g3,0,none⟩) 1 1,.slice (some ⟨g4,0,none⟩) 1 1,.int .i64 1]) Vi (Zt g2) Jc ((1:Nat):Int) :=
  ⟨_,_,_,_,_,_,rfl,e1.listP.mono ((l2.trans l3).trans l4),e3.listP.mono l4,e4.listP⟩
 have g:Bl u4 Vi (Zt g2) Jc ((1:Nat):Int):=Azf (e2.listP.mono (l3.trans l4));have am:=ht.mono (((l1.trans l2).trans l3).trans l4);clear e1 e2 e3 e4;refine G.B 9 1 16 (.string (mkS [])) [.string (mkS [49]),.string (mkS [50])] (G6 [[49],[50]]) ?_;intro N u5 l5 e5;refine G.buildU 53 2 32 (.agg #[.slice none 0 0,.int .i64 0]) [.agg #[.slice (some ⟨N,0,none⟩) 2 2,.int .i64 1]] kV (fun x F=>by
  simp only[A1g,A11,or_false]at F;subst F;exact⟨rfl,A1o.1 rfl⟩) rfl oV mV mV ?_
 intro g6 u6 l6 e6;have hW:WOK u6 Vi (Qr N):=fun y hy=>by
  have:y=([[49],[50]],1,(some ⟨N,0,none⟩,2)):=by simpa[Qr] using hy
  subst this;exact⟨e5.listP.mono l6,Ajf,A08 1,by show 1<=7;omega⟩
 have a3:=l5.trans l6;refine G.c call11 (Ld (hX.mono a3) (g.mono a3) fV (show Ac u6 (.slice (some ⟨g6,0,none⟩) (Qr N).length 1) 2 ((Qr N).map F3) from e6.listP) hW (by simp[Qr])) ?_;rintro v7 u7 l7 ⟨x7,rfl,k7⟩;have a4:=a3.trans l7;obtain⟨k,V⟩:=Ajm (P:=Ad2) (hX.mono a4) (g.mono a4) fV hW.tup (by simp[Qr]) k7 (by simp[Qr]) (Ai2 _) fV oV;have a5:=hW.tup;obtain⟨a1,n1,c1,a2,n2,c2,rfl⟩:=k7.opn;refine G.B 9 1 16 (.string (mkS [])) [.string (mkS [49]),.string (mkS [50])] (G6 [[49],[50]]) ?_;intro O u8 l8 e8;refine G.B 9 1 16 (.string (mkS [])) [.string (mkS [48]),.string (mkS [52])] (G6 [[48],[52]]) ?_;intro Q u9 l9 e9;refine G.buildU 53 2 32 (.agg #[.slice none 0 0,.int .i64 0]) [.agg #[.slice (some ⟨O,0,none⟩) 2 2,.int .i64 1],.agg #[.slice (some ⟨Q,0,none⟩) 2 2,.int .i64 1]] kV (fun x F=>by
  simp only[A1g,A11,or_false]at F;rcases F with rfl|rfl<;>exact⟨rfl,A1o.1 rfl⟩) rfl oV mV mV ?_
 intro al ai Z aj;have W:WOK ai Vi (Ml O Q):=fun y hy=>by
  simp only[Ml,A1g,A11,or_false]at hy;rcases hy with rfl|rfl
  ·exact⟨e8.listP.mono (l9.trans Z),Ajf,A08 1,by show 1<=7;omega⟩
  exact⟨e9.listP.mono Z,Abn,A08 1,by show 1<=7;omega⟩
 have U:=(l8.trans l9).trans Z;have L:=a4.trans U;refine G.c call11 (Ld (hX.mono L) (g.mono L) fV (show Ac ai (.slice (some ⟨al,0,none⟩) (Ml O Q).length 2) 2 ((Ml O Q).map F3) from aj.listP) W (by simp[Ml])) ?_;rintro bg b7 ad ⟨bo,rfl,Y⟩;have j:=L.trans ad;obtain⟨k',I⟩:=Ajm (P:=Ad2) (hX.mono j) (g.mono j) fV W.tup (by simp[Ml]) Y (by simp[Ml]) (Ai2 _) fV oV;have a6:=W.tup;obtain⟨b1,m1,d1,b2,m2,d2,rfl⟩:=Y.opn;have hC:=Vx (P:=Ad2) g a5 (by simp[Qr]) (Azq g N);have H:=Vx (P:=Ad2) g a6 (by simp[Ml]) (Azp g O Q);have hp:Td Jc Ad2 1:=Al6 (Ai2 (CF.num 0)) Ws fV;have a7:=L0 g g.l1 (Iz g) a5;have R:=L0 g g.l1 (Iz g) a6;have z:Cf Jc ((1:Nat):Int) (Ml O Q)=(Cf Jc ((1:Nat):Int) (Qr N)).add ((cfT Jc ((1:Nat):Int) [[48],[52]]).scale ((1:Int):Rat)):=Apl O Q N;have az:(Qr N).length=1:=rfl;have b0:(Ml O Q).length=2:=rfl;generalize Cf Jc ((1:Nat):Int) (Qr N)=C at V hC z a7 k7;generalize Cf Jc ((1:Nat):Int) (Ml O Q)=C' at I H z R Y;have ah:=U.trans ad;have E:=am.mono j;have a8:=Aaz E (V.mono ah) Ws a7 oV hC.psd;rw[Sv]at a8;refine G.c call13 a8 ?_;rintro bh b8 ae an;rcases an with ⟨e,h,_⟩|⟨_,_,sv,X,b,s,c,rfl,kS,kN⟩
 ·exfalso;rcases h with ⟨h,_⟩|⟨_,_,h⟩
  ·have:=V.mom.c;rw[h]at this;have h2:=hC.pos;rw[this]at h2;exact absurd h2 jV
  exact absurd h fV
 obtain⟨pa,pc,xa,xc,ra,rc,rfl,_⟩:=id kS;refine G.B 9 1 16 (.string (mkS [])) [.string (mkS [48]),.string (mkS [52])] (G6 [[48],[52]]) ?_;intro ay b9 a0 ak;have m:=ae.trans a0;have T:=j.trans m;have aa:=Sg (w:=1) (E.mono m) (ss:=[[48],[52]]) ⟨hX.mono T,g.mono T,ak.listP,Abn⟩ (.inr Ays) (kS.mono a0) kN hp fV hC (by rw[<-z];exact H) fV oV oV oV;rw[<-z]at aa;refine G.c call15 aa ?_;rintro bi ba af ⟨b5,X2,aw,s2,ax,rfl,ab,ap⟩;obtain⟨qa,qc,ya,yc,sa,sc,rfl,_⟩:=id ab;have J:=m.trans af;have a9:=Aaz (E.mono J) (I.mono J) Ws R oV H.psd;rw[Sv]at a9;refine G.c call13 a9 ?_;rintro bj bb ag ao;rcases ao with ⟨e,h,_⟩|⟨_,_,b6,X3,b3,s3,c3,rfl,ac,aq⟩
 ·exfalso;rcases h with ⟨h,_⟩|⟨_,_,h⟩
  ·have:=I.mom.c;rw[h]at this;have h2:=H.pos;rw[this]at h2;exact absurd h2 jV
  exact absurd h fV
 obtain⟨za,zc,wa,wc,va,vc,rfl,_⟩:=id ac;refine G.eT' 0 0 rfl<|G.eT' 0 0 rfl<|G.eT' 0 0 rfl<|G.c call20 (T9 (ab.mono ag) ac ap aq hp H) ?_;rintro bk bc ar rfl;refine G.c call39 (Vb (p:=3) (t:=2) oV oV) ?_;rintro bl bd au rfl;refine G.c call39 (Vb (p:=3) (t:=3) oV oV) ?_;rintro bm be av rfl;have K:=((((a0.trans af).trans ag).trans ar).trans au).trans av;have n:=ae.trans K;refine G.c call43 (Anl (E.mono n) (hX.mono (j.trans n)) (g.mono (j.trans n)) (kS.mono K) kN hp hC fV) ?_;rintro bn bf b4 rfl;exact G.r (.bool true) ⟨rfl,rfl⟩
structure Atg (u:PH)(T:List (List UInt8×Nat))(R:List Br)(F:List Al)(lab:Int)(L:List Dm)(xv lv:Value):Prop where
 sch:H5 u xv T R F lab
 ok:Bl u T R F lab
 t8:T.length<=8
 lab0:0<=lab
 f0:F≠[]
 f4:F.length<=4
 rows:Ac u lv 2 (L.map F3)
 wok:WOK u T L
 w9:W9 T L
 l6:L.length<=6
def Aul {u:PH}{s:Src}{ts:List Int}{k:Nat}(h:J0 u s ts)(V:k<=s.n) :
 Ag prog 10 [s.ptr] u (s.M k) fun r u' Z=>∃ (T:List (List UInt8×Nat)) (R:List Br) (F:List Al) (lab:Int) (L:List Dm) (K J:Value) (I:Nat),r=.tuple #[K,J]/\Atg u' T R F lab L K J/\I<=s.n/\Z=s.M I:=by
 letI:Pu:=⟨true⟩
 refine Ag.o func10<|G.callP _ _ kV rfl call44 (By _).symm (Ef _) (Ace 4 oV oV h V) ?_;rintro v1 u1 m1 X ⟨T,R,F,lab,k1,C,ok,z,e,g,E,rfl,j⟩ _;rw[By];obtain⟨xa,xc,xb,xd,xe,xf,rfl,Q,P,O⟩:=id C;refine G.callP _ _ kV rfl call35 (By _).symm (Ef _) (Ajh (most:=6) (h.mono X) E C ok oV) ?_;rintro v2 u2 m2 l2 ⟨L,W,m,t,U,N,H,rfl⟩ _;rw[By];obtain⟨la,Y,rfl⟩:=m.opn;rw[A03]at m⊢;exact G.r (.tuple #[.agg #[.slice xa T.length xc,.slice xb R.length xd,.slice xe F.length xf,.int .i64 lab],.slice la L.length Y])
  ⟨T,R,F,lab,L,_,_,W,rfl,⟨C.mono l2,ok.mono l2,z,e,g,j,m,U,N,t⟩,H,rfl⟩
section
def A0s {u:PH}{h:Value}{T:List (List UInt8×Nat)}{F:List Al}{lab:Int}{C:CF}{K:Nat}(j:No u h C K)(hF:Da T F lab):∃ P,Nn F C P:=by
 obtain⟨A,Q,a1,c1,a2,c2,rfl,z,E,g,t,H,I⟩:=j;exact⟨He F A F.length,Tu g.srt _,fun p=>Aed g fun f m=>by
  obtain⟨n,k,_,e,_⟩:=hF.ok f m;rcases e with ⟨e,_⟩|⟨e,_⟩
  ·exact .inl e
  exact .inr e⟩
section
variable {u:PH} {T:List (List UInt8×Nat)} {R:List Br} {F:List Al} {lab:Int} {L L':List Dm} {P:List Par}
def Axm (ok:Bl u T R F lab)(hT:∀ y∈L,Bw T y.1)(h:∀ y∈L,G4 F lab y.1=false):(Cf F lab L).c=0:=by
 induction L using Ig with
 |h0=>rfl
 |h1 L y ih =>
  rw[Eb,Als (Awu ok (hT y mV) (h y mV))];exact ih (fun z e=>hT z (A24 _ e)) (fun z e=>h z (A24 _ e))
def Ala {l:Nat}(ok:Bl u T R F (l:Int))(hT:∀ y∈L,Bw T y.1/\1<=y.2.1)(e:Nn F (Cf F (l:Int) L) P){y:Dm}(j:y∈L):Aqi F l P y.1:=by
 cases h:G4 F (l:Int) y.1 with
 |false=>exact .inl h
 |true=>exact .inr ⟨h,fun x g=>Aln ok hT j h e.2 g⟩
def Axy (ok:Bl u T R F lab)(hT:∀ y∈L,Bw T y.1/\1<=y.2.1)(hF:F≠[])(E:(Cf F lab L).c≠0)(z:Nn F (Cf F lab L) P):P≠[]:=by
 obtain⟨f,g,rfl⟩:∃ f g,F=f::g:=by
  cases F with
  |nil=>exact absurd rfl hF
  |cons f g=>exact⟨f,g,rfl⟩
 have C:(f::g)[0]?=some f:=rfl;obtain⟨n,k,_,h,_⟩:=ok.feat.ok f mV;have j:f.2.1=1\/f.2.1=2:=by
  rcases h with ⟨h,_⟩|⟨h,_⟩
  ·exact .inl h
  exact .inr h
 rcases j with j|j
 ·exact List.ne_nil_of_mem ((z.2 _).2 (.inl ⟨0,f,rfl,C,j⟩))
 obtain⟨y,m,t⟩:∃ y∈L,G4 (f::g) lab y.1=true:=A3m fun H=>E (Axm ok (fun y m=>(hT y m).1) fun y m=>by
  cases e:G4 (f::g) lab y.1 with
  |false=>rfl
  |true=>exact absurd ⟨y,m,e⟩ H)
 have I:Jf y.1 0 f=some ((((0:Nat):Int),y.1.getD f.1 []),1):=by unfold Jf;rw[if_pos j]
 exact List.ne_nil_of_mem (Aln ok hT m t z.2 (F9.2 ⟨0,f,mV,C,I⟩))
theorem Apu (ok:Bl u T R F lab)(hT:∀ y∈L++L',Bw T y.1/\y.2.1<=7)(e:(L++L').length<=13)(j:0<(Cf F lab L).c):Ug P (Cf F lab (L++L')):=by
 refine Vx ok hT e ?_;rw[Api];obtain⟨k,g,_⟩:=Arb ok.feat ok.l1 (Iz ok) (L:=L') fun y h=>hT y (A6v _ h);show 0<(Cf F lab L).c+(Cf F lab L').c;rw[g];have:(0:Rat)<=(k:Rat):=by exact_mod_cast A1t k
 grind
end
end
def Asa:∀ L:List Dm,A9 2 (L.map F3):=fun L e g=>by
 obtain⟨y,_,rfl⟩:=A1b.1 g;exact Yi y _ mV
def Anp {P:List Par}{k:Nat}{e:Int}(h:k=0/\e=12\/e=3/\k≠0/\11<P.length):e≠0:=by
 rcases h with ⟨_,rfl⟩|⟨rfl,_⟩<;>decide
section
variable {n:Nat}
def Bdc {n i:Nat}(hi:i<n):(List.replicate n (Value.string (mkS [48]))).set i (.string (mkS [49]))=txV ((List.range n).map fun k=>idN i k):=by
 refine A5l (by simp[txV]) fun k g h=>?_;rw[List.getElem_set];simp only[txV,A3v,List.getElem_range,List.getElem_replicate];unfold idN;by_cases e:i=k
 ·rw[if_pos e,if_pos e,Sv]
 rw[if_neg e,if_neg e,Fz]
def Bc1 {u:PH}(hn:n<=12):Fn0 prog 18 [.int .i64 n] u fun r u'=>∃ v,r=.tuple #[v,.int .i64 0]/\C7 u' v (Cv (sqL n idN)):=by
 have R:(sqL n idN).length=n:=by simp[sqL]
 refine Fn0.o func18<|G.lF n 0<|G.gF n 12<|G.l (ι:=Nat×List (Value×List Value)×(Option Addr×Nat)) (fun i=>[(0,iV n),(3,iV 0),(4,sV i.2.2.1 i.1 i.2.2.2),(5,iV i.1)]) (fun _=>[])
  (fun i u' m'=>i.1<=n/\i.2.1.map (·.2)=((sqL n idN).take i.1).map txV/\Bag m' (oT (.slice i.2.2.1 i.1 i.2.2.2) i.2.1::i.2.1.map Bu)) (fun i=>n-i.1) (0,[],(none,0)) ⟨A1t _,rfl,PH.mt,Af.nil _ _ _,trivial⟩ ?_
 rintro J ⟨i,e,⟨ra,rc⟩⟩ hJ u2 C l2 ⟨hi,L,t⟩;simp only at hi L t hJ;have Y:e.length=i:=by have:=congrArg List.length L;simp[R]at this;omega
 by_cases F:i<n
 ·refine G.lT i n<|G.make 34 1 16 (.string (mkS [])) n kV rfl rfl oV oV oV ?_;rintro v3 m3 H ⟨a3,rfl⟩;obtain⟨h,rfl,a0⟩:=H.some';refine G.l (ι:=Nat) (fun k=>[(0,iV n),(3,iV 0),(4,sV ra i rc),(5,iV i),(6,sV (some ⟨h,0,none⟩) n n),(22,iV n),(23,iV k)]) (fun _=>[])
   (fun k u' m'=>k<=n/\Af C m' (.slice (some ⟨h,0,none⟩) n n) 34 1 (List.replicate k (.string (mkS [48]))++List.replicate (n-k) (.string (mkS [])))) (fun k=>n-k) 0 ⟨A1t _,by simpa using H⟩ ?_
  rintro J2 k Q u4 m4 l4 ⟨hk,E⟩;by_cases I:k<n
  ·refine G.lT k n<|G.a h 0 n n k 1 I<|G.storeA 1 C _ h n n k (.string (mkS [48])) kV E gV rfl rfl ?_;intro m5 m;rw[Afh mV I,<-A90]at m;exact G.i k<|G.b (Q (k+1) _ _ _ cV l4 ⟨oV,m⟩ oV)
  obtain rfl:k=n:=oV
  refine G.lF k k ?_;rw[A4i,A42,A1x]at E;refine G.a h 0 k k i 1 F<|G.storeA 1 C _ h k k i (.string (mkS [49])) kV E gV rfl rfl ?_;intro m5 m;rw[Bdc F]at m;refine G.B 46 1 24 (.slice none 0 0) [.slice (some ⟨h,0,none⟩) k k] (B5 _ _ _) ?_;intro g6 u6 l6 e6;have T:Bag m5 (Bu (.slice (some ⟨h,0,none⟩) k k,txV ((List.range k).map fun j=>idN i j))::oT (.slice ra i rc) e::e.map Bu):=⟨C,m,t⟩;obtain⟨m0,N,K⟩:=T.focus 1 rfl;rw[Aaa]at N;refine G.k 46 1 24 (.slice none 0 0) m0 (e.map (·.1)) [.slice (some ⟨h,0,none⟩) k k] (.slice ra i rc) g6 0 1 1 N e6 (B5 _ _ _) ?_;intro v7 m7 z;obtain⟨O,P,rfl⟩:=z.shape;have e7:e.map (·.1)++[Value.slice (some ⟨h,0,none⟩) k k]=(e++[(Value.slice (some ⟨h,0,none⟩) k k,txV ((List.range k).map fun j=>idN i j))]).map (·.1):=mV
  rw[e7]at z⊢;have el:((e++[(Value.slice (some ⟨h,0,none⟩) k k,txV ((List.range k).map fun j=>idN i j))]).map (·.1)).length=i+1:=by simp[Y]
  rw[el]at z⊢;have U:=K (oT (.slice O (i+1) P) (e++[(Value.slice (some ⟨h,0,none⟩) k k,txV ((List.range k).map fun j=>idN i j))])) m7 z;have V:Bag m7 (oT (.slice O (i+1) P) (e++[(Value.slice (some ⟨h,0,none⟩) k k,txV ((List.range k).map fun j=>idN i j))])::(e++[(Value.slice (some ⟨h,0,none⟩) k k,txV ((List.range k).map fun j=>idN i j))]).map Bu):=by
   refine Bag.perm ?_ U;rw[A1i];exact (List.Perm.swap _ _ _).trans (List.Perm.cons _ (A5r (l₁:=[Bu (Value.slice (some ⟨h,0,none⟩) k k,txV ((List.range k).map fun j=>idN i j))])))
  refine G.i i<|G.b (hJ (i+1,e++[(Value.slice (some ⟨h,0,none⟩) k k,txV ((List.range k).map fun j=>idN i j))],(O,P)) _ _ _ cV ((l2.trans l4).trans l6) ⟨dV,?_,V⟩ dV);dsimp only;have Z:(sqL k idN)[i]?=some ((List.range k).map fun j=>idN i j):=by
   unfold sqL;rw[A1a,A31 F];rfl
  rw[A1n,Z,A1i,A1i,L];rfl
 obtain rfl:i=n:=oV
 refine G.lF i i ?_;rw[A1j oV]at L;refine G.giveP (ma:=C) (sm:=PH.mt) kV (by funext g;unfold PH.or;cases C g<;>rfl) (fun g=>.inr rfl) (fun g=>.inl rfl) ?_
 intro u3 l3 X;have W:Bag C (Np (.slice none 0 0) []::oT (.slice ra i rc) e::e.map Bu):=⟨C,Af.nil _ _ _,t⟩;exact G.r (.tuple #[.slice ra i rc,.int .i64 0]) ⟨rfl,_,rfl,V9 (v:=.bool true) W L X⟩
end
section
variable {X:List (List Rat)}{a:Option Addr}
def X8 {m u:PH}{n c:Nat}{e:List (Value×List Value)}(g:Bag m (oQ (.slice a n c) e::e.map Ej))(z:QAt u e X)(F:PH.le m u):Aa8 u (.slice a n c) X:=by
 have h0:Ac u (.slice a n c) 1 (e.map (·.1)):=g.list F 0 (x:=oQ (.slice a n c) e) rfl;refine⟨e.map (·.1),h0,by simp[z.1],fun j r H=>?_⟩;obtain⟨t,E⟩:=A05.1 H;have C:j<e.length:=by rw[z.1];exact t
 have h:e[j]?=some e[j]:=A01 C;refine⟨e[j].1,by rw[A1a,h];rfl,?_⟩;refine⟨e[j].2,g.list F (j+1) (x:=Ej e[j]) (by simp[h]),?_⟩;have:=z.2 j _ h;rw[Ch t,E]at this;exact this
def Bdb {a b u:PH}(h:PH.le (a.or b) u):PH.le a u:=fun g o e=>h g o (by rw[PH.or_l e])
def Bda {a b u:PH}(h:PH.le (a.or b) u)(j:∀ g,b g≠none->a g=none):PH.le b u:=fun g o e=>h g o (by
 rw[PH.or_r (j g (by rw[e];simp))];exact e)
def Aa8.cell {u:PH}{n c w i k:Nat}(h:Aa8 u (.slice a n c) X)(F:Rec n w X)(hi:i<n)(L:k<w) :
 ∃ g m j t c2 f,a=some ⟨g,m,none⟩/\ElP u g (m+i*1) (.slice (some ⟨j,t,none⟩) w c2)/\ElP u j (t+k*4) (qv f)/\QP u (qv f) (en X i k):=by
 have z:i<X.length:=by rw[F.1];exact hi
 have C:=F.2 i hi;rw[Ch z]at C;have E:k<X[i].length:=oV
 obtain⟨g,m,e,rfl,J,H⟩:=LP.at h (A01 z);obtain⟨a2,c2,rfl⟩:=LP.opn H;obtain⟨j,t,e,rfl,K,I⟩:=LP.at H (A01 E);obtain⟨f,rfl⟩:=QP.opQ I;refine⟨g,m,j,t,c2,f,rfl,by rw[<-C];exact J,K,?_⟩;unfold en;rw[Ch z,Cu E];exact I
section
variable {u:PH} {v v':Value} {A B:List (List Rat)} {n S S':Nat}
def Bcy (hA:C7 u v (Cv A))(hB:C7 u v' (Cv B))(sA:Sq A)(sB:Sq B)(hn:A.length=n)(bi:B.length=n)(h0:0<n)(zA:∀ i k,i<n->k<n->Sz (en A i k) S)(zB:∀ i k,i<n->k<n->Sz (en B i k) S')(cv:n*(S+S'+1)<=100000000)
 (hT:∀ i k,i<n->k<n->Tx (Uj n (en A) (en B) i k)) :
 Fn0 prog 17 [v,v'] u fun r L=>∃ lv,r=.tuple #[lv,.int .i64 0]/\C7 L lv (Cv (sqL n (Uj n (en A) (en B)))):=by
 have ca:=sA.le;have bm:=fun (L:PH) (l:PH.le u L)=>And (hA.mono l) sA;have bn:=fun (L:PH) (l:PH.le u L)=>And (hB.mono l) sB;have bk:=fun (L:PH) (l:PH.le u L)=>Ane (hA.mono l) sA;have bl:=fun (L:PH) (l:PH.le u L)=>Ane (hB.mono l) sB;obtain⟨a0,c0,rfl⟩:=hA.opn;obtain⟨b0,d0,rfl⟩:=hB.opn;rw[A3,hn]at hA bm bk⊢;rw[A3,bi]at hB bn bl⊢;rw[hn]at ca;refine Fn0.o func17<|G.c call61 (bm _ (PH.le_refl _)) ?_;rintro v1 u1 l1 rfl;refine G.nF 0 0<|G.c call61 (bn _ l1) ?_;rintro v2 u2 l2 rfl;have bs:=l1.trans l2;refine G.nF 0 0<|G.nF n n<|G.eF n 0<|G.callO _ _ kV call62 (bk _ bs) ?_;rintro v3 u3 m3 l3 ⟨a3,c3,cn,rfl,b5,b9⟩ cy;rw[By];refine G.callO _ _ kV call62 (bl _ (bs.trans l3)) ?_;rintro v4 u4 m4 l4 ⟨a4,c4,co,rfl,b6,ba⟩ c8;refine G.giveP (ma:=m3.or m4) (sm:=PH.mt) kV (Ari (m3.or m4)).symm (fun g=>.inr rfl) (fun g=>.inl rfl) ?_;intro u5 l5 bh;have bz:=X8 b9 (b5.mono (l4.trans l5)) (Bdb bh);have c1:=X8 ba (b6.mono l5) (Bda bh c8);clear b9 ba b5 b6;have c6:Rec n n A:=by rw[<-hn];exact Xs sA
 have c7:Rec n n B:=by rw[<-bi];exact Xs sB
 generalize hM:sqL n (Uj n (en A) (en B))=M;have I:Rec n n M:=by rw[<-hM];exact Rh _ _
 have b3:∀ i k,i<n->k<n->gR (gM M i) k=Uj n (en A) (en B) i k:=fun i k hi hk=>by rw[<-hM];exact N6 hi hk
 refine G.make 131 1 24 (.slice none 0 0) n kV rfl rfl oV oV oV ?_;rintro v6 m6 ai ⟨⟨C,oL,sL⟩,rfl⟩;obtain⟨cu,cr,ax⟩:∃ b c,Value.slice (some ⟨C,oL,sL⟩) n n=.slice (some ⟨b,0,none⟩) n c:=by
  rcases ai.2 with ⟨e,_⟩|⟨g,c,_,_,_,e,_⟩
  ·simp at e
  rw[A3k]at e;exact⟨g,c,e⟩
 simp only[Value.slice.injEq,A1f,Addr.mk.injEq,true_and]at ax;obtain⟨⟨rfl,rfl,rfl⟩,rfl⟩:=ax;have bb:Bag m6 (oQ (.slice (some ⟨C,0,none⟩) n n) (List.replicate n B3)::(List.replicate n B3).map Ej):=by
  have h0:Bag PH.mt ((List.replicate n B3).map Ej++[]):=Bag.nilsQ (l:=[]) trivial n;rw[A1x]at h0;exact⟨PH.mt,by rw[Al7,A8z];exact ai,h0⟩
 refine G.l (ι:=Nat×List (Value×List Value)) (fun i=>[(7,iV n),(10,iV n),(11,sV a3 n c3),(12,sV a4 n c4),(13,sV (some ⟨C,0,none⟩) n n),(53,iV n),(54,iV i.1)]) (fun _=>[])
  (fun i L m'=>i.1<=n/\i.2.length=n/\(∀ j r,i.2[j]?=some r->if j<i.1 then AtP QP L r.2 (gM M j) else r=B3)/\Bag m' (oQ (.slice (some ⟨C,0,none⟩) n n) i.2::i.2.map Ej))
  (fun i=>n-i.1) (0,List.replicate n B3)
  ⟨A1t _,mV,fun j r F=>by rw[if_neg (Nat.not_lt_zero _)];exact A7g (A1k F),bb⟩ ?_
 clear bb ai;rintro J ⟨i,h⟩ hJ u7 m7 l7 ⟨hi,a1,Q,T⟩;simp only at hi a1 Q T hJ;by_cases E:i<n
 ·refine G.lT i n<|G.make 69 4 64 zQ n kV rfl rfl oV oV oV ?_;rintro v8 m8 ah ⟨⟨m,o8,s8⟩,rfl⟩;obtain⟨ct,cq,aw⟩:∃ b c,Value.slice (some ⟨m,o8,s8⟩) n n=.slice (some ⟨b,0,none⟩) n c:=by
   rcases ah.2 with ⟨e,_⟩|⟨g,c,_,_,_,e,_⟩
   ·simp at e
   rw[A3k]at e;exact⟨g,c,e⟩
  simp only[Value.slice.injEq,A1f,Addr.mk.injEq,true_and]at aw;obtain⟨⟨rfl,rfl,rfl⟩,rfl⟩:=aw;have ce:h[i]?=some B3:=by
   have hx:=Q i h[i] (A01 oV);rw[if_neg oV]at hx;rw[A01 oV,hx]
  have cc:(oQ (.slice (some ⟨C,0,none⟩) n n) h::h.map Ej)[i+1]?=some (Ej B3):=by simp[ce]
  obtain⟨m0,cj,aa⟩:=T.focus (i+1) cc;have cb:m0=m7:=by
   rcases cj.2 with ⟨_,_,e⟩|⟨_,_,_,_,_,e,_⟩
   ·exact e.symm
   simp[Ej,B3]at e
  subst cb;have N:=aa (Ej (.slice (some ⟨m,0,none⟩) n n,List.replicate n zQ)) _ ah;rw[A2j]at N;obtain⟨cm,ap,Y⟩:=N.focus 0 rfl;rw[Al7]at ap;refine G.a C 0 n n i 1 E<|G.storeA 1 cm _ C n n i (.slice (some ⟨m,0,none⟩) n n) kV ap (by simp[a1,E]) rfl rfl ?_;intro m9 bp;have H:=Y (oQ (.slice (some ⟨C,0,none⟩) n n) (h.set i (.slice (some ⟨m,0,none⟩) n n,List.replicate n zQ))) m9 (by
   rw[Al7,A2g];exact bp)
  rw[A2p,<-A2g]at H;have al:∀ e:List Value,(h.set i (Value.slice (some ⟨m,0,none⟩) n n,e))[i]?=some (Value.slice (some ⟨m,0,none⟩) n n,e):=fun e=>A44 oV;have bc:ElP m9 C (0+i*1) (.slice (some ⟨m,0,none⟩) n n):=H.el 0 (x:=oQ _ _) rfl rfl (Bc5 (al _));have cd:∀ e:List Value,(oQ (.slice (some ⟨C,0,none⟩) n n) (h.set i (Value.slice (some ⟨m,0,none⟩) n n,e))::(h.set i (Value.slice (some ⟨m,0,none⟩) n n,e)).map Ej)[i+1]?=some (Ej (Value.slice (some ⟨m,0,none⟩) n n,e)):=fun e=>by rw[A7r,A1a,al];rfl
  have Z:∀ (m':PH) (e:List Value),Bag m' (oQ (.slice (some ⟨C,0,none⟩) n n) (h.set i (Value.slice (some ⟨m,0,none⟩) n n,e))::(h.set i (Value.slice (some ⟨m,0,none⟩) n n,e)).map Ej) ->
   ElP m' C (0+i*1) (.slice (some ⟨m,0,none⟩) n n)/\∃ m0,Af m0 m' (.slice (some ⟨m,0,none⟩) n n) 69 4 e/\∀ (e':List Value) (a5:PH),Af m0 a5 (.slice (some ⟨m,0,none⟩) n n) 69 4 e'->Bag a5 (oQ (.slice (some ⟨C,0,none⟩) n n) (h.set i (Value.slice (some ⟨m,0,none⟩) n n,e'))::(h.set i (Value.slice (some ⟨m,0,none⟩) n n,e')).map Ej):=fun m' e hb=>by
   refine⟨hb.el 0 (x:=oQ _ _) rfl rfl (Bc5 (al _)),?_⟩;obtain⟨m0,hx,hp⟩:=hb.focus (i+1) (cd e);rw[Rg]at hx;refine⟨m0,hx,fun e' a5 ci=>?_⟩;have b7:=hp (Ej (Value.slice (some ⟨m,0,none⟩) n n,e')) a5 ci;rw[A2j,<-A2g,A6r]at b7;have:oQ (.slice (some ⟨C,0,none⟩) n n) (h.set i (.slice (some ⟨m,0,none⟩) n n,e'))=oQ (.slice (some ⟨C,0,none⟩) n n) (h.set i (.slice (some ⟨m,0,none⟩) n n,e)):=by
    unfold oQ;rw[A2g,A2g]
   rw[this];exact b7
  refine G.a C 0 n n i 1 E<|G.lM none C (0+i*1) _ bc<|G.l (ι:=Nat×List Value) (fun k=>[(7,iV n),(10,iV n),(11,sV a3 n c3),(12,sV a4 n c4),(13,sV (some ⟨C,0,none⟩) n n),(53,iV n),(54,iV i),(14,iV i),(66,iV n),(67,iV k.1)]) (fun _=>[])
   (fun k L m'=>k.1<=n/\k.2.length=n/\(∀ j,j<k.1->∃ f,k.2[j]?=some (qv f)/\QP L (qv f) (gR (gM M i) j))/\Bag m' (oQ (.slice (some ⟨C,0,none⟩) n n) (h.set i (.slice (some ⟨m,0,none⟩) n n,k.2))::(h.set i (Value.slice (some ⟨m,0,none⟩) n n,k.2)).map Ej))
   (fun k=>n-k.1) (0,List.replicate n zQ)
   ⟨A1t _,mV,fun j F=>absurd F (Nat.not_lt_zero _),H⟩ ?_
  clear H bc N aa Y bp ap ah;rintro J2 ⟨k,e⟩ ay d7 d3 a2 ⟨hk,ak,he,P⟩;simp only at hk ak he P ay;by_cases O:k<n
  ·refine G.lT k n ?_;obtain⟨a7,mm,ab,a9⟩:=Z _ _ P;refine G.a C 0 n n i 1 E<|G.lM none C (0+i*1) _ a7<|G.c call22 (P6 (z:=0) oV oV) ?_;intro dd d8 ar aq;rw[show ((0:Int):Rat)=0 from by decide]at aq;obtain⟨af,rfl⟩:=aq.opQ;refine G.a m 0 n n k 4 O<|G.storeA 4 mm _ m n n k (qv af) kV ab oV rfl rfl ?_;intro d4 ac;have a6:=a9 _ _ ac;refine G.l (ι:=Nat×List Value) (fun j=>[(7,iV n),(10,iV n),(11,sV a3 n c3),(12,sV a4 n c4),(13,sV (some ⟨C,0,none⟩) n n),(53,iV n),(54,iV i),(14,iV i),(66,iV n),(67,iV k),(15,iV k),(16,iV j.1)]) (fun _=>[])
    (fun j L m'=>j.1<=n/\j.2.length=n/\(∀ t,t<k->∃ f,j.2[t]?=some (qv f)/\QP L (qv f) (gR (gM M i) t))/\(∃ f,j.2[k]?=some (qv f)/\QP L (qv f) (Bb j.1 fun t=>en A i t*en B t k))/\Sz (Bb j.1 fun t=>en A i t*en B t k) (1+j.1*(S+S'+1))/\Bag m' (oQ (.slice (some ⟨C,0,none⟩) n n) (h.set i (.slice (some ⟨m,0,none⟩) n n,j.2))::(h.set i (Value.slice (some ⟨m,0,none⟩) n n,j.2)).map Ej))
    (fun j=>n-j.1) (0,e.set k (qv af))
    ⟨A1t _,by simpa using ak,fun t ht=>by
     obtain⟨f,h1,h2⟩:=he t ht;exact⟨f,by dsimp only;rw[A9z oV];exact h1,h2.mono ar⟩,⟨af,A44 oV,aq⟩,Q3.mono oV,a6⟩ ?_
   clear a6 ac a9 ab a7 P he;rintro J3 ⟨j,e2⟩ az d9 d5 au ⟨F,U,aj,⟨fc,V,W⟩,an,R⟩;simp only at F U aj V W an R az;by_cases K:j<n
   ·refine G.lT j n ?_;obtain⟨a8,mm,ad,bj⟩:=Z _ _ R;have ae:=(((l7.trans a2).trans ar).trans au);obtain⟨b1,o1,b2,o2,c2,fa,rfl,bu,bv,ka⟩:=(bz.mono ae).cell c6 E K;obtain⟨d1,p1,d2,p2,x2,fb,rfl,bw,bx,kb⟩:=(c1.mono ae).cell c7 K O;have s1:=zA i j E K;have s2:=zB j k K O;have sm:=Fx s1 s2;have cw:j*(S+S'+1)<=n*(S+S'+1):=A13 _ F;have cx:S+S'+1<=n*(S+S'+1):=Nat.le_mul_of_pos_left _ oV;refine G.a C 0 n n i 1 E<|G.lM none C (0+i*1) _ a8<|G.a C 0 n n i 1 E<|G.lM none C (0+i*1) _ a8<|G.a m 0 n n k 4 O<|G.lM (some 4) m (0+k*4) (qv fc) (ad.el V)<|G.a b1 o1 n c3 i 1 E<|G.lU none b1 (o1+i*1) _ bu<|G.a b2 o2 n c2 j 4 K<|G.lU (some 4) b2 (o2+j*4) (qv fa) bv<|G.a d1 p1 n c4 j 1 K<|G.lU none d1 (p1+j*1) _ bw<|G.a d2 p2 n x2 k 4 O<|G.lU (some 4) d2 (p2+k*4) (qv fb) bx<|G.c call28 (Gh ka kb (s1.mono oV) (s2.mono oV)) ?_;intro df da av bq;obtain⟨cs,rfl⟩:=bq.opQ;refine G.c call26 (Pd (W.mono av) bq (an.mono oV) (sm.mono oV)) ?_;intro dg db bt br;obtain⟨ag,rfl⟩:=br.opQ;refine G.a m 0 n n k 4 O<|G.storeA 4 mm _ m n n k (qv ag) kV ad oV rfl rfl ?_;intro d6 bo;have b8:=bj _ _ bo;refine G.i j<|G.b (az (j+1,e2.set k (qv ag)) _ _ _ cV ((au.trans av).trans bt) ⟨dV,by simpa using U,fun t ht=>?_,⟨ag,A44 oV,by dsimp only;rw[Ds];exact br⟩,?_,b8⟩ dV)
    ·obtain⟨f,h1,h2⟩:=aj t ht;exact⟨f,by dsimp only;rw[A9z oV];exact h1,h2.mono (av.trans bt)⟩
    dsimp only;rw[Ds];refine (R5 an sm).mono ?_;rw[Nat.succ_mul];omega
   obtain rfl:j=n:=oV;refine G.lF j j<|G.i k<|G.b (ay (k+1,e2) _ _ _ cV ((a2.trans ar).trans au) ⟨dV,U,fun t ht=>?_,R⟩ dV);by_cases cg:t=k
   ·subst cg;exact⟨fc,V,by rw[b3 i t E O];exact W⟩
   exact aj t (by dsimp only at ht;omega)
  obtain rfl:k=n:=oV;refine G.lF k k<|G.i i<|G.b (hJ (i+1,h.set i (.slice (some ⟨m,0,none⟩) k k,e)) _ _ _ cV (l7.trans a2) ⟨dV,by simpa using a1,fun j r F=>?_,P⟩ dV);dsimp only at F⊢;rw[A1z]at F;by_cases bd:i=j
  ·subst bd;rw[if_pos rfl,if_pos oV]at F;cases F;rw[if_pos oV];refine⟨by rw[ak,I.2 i E],fun t x hx=>?_⟩;obtain⟨ao,ck⟩:=A05.1 hx;have ch:t<k:=by rw[I.2 i E]at ao;exact ao
   obtain⟨f,h1,h2⟩:=he t ch;refine⟨_,h1,?_⟩;rw[Cu ao,ck]at h2;exact h2
  rw[if_neg bd]at F;have h9:=Q j r F;by_cases be:j<i
  ·rw[if_pos be]at h9;rw[if_pos oV];exact h9.mono (fun _ _ k=>k.mono a2)
  rw[if_neg be]at h9;rw[if_neg oV];exact h9
 obtain rfl:i=n:=oV;refine G.lF i i<|G.giveP (ma:=m7) (sm:=PH.mt) kV (Ari m7).symm (fun g=>.inr rfl) (fun g=>.inl rfl) ?_;intro cp cl bg;have c5:Aa8 cp (.slice (some ⟨C,0,none⟩) i i) M:=X8 T ⟨by rw[a1,I.1],fun j r F=>by
  have h9:=Q j r F;have K:j<i:=by rw[<-a1];exact (A05.1 F).1
  rw[if_pos K]at h9;exact h9.mono (fun _ _ k=>k.mono cl)⟩ bg
 refine G.c call63 (Aot c5 (fun r hr x hx=>?_) (by rw[I.1];omega) (fun r hr=>?_)) ?_
 ·obtain⟨j,F,rfl⟩:=A3d.1 hr;obtain⟨t,ht,rfl⟩:=A3d.1 hx;have am:j<i:=by rw[<-I.1];exact F
  have e1:=I.2 j am;rw[Ch F]at e1;have e2:=b3 j t am oV;rw[Ch F,Cu ht]at e2;rw[e2];exact hT j t am oV
 ·obtain⟨j,F,rfl⟩:=A3d.1 hr;have e1:=I.2 j (by rw[<-I.1];exact F);rw[Ch F]at e1;omega
 rintro dh dc cz ⟨lv,rfl,b4⟩;obtain⟨la,lc,bf⟩:=id b4.opn;rw[A3]at bf;subst bf;exact G.r (.tuple #[.slice la M.length lc,.int .i64 0]) ⟨rfl,_,rfl,b4⟩
end
end
def Bc9 {T:List (List UInt8×Nat)}{ss:List (List UInt8)}(hT:Bw T ss)(i:Nat):Bw T (ss.set i []):=by
 refine⟨by rw[A21];exact hT.len,fun j x t g e=>?_⟩;rw[A1z]at e;split at e
 ·split at e
  ·cases e;exact .inl rfl
  cases e
 exact hT.val j x t g e
section
variable {w:World}
variable [Cl] [Co]
section
variable {P:Program} [A6 P] {fn:Func} {Post:Ce} {st:List KI×S} {u m:PH}
def PH.or_le {x y z:PH}(h:PH.le x z)(j:PH.le y z):PH.le (x.or y) z:=fun g o e=>by
 cases hx:x g with
 |none=>rw[PH.or_r hx]at e;exact j g o e
 |some p=>rw[PH.or_l hx]at e;cases e;exact h g _ hx
def Bv.both (h:Bv u m w):PH.le u (m.or u)/\Bv (m.or u) PH.mt w:=by
 have n:PH.le u (m.or u):=fun g o e=>by
  cases hx:m g with
  |none=>rw[PH.or_r hx];exact e
  |some p=>have:=(h.ap g).resolve_right (by rw[hx];simp);rw[this]at e;cases e
 refine⟨n,⟨fun g o e=>?_,Fj.mt w,fun _=>.inr rfl,fun g cs t fr j z e C=>n g _ (h.cl g cs t fr j z e C)⟩⟩;cases hx:m g with
 |none=>rw[PH.or_r hx]at e;exact h.pu g o e
 |some p=>rw[PH.or_l hx]at e;cases e;exact h.pm g _ hx
def Bv.apart {w w':World}{n:PH}(h:Bv u m w)(g:Bv n PH.mt w')(C:B0 (m.or u) PH.mt w n PH.mt w'):∃ F,m.or F=n/\Bv F m w'/\B0 u m w F m w':=by
 have E:∀ b o,m b=some o->n b=some o:=fun b o e=>by
  rw[C.us b (h.pm.lt e)];exact PH.or_l e
 refine⟨fun b=>if (m b).isNone then n b else none,?_,⟨fun b o e=>?_,fun b o e=>?_,fun b=>?_,fun b cs t fr j z e K=>?_⟩,⟨C.sz,fun b e _=>C.old b e rfl,fun b e=>?_,fun b _ e=>e,C.io,C.dr⟩⟩
 ·funext b
  cases hx:m b with
  |none=>rw[PH.or_r hx];simp[hx]
  |some p=>rw[PH.or_l hx,E b p hx]
 ·have e:(if (m b).isNone then n b else none)=some o:=e;split at e
  ·exact g.pu b o e
  cases e
 ·exact g.pu b o (E b o e)
 ·cases hx:m b with
  |none=>exact .inr rfl
  |some p=>left;simp[hx]
 ·have H:=g.cl b cs t fr j z e K;cases hx:m b with
  |none=>simp[hx,H]
  |some p =>
   have I:=E b p hx;rw[H]at I;cases I;have J:=h.cl b cs t fr j z (h.pm b _ hx) K;have:=(h.ap b).resolve_right (by rw[hx];simp);rw[this]at J;cases J
 show (if (m b).isNone then n b else none)=u b;cases hx:m b with
 |none=>simp only[Option.isNone_none,if_true];rw[C.us b e,PH.or_r hx]
 |some p=>simp only[Option.isNone_some,A4z,if_false];exact ((h.ap b).resolve_right (by rw[hx];simp)).symm
def G.callJ (f:Nat)(args:List Value){R:Value->PH->Prop}(h:Aj P (adv P st)=.call f args)(T:∀ args w,(callFunc f args).run P w=.ok (.enter f args) w)(c:PH.le u (m.or u)->PH.le m (m.or u)->Fn0 P f args (m.or u) R)
 (k:∀ v j,PH.le u j->R v (m.or j)->G P fn Post (nx (adv P st) v) j m):G P fn Post st u m:=by
 refine G.big (K:=fun v j z=>z=m/\R v (m.or j)) h mV Dv (.inl fun v j z O=>by rw[O.1];exact PH.le_refl _) (fun I o t w n=>?_) (fun v j z L N=>?_)
 ·refine Hq t T w _ (Calls.mono (c n.both.1 (fun g o V=>PH.or_l V) w n.both.2) fun e w' U=>?_);obtain⟨v,W,z,C,E,F,rfl,H⟩:=U;obtain⟨j,J,g1,g2⟩:=n.apart E F;exact⟨v,C,j,m,g1,g2,rfl,by rw[J];exact H⟩
 obtain⟨rfl,Q⟩:=N;exact k v j L Q
end
end
section
variable {F:List Al}{u:PH}
def Bc2 {n:Nat}{f g:Nat->Nat->Rat}(h:∀ i k,i<n->k<n->f i k=g i k):sqL n f=sqL n g :=
 A41 fun i hi=>A41 fun k e=>h i k (A6q.1 hi) (A6q.1 e)
def Bcz {T:List (List UInt8×Nat)}{R:List Br}{lab:Int}{L t:List Dm}{P:List Par}(ok:Bl u T R F lab)(hT:∀ y∈L++t,Bw T y.1/\1<=y.2.1)(C:∀ y∈t,∃ z∈L,z.1=y.1)(E:Nn F (Cf F lab L) P):Nn F (Cf F lab (L++t)) P:=by
 refine⟨E.1,fun p=>(E.2 p).trans ?_⟩;constructor
 ·rintro (h1|⟨hne,i,f,h1,hf,h2⟩)
  ·exact .inl h1
  obtain⟨a,H,m⟩:=f;obtain⟨I,h⟩:=p;simp only at h1 h2;subst h1 h2;obtain⟨y,g,j,n⟩:=(E2 ok (fun y g=>hT y (A24 _ g)) hf h).1 hne;exact .inr ⟨(E2 ok hT hf h).2 ⟨y,A24 _ g,j,n⟩,i,_,rfl,hf,rfl⟩
 rintro (h1|⟨hne,i,f,h1,hf,h2⟩)
 ·exact .inl h1
 obtain⟨a,H,m⟩:=f;obtain⟨I,h⟩:=p;simp only at h1 h2;subst h1 h2;obtain⟨y,g,j,n⟩:=(E2 ok hT hf h).1 hne;refine .inr ⟨(E2 ok (fun y g=>hT y (A24 _ g)) hf h).2 ?_,i,_,rfl,hf,rfl⟩;rcases A1h.1 g with g|g
 ·exact⟨y,g,j,n⟩
 obtain⟨z,C,e⟩:=C y g;exact⟨z,C,by rw[e];exact j,by rw[e];exact n⟩
def Bc0 {l:Nat}{ss:List (List UInt8)}(e:l<ss.length):G4 F (l:Int) (ss.set l [])=false:=by
 have:(ss.set l []).getD l [] = []:=by rw[Bc6 e,if_pos rfl]
 unfold G4;rw[A23,this];simp
def Bc3 {v:Value}{ts:List Int}(ht:Hx u)(hv:Ac u v 1 (Fc ts))(ce:∀ t∈ts,-9223372036854775808<=t)(c6:∀ t∈ts,t<=9223372036854775807) :
 Fn0 prog 3 [v] u fun v' _=>v'=.bool true:=by
 obtain⟨a,c,rfl⟩:=hv.opn;rw[Cq]at hv⊢;refine Fn0.o func3 ?_;by_cases cw:400<ts.length
 ·refine G.gT ts.length 400<|G.c call8 (Ahv ht) ?_;rintro v1 u1 l1 rfl;exact G.r (.bool true) ⟨rfl,rfl⟩
 refine G.gF ts.length 400<|G.callO _ _ kV call9 (As9 hv oV ce c6) ?_;rintro v1 u1 m1 l1 ⟨s,rfl,rfl,hs⟩ _;rw[By];refine G.A call10 (Aul hs (A1t _)) ?_;rintro v2 u2 m2 l2 ⟨T,R,F,lab,L,xv,lv,k2,rfl,w,cb,rfl⟩ _;rw[By];have Z:=ht.mono (l1.trans l2);have dj:=w.l6;have hT:=w.wok.tup;have ar:∀ y∈L,Bw T y.1/\1<=y.2.1:=fun y hy=>by
  obtain⟨_,q1,q2,_⟩:=w.wok y hy;exact⟨q1,q2⟩
 obtain⟨l,rfl⟩:∃ l:Nat,lab=(l:Int):=⟨lab.toNat,by have:=w.lab0;omega⟩;obtain⟨xa,xc,xb,xd,xe,xf,rfl,_⟩:=id w.sch;have E:=w.rows;obtain⟨la,lc,rfl⟩:=E.opn;rw[A03]at E⊢;refine G.c call11 (Ld w.sch w.ok w.t8 E w.wok oV) ?_;rintro v3 u3 l3 ⟨x3,rfl,k3⟩;obtain⟨P,hP⟩:=A0s k3 w.ok.feat;have al:P.length<=24:=by
  have:=Atb w.ok.feat (fun y hy=>(hT y hy).1) w.w9.c9 hP;have:=w.f4;omega
 obtain⟨k,b6⟩:=Ajm (w.sch.mono l3) (w.ok.mono l3) w.t8 hT oV k3 oV hP al w.lab0;have c4:=L0 w.ok w.ok.l1 (Iz w.ok) hT;have bi:=fun z=>Af3 (L:=L) w.ok.feat w.ok.l1 (Iz w.ok) z P fun y hy=>(hT y hy).1;obtain⟨a1,n1,c1,a2,n2,c2,rfl⟩:=id k3.opn;refine G.A call12 (Afm (hs.mono (l2.trans l3)) cb) ?_;rintro v4 u4 m4 l4 ⟨q,k4,rfl,hq,cc,rfl⟩ _;rw[By];have ci:=Aaz (Z.mono (l3.trans l4)) (b6.mono l4) hq c4 oV bi;refine G.c call13 ci ?_;intro v5 u5 l5 hO;have b1:=(l3.trans l4).trans l5;have aw:=Ahv (Z.mono b1);rcases hO with ⟨e,he,rfl⟩|⟨ca,af,sv,X,b,s0,c0,rfl,kS,kN⟩
 ·refine G.nT' e 0 (Anp he)<|G.drop PH.mt kV (fun g o ho=>by cases ho)<|G.c call8 aw ?_;rintro v6 u6 l6 rfl;exact G.r (.bool true) ⟨rfl,rfl⟩
 obtain⟨pa,pc,ya,yc,ra,rc,rfl,_⟩:=id kS;refine G.nF 0 0 ?_;by_cases dh:5<P.length
 ·refine G.gT P.length 5<|G.drop PH.mt kV (fun g o ho=>by cases ho)<|G.c call8 aw ?_;rintro v6 u6 l6 rfl;exact G.r (.bool true) ⟨rfl,rfl⟩
 refine G.gF P.length 5 ?_;by_cases dg:L.length=0
 ·refine G.eT L.length 0<|G.drop PH.mt kV (fun g o ho=>by cases ho)<|G.c call8 aw ?_;rintro v6 u6 l6 rfl;exact G.r (.bool true) ⟨rfl,rfl⟩
 refine G.eF L.length 0 ?_;have a9:0<(Cf F (l:Int) L).c:=by
  rw[b6.mom.c]
  exact_mod_cast Nat.pos_of_ne_zero ca
 have hp:Td F P q:=Al6 hP hq af;have hC:=Vx (P:=P) w.ok hT oV a9;have bg:=Axy w.ok ar w.f0 (by intro e;rw[e]at a9;exact absurd a9 jV) hP;have cg:=hs.mono (l2.trans b1);refine G.A call14 (I4 (n:=L.length) cg cc oV oV) ?_;rintro v6 u6 m6 l6 ⟨r6,k6,rfl,bj,di,rfl⟩ _;rw[By];obtain⟨y,hy⟩:∃ y,L[r6]?=some y:=⟨_,A01 bj⟩;have ay:=A1k hy;have U:=b1.trans l6;obtain⟨bl,ol,rfl,e6⟩:=Ac.at' (E.mono U) (j:=r6) (e:=F3 y) (by simp[hy]);refine G.a bl ol L.length lc r6 2 bj<|G.lU (some 2) bl (ol+r6*2) (.agg #[.slice y.2.2.1 y.1.length y.2.2.2,.int .i64 y.2.1]) e6<|G.drop PH.mt kV (fun g o ho=>by cases ho) ?_;obtain⟨ax,J,_,_⟩:=w.wok y ay;have c5:=Ala w.ok ar hP ay;obtain⟨y2,Q⟩:∃ y2:Dm,y2=(y.1,2,y.2.2):=⟨_,rfl⟩;have au:∀ z∈L++[y2],Bw T z.1/\z.2.1<=7:=fun z hz=>(A1h.1 hz).elim (hT z) fun h=>by
  simp only[A12]at h;subst h Q;exact⟨J,by show 2<=7;omega⟩
 have bz:∀ z∈L++[y2],Bw T z.1/\1<=z.2.1:=fun z hz=>(A1h.1 hz).elim (ar z) fun h=>by
  simp only[A12]at h;subst h Q;exact⟨J,by show 1<=2;omega⟩
 have Y:Cf F (l:Int) (L++[y2])=(Cf F (l:Int) L).add ((cfT F (l:Int) y.1).scale ((2:Int):Rat)):=by
  rw[Eb,Q];rfl
 have bx:Nn F (Cf F (l:Int) (L++[y2])) P:=Bcz w.ok bz (fun z hz=>by
  simp only[A12]at hz;subst hz Q;exact⟨y,ay,rfl⟩) hP
 have a7:Ug P (Cf F (l:Int) (L++[y2])):=Apu w.ok au (by rw[A1d,A20];omega) a9;have bk:=Sg (w:=2) (Z.mono U) ⟨w.sch.mono U,w.ok.mono U,ax.mono U,J⟩ c5 (kS.mono l6) kN hp bg hC (by rw[<-Y];exact a7) oV oV oV oV;refine G.c call15 bk ?_;rintro v7 u7 l7 ⟨ds,X7,b7,s7,c7,rfl,bo,aa⟩;rw[<-Y]at aa;have H:=U.trans l7;obtain⟨cm,cn,cu,cv,co,cp,rfl,_⟩:=id bo;have dk:(L++[y2]).length<=7:=by rw[A1d,A20];omega
 have b9:WOK u7 T (L++[y2]):=fun z hz=>(A1h.1 hz).elim (fun h=>(w.wok.mono H) z h) fun h=>by
  simp only[A12]at h;subst h Q;exact⟨ax.mono H,J,by show 1<=2;omega,by show 2<=7;omega⟩
 have b3:L.map F3++[.agg #[.slice y.2.2.1 y.1.length y.2.2.2,.int .i64 2]]=(L++[y2]).map F3:=by rw[A1i,Q];rfl
 have bd:((L++[y2]).map F3).length=(L++[y2]).length:=A03 ..;refine G.joinF (ι:=(Option Addr×Nat×Nat)×(Option Addr×Nat×Nat)) (fun st=>Ajn prog (Akz prog [0,1,3,4,5,12] [2,6,7,8,9,10,11,13,14] (adv prog st)) [undef,undef,undef,.tuple #[.agg #[.string (mkS []),.slice none 0 0,.slice none 0 0],.int .i64 0]])
  (fun i=>[(4,.p 4005 0),(8,tV (Ae q)),(9,.p 7007 0),(11,.p 10007 0),(12,.p 11008 0),(13,iV 0),(14,.p 12012 0)])
  (fun i=>[(4005,⟨30,[sV xa T.length xc,sV xb R.length xd,sV xe F.length xf,iV l]⟩),(7007,⟨48,[sV pa P.length pc,sV ya X.length yc,sV ra b.length rc,tV (Ae s0),tV (Ae c0),tV (Ae q)]⟩),
   (10007,⟨53,[.v (.slice y.2.2.1 y.1.length y.2.2.2),.v (.int .i64 y.2.1)]⟩),(11008,⟨48,[.v (.slice cm P.length cn),.v (.slice cu X7.length cv),.v (.slice co b7.length cp),.v (.string (mkS (Ae s7))),.v (.string (mkS (Ae c7))),.v (.string (mkS (Ae q)))]⟩),
   (12012,⟨38,[.v (.string (mkS (Ae (Cf F (l:Int) (L++[y2])).c))),.v (.slice i.1.1 i.1.2.1 i.1.2.2),.v (.slice i.2.1 i.2.2.1 i.2.2.2)]⟩)])
  (fun i u' m'=>No u' (.agg #[.string (mkS (Ae (Cf F (l:Int) (L++[y2])).c)),.slice i.1.1 i.1.2.1 i.1.2.2,.slice i.2.1 i.2.2.1 i.2.2.2]) (Cf F (l:Int) (L++[y2])) (255*(L++[y2]).length)/\m'=PH.mt) (fun _=>kV) kV ?tail ?way
 case way =>
  intro V;refine G.both [0,1,3,4,5,12] 2 6 [7,8,9,10,11,13,14] kV ?_ ?_
  ·refine G.appendL 53 2 32 (.agg #[.slice none 0 0,.int .i64 0]) PH.mt [] (L.map F3) (.slice none 0 0) (some ⟨bl,ol,none⟩) L.length lc kV rfl rfl oV (Af.nil _ _ _) (E.mono H) (Asa L) gV gV ?_;intro v8 m8 I;rw[A3q]at I;obtain⟨a8,c8,rfl⟩:=I.shape;refine G.B 53 2 32 (.agg #[.slice none 0 0,.int .i64 0]) [.agg #[.slice y.2.2.1 y.1.length y.2.2.2,.int .i64 2]] (Yi (y.1,2,y.2.2)) ?_;intro g9 u9 l9 e9;refine G.k 53 2 32 (.agg #[.slice none 0 0,.int .i64 0]) PH.mt (L.map F3) [.agg #[.slice y.2.2.1 y.1.length y.2.2.2,.int .i64 2]] (.slice a8 (L.map F3).length c8) g9 0 1 1 I e9 (Yi (y.1,2,y.2.2)) ?_;intro cr a6 m;rw[b3]at m;obtain⟨bu,bv,rfl⟩:=m.shape;rw[bd]at m⊢;refine G.callJ (R:=fun r u'=>Azl u' r (Cf F (l:Int) (L++[y2])) (255*(L++[y2]).length)) _ _ kV call11 (fun hu hm=>Ld (w.sch.mono ((H.trans l9).trans hu)) (w.ok.mono ((H.trans l9).trans hu)) w.t8 (m.list hm) (b9.mono (l9.trans hu)) oV) ?_;rintro cs cq az ⟨ct,rfl,a0⟩;obtain⟨p1,o1,d1,p2,o2,d2,rfl⟩:=id a0.opn;refine G.giveP (ma:=a6) (sm:=PH.mt) kV (Ari a6).symm (fun g=>.inr rfl) (fun g=>.inl rfl) ?_;intro bt a3 W;exact V ((p1,o1,d1),(p2,o2,d2)) _ _ _ kV cV ((l9.trans az).trans a3) ⟨a0.mono (PH.or_le W a3),rfl⟩
  refine G.B 53 2 32 (.agg #[.slice none 0 0,.int .i64 0]) [.agg #[.slice y.2.2.1 y.1.length y.2.2.2,.int .i64 2]] (Yi (y.1,2,y.2.2)) ?_;intro g9 u9 l9 e9;refine G.appendL 53 2 32 (.agg #[.slice none 0 0,.int .i64 0]) PH.mt [] (L.map F3) (.slice none 0 0) (some ⟨bl,ol,none⟩) L.length lc kV rfl rfl oV (Af.nil _ _ _) (E.mono (H.trans l9)) (Asa L) gV gV ?_;intro v8 m8 I;rw[A3q]at I;obtain⟨a8,c8,rfl⟩:=I.shape;refine G.k 53 2 32 (.agg #[.slice none 0 0,.int .i64 0]) PH.mt (L.map F3) [.agg #[.slice y.2.2.1 y.1.length y.2.2.2,.int .i64 2]] (.slice a8 (L.map F3).length c8) g9 0 1 1 I e9 (Yi (y.1,2,y.2.2)) ?_;intro cr a6 m;rw[b3]at m;obtain⟨bu,bv,rfl⟩:=m.shape;rw[bd]at m⊢;refine G.callJ (R:=fun r u'=>Azl u' r (Cf F (l:Int) (L++[y2])) (255*(L++[y2]).length)) _ _ kV call11 (fun hu hm=>Ld (w.sch.mono ((H.trans l9).trans hu)) (w.ok.mono ((H.trans l9).trans hu)) w.t8 (m.list hm) (b9.mono (l9.trans hu)) oV) ?_;rintro cs cq az ⟨ct,rfl,a0⟩;obtain⟨p1,o1,d1,p2,o2,d2,rfl⟩:=id a0.opn;refine G.giveP (ma:=a6) (sm:=PH.mt) kV (Ari a6).symm (fun g=>.inr rfl) (fun g=>.inl rfl) ?_;intro bt a3 W;exact V ((p1,o1,d1),(p2,o2,d2)) _ _ _ kV cV ((l9.trans az).trans a3) ⟨a0.mono (PH.or_le W a3),rfl⟩
 rintro⟨⟨p1,o1,d1⟩,p2,o2,d2⟩ bt m12 l712 ⟨k12,rfl⟩;simp only at k12;have a5:=H.trans l712;obtain⟨k',ae⟩:=Ajm (w.sch.mono a5) (w.ok.mono a5) w.t8 au oV k12 oV bx al w.lab0;refine G.c call16 (Ae1 ae hq) ?_;rintro e2 du b0 (⟨e,he,hwhy,rfl⟩|⟨hk13,_,pa13,pc13,ya13,yc13,ra13,rc13,rfl,hPL13,hM13,hR13⟩)
 ·have av:=a7.pos;rw[ae.mom.c]at av;rcases hwhy with ⟨h0,_⟩|⟨_,_,h0⟩
  ·rw[h0]at av;exact absurd av jV
  omega
 have aq:=aa.okF hp a7;obtain⟨N,hN,ah⟩:=a7.cd;have ah:=L0 w.ok w.ok.l1 (Iz w.ok) au;have bm:=Azc (P:=P) ah oV hq.sixty;have ch:=At1 bm af;have bw:=(Rx (P:=P) (C:=Cf F (l:Int) (L++[y2])) (q:=q)).1;have ai:=aa.inv.inv;have ag:=aa.inv.rc;have bf:sqL (P.length+1) (Uj (P.length+1) (en X7) (en (Eh (Cf F (l:Int) (L++[y2])) P q)))=sqL (P.length+1) idN:=Bc2 ai;obtain⟨_,_,_,_,_,_,e7,_,c3,_⟩:=id bo;cases e7;have ak:=Bcy (B:=Eh (Cf F (l:Int) (L++[y2])) P q) (n:=P.length+1) (S:=400) (S':=2) (c3.mono (l712.trans b0)) hM13 aq.sq ch aq.n bw oV (fun i k hi hk=>by
  have h1:i<X7.length:=by rw[ag.1];exact hi
  have h2:=ag.2 i hi;rw[Ch h1]at h2;have h3:k<X7[i].length:=oV;unfold en;rw[Ch h1,Cu h3];exact (aq.sq.tx _ (A09 h1) _ (A09 h3)).sz) (fun i k hi hk=>by
  have b5:=Rx (P:=P) (C:=Cf F (l:Int) (L++[y2])) (q:=q);have h1:i<(Eh (Cf F (l:Int) (L++[y2])) P q).length:=by rw[b5.1];exact hi
  have h2:=b5.2 i hi;rw[Ch h1]at h2;have h3:k<(Eh (Cf F (l:Int) (L++[y2])) P q)[i].length:=oV;unfold en;rw[Ch h1,Cu h3];exact (bm _ (A09 h1) _ (A09 h3)).tq.sz) (by
  have:(P.length+1)*(400+2+1)<=6*(400+2+1):=A13 _ oV;omega) (fun i k hi hk=>by
  rw[ai i k hi hk];unfold idN;split
  ·exact I7.tx
  exact Afe.tx)
 rw[bf]at ak;refine G.c call17 ak ?_;rintro e3 dv cj ⟨cx,rfl,ac⟩;obtain⟨d9,dc,rfl⟩:=id ac.opn;refine G.c call18 (Bc1 (n:=P.length+1) oV) ?_;rintro e4 dw bp ⟨cy,rfl,ad⟩;obtain⟨da,dd,rfl⟩:=id ad.opn;refine G.nF 0 0<|G.nF 0 0<|G.nF 0 0<|G.c call19 (Amp (ac.mono bp) ad (by simp[sqL];omega) (fun r hr=>by
  obtain⟨i,_,rfl⟩:=A1b.1 hr;simp;omega)) ?_
 rintro e5 dx ck rfl;have a4:=(cj.trans bp).trans ck;have ao:=(a5.trans b0).trans a4;refine G.lF l 0 ?_;have aj:l<y.1.length:=by
  obtain⟨n,hn⟩:=w.ok.l2 l rfl;have:=(A05.1 hn).1;have:=J.len;omega
 have dl:=J.len;have dm:=w.t8;refine G.appendL 9 1 16 (.string (mkS [])) PH.mt [] (y.1.map nmV) (.slice none 0 0) y.2.2.1 y.1.length y.2.2.2 kV rfl rfl oV (Af.nil _ _ _) (ax.mono ao) (G6 y.1) gV gV ?_;intro e8 dq K;rw[A3q]at K;obtain⟨b4,b2,rfl⟩:=K.ptr (fun e=>by
  have:y.1.length=0:=by simpa using congrArg List.length e
  omega)
 rw[A03]at K⊢;refine G.a b4 0 y.1.length b2 l 1 aj<|G.storeA 1 PH.mt (y.1.map nmV) b4 y.1.length b2 l (.string (mkS [])) kV K (by rw[A03];omega) rfl rfl ?_;intro bs ab;rw[show (y.1.map nmV).set l (.string (mkS []))=(y.1.set l []).map nmV by rw[A2g];rfl]at ab;refine G.giveP (ma:=bs) (sm:=PH.mt) kV (Ari bs).symm (fun g=>.inr rfl) (fun g=>.inl rfl) ?_;intro dy bq be;have b8:=ab.list be;have O:=ao.trans bq;have bc:Bw T (y.1.set l []):=Bc9 J l;have bb:G4 F (l:Int) (y.1.set l [])=false:=Bc0 aj;have bh:=Awu w.ok bc bb;have ba:∀ k:Rat,(Cf F (l:Int) L).add ((cfT F (l:Int) (y.1.set l [])).scale k)=Cf F (l:Int) L:=fun k=>Als bh k;have ap:=(((((l7.trans l712).trans b0).trans a4).trans bq));have am:=Sg (w:=1) (Z.mono O) ⟨w.sch.mono O,w.ok.mono O,b8,bc⟩ (.inl bb) (kS.mono (l6.trans ap)) kN hp bg hC (by rw[ba];exact hC) oV oV oV oV;rw[ba]at am;refine G.c call15 am ?_;rintro ea dz br ⟨d5,d8,db,dr,df,rfl,an,bn⟩;obtain⟨cz,d0,d6,d7,d3,d4,rfl,_⟩:=id an;refine G.eT' 0 0 rfl<|G.c call20 (T9 an (kS.mono ((l6.trans ap).trans br)) bn kN hp hC) ?_;rintro eb e0 cl rfl;refine G.c call8 (Ahv (Z.mono ((O.trans br).trans cl))) ?_;rintro ec e1 dp rfl;exact G.r (.bool true) ⟨rfl,rfl⟩
end
end Go.Proofs.YtemmheaocgmebaaGreatDoor
section
namespace Go.Proofs.YtemmheaocgmebaaGreatDoor.refreshinverse
open Go.ChangeShapes Go.WideShapes Go.ChangeAt Go.RowKit
theorem j0:(Rows.refreshInverseRow.wf (OpenSpec.ofChange (OpenSpec.ofChange Rows.refreshInverseSpec).bare)&&laidOutB Tryz.pinned.checked.prog&&mapsRowed Tryz.pinned.checked.prog&&Tryz.f3.params.all (Tryz.pinned.checked.prog.readableRec ·)&&namedTie Tryz.pinned.checked.prog Rows.refreshInverseRow.named (OpenSpec.ofChange Rows.refreshInverseSpec).bare.vars&&(Rows.refreshInverseRow.stops == [])&&(Tryz.pinned.checked.prog.stops == [])&&(Rows.refreshInverseRow.knobs == [])&&(Tryz.pinned.checked.prog.stopKnobs == []))=true:=by kernel_rfl
theorem j1:(Rows.refreshInverseRow.inPlace==Tryz.pinned.checked.prog.inPlace 3)=true:=by kernel_rfl
theorem j2:(Rows.refreshInverseRow.unfollowed==Tryz.pinned.checked.prog.unfollowed 3)=true:=by kernel_rfl
theorem j3:(Rows.refreshInverseRow.recurses==Tryz.pinned.checked.prog.recurses 3)=true:=by kernel_rfl
theorem j4:(Rows.refreshInverseRow.named==Tryz.pinned.checked.prog.varsNamed 3)=true:=by kernel_rfl
theorem j5:Tryz.pinned.checked.prog.mayEnter=true:=by kernel_rfl
theorem closed:joinedFacts Tryz.pinned.checked.prog 3 Tryz.f3 (OpenSpec.ofChange Rows.refreshInverseSpec).bare Rows.refreshInverseRow=true:=by
 unfold joinedFacts;rw[j0,j1,j2,j3,j4,j5]
 kernel_rfl
end Go.Proofs.YtemmheaocgmebaaGreatDoor.refreshinverse
end
namespace Go.Proofs.YtemmheaocgmebaaGreatDoor
open Go.Proofs.Tryz
open Go.RowKit Go.MapKept
end Go.Proofs.YtemmheaocgmebaaGreatDoor
