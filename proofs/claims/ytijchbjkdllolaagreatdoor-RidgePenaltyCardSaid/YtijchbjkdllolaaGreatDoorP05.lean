/- Parts of one proof, joined by a program. -/
import Derived.Test.YtijchbjkdllolaaGreatDoorP04
import Derived.Lib.ItoaNum
import Derived.Shelf.Strings.Builder1
import Derived.Shelf.Strings.Builder2
import Derived.Shelf.Small.Bits
import Derived.Shelf.Small.Wraps
import Derived.Shelf.Strings.BuilderF
import Derived.Shelf.Strings.BuilderK
import Derived.Shelf.Strings.Builder2Cap
import Derived.Shelf.Strconv.Itoa0
import Derived.Shelf.Strconv.Itoa1
import Derived.Shelf.LaysM
import Derived.Shelf.Strconv.Itoa2
import Derived.Shelf.Strconv.Itoa3
import Derived.Shelf.Strconv.Lower
import Derived.Shelf.Strconv.ParseUint10
import Derived.Shelf.Strconv.ParseUintEmpty
import Derived.Shelf.Strconv.ParseUint10b64
import Derived.Shelf.Strconv.ParseUint10b32
import Derived.Shelf.Strconv.ParseUint10b16
import Derived.Shelf.Strconv.ParseUint10b8
import Derived.Shelf.Strconv.ParseUint10At
import Derived.Ground.MpProg
import Derived.Shelf.Pu.ParseUintPublic10
import Derived.Shelf.Strings.Search1
import Derived.Shelf.Strings.Search2
import Derived.Shelf.Strings.Cut
import Derived.Shelf.Strings.Shaped
import Derived.Shelf.Strings.Prefix
import Derived.Shelf.Bits.Mul64
import Derived.Shelf.Strings.Repeat
import Derived.Shelf.Strings.BuilderCap
import Derived.Test.YtijchbjkdllolaaGreatDoorProg
import Derived.Lib.AppendIntMem
import Derived.Lib.AtoiErrMem
set_option linter.defProp false
set_option linter.unusedVariables false
set_option linter.unusedSimpArgs false
set_option linter.unusedSectionVars false
set_option maxHeartbeats 16000000
namespace Go.Proofs.YtijchbjkdllolaaGreatDoor
open Go.Proofs.Tryz
open Go.RowKit
def A7x:=@Int.tdiv_eq_ediv_of_dvd
def A8x:=@Int.ofNat_dvd_left
def A9b:=@Nat.gcd_dvd_right
def A6v:=@Int.natAbs_tdiv
def A4s:=@Rat.num_eq_zero
def A4r:=@List.range_succ
def A8b:=@List.getElem?_reverse
def A3b:=@Nat.div_div_eq_div_mul
def A5d:=@Nat.pow_pos
def A5p:=@Nat.pow_lt_pow_iff_right
def Ayy:=@List.getElem?_map
def A9j:=@Nat.div_one
def A62:=@List.reverse_append
def A6w:=@UInt8.toNat_inj
def A3c:=@Option.map_eq_some_iff
def A49:=@Array.size_replicate
section
variable {k:Nat}{q r:Rat}{u:PH}{x x':Value}{y z:Int}
def QP (u:PH)(v:Value)(q:Rat):Prop :=
 ∃ a n c a' n' c',v=.agg #[.bool (decide (q.num<0)),.slice a n c,.bool false,.slice a' n' c']/\Co u (.slice a n c) (Aa q.num.natAbs)/\Co u (.slice a' n' c') (Aa q.den)
def QP.mono {u u':PH}{v:Value}{q:Rat}(h:QP u v q)(hl:PH.le u u'):QP u' v q:=by
 obtain⟨a,n,c,a',n',c',h1,h2,h3⟩:=h;exact⟨a,n,c,a',n',c',h1,h2.mono hl,h3.mono hl⟩
def QP.opn {v:Value}(h:QP u v q):∃ b a n c e g f,v=.agg #[.bool b,.slice a n c,.bool false,.slice e g f]/\b=decide (q.num<0)/\Dm u (.agg #[.bool b,.slice a n c]) q.num/\Dm u (.agg #[.bool false,.slice e g f]) (q.den:Int):=by
 obtain⟨a,n,c,e,g,f,rfl,j,m⟩:=h;exact⟨_,a,n,c,e,g,f,rfl,rfl,⟨a,n,c,rfl,j⟩,⟨e,g,f,by rw[decide_eq_false oV],m⟩⟩
def QP.mk {u:PH}{q:Rat}{y z:Int}{b b':Bool}{a f:Option Addr}{n c j g:Nat}(m:Dm u (.agg #[.bool b,.slice a n c]) y)(t:Dm u (.agg #[.bool b',.slice f j g]) z)(A:q.num=y)(C:(q.den:Int)=z) :
 QP u (.agg #[.bool b,.slice a n c,.bool b',.slice f j g]) q:=by
 obtain⟨_,_,_,h,D⟩:=m;obtain⟨_,_,_,e,E⟩:=t;subst A C;rw[decide_eq_false oV]at e;simp only[Value.agg.injEq,A19,A0f,Value.bool.injEq,Value.slice.injEq,and_true]at h e;obtain⟨rfl,rfl,rfl,rfl⟩:=h;obtain⟨rfl,rfl,rfl,rfl⟩:=e;exact⟨_,_,_,_,_,_,rfl,D,E⟩
def Ahr (y:Int)(z:Nat):y.tdiv (Nat.gcd y.natAbs z:Nat)=y/(Nat.gcd y.natAbs z:Nat):=by
 apply A7x;exact A8x.2 (Nat.gcd_dvd_left _ _)
def Afn (y:Nat)(z:Int):z.tdiv (Nat.gcd y z.natAbs:Nat)=z/(Nat.gcd y z.natAbs:Nat):=by
 apply A7x;exact A8x.2 (A9b _ _)
def O6 (g:0<z):(Rat.divInt y z).num=y.tdiv (Nat.gcd y.natAbs z.natAbs:Nat)/\((Rat.divInt y z).den:Int)=z.tdiv (Nat.gcd y.natAbs z.natAbs:Nat)/\0<z.tdiv (Nat.gcd y.natAbs z.natAbs:Nat):=by
 have h:=Vt (y:=y) g rfl;have e:z=((z.natAbs:Nat):Int):=oV
 have f:((Rat.divInt y z).den:Int)=z.tdiv (Nat.gcd y.natAbs z.natAbs:Nat):=by
  rw[h.2,Afn,A23];congr 1;exact e.symm
 refine⟨by rw[h.1,Ahr],f,?_⟩;rw[<-f];have:=(Rat.divInt y z).den_pos;omega
def As8 (e:z<0):(Rat.divInt y z).num = -(y.tdiv (Nat.gcd y.natAbs z.natAbs:Nat))/\((Rat.divInt y z).den:Int) = -(z.tdiv (Nat.gcd y.natAbs z.natAbs:Nat))/\z.tdiv (Nat.gcd y.natAbs z.natAbs:Nat)<0:=by
 have h:=O6 (y:=-y) (z:=-z) oV;rw[N2,A1p,A1p,A5o,A5o]at h;exact⟨h.1,h.2.1,oV⟩
def Ui {g k:Nat}(h:nl y.natAbs<=k):nl (y.tdiv g).natAbs<=k:=by
 refine Ayv (Cs ?_) h;rw[A6v];exact A16 _ _
def Sp (C:-9223372036854775807<=z)(D:z<=9223372036854775807):Fn0 prog 15 [.int .i64 z] u fun v H=>QP H v (z:Rat):=by
 refine Fn0.o func15<|G.c call57 (Va C D) ?_;intro L J I e;obtain⟨j,g,E,t,rfl,_,_⟩:=e.opn;refine G.c call57 (Va (n:=1) oV oV) ?_;intro N K l2 f;obtain⟨m,h,F,A,rfl,_,_⟩:=f.opn;exact G.r (.agg #[.bool j,.slice g E t,.bool m,.slice h F A]) ⟨rfl,QP.mk (e.mono l2) f rfl rfl⟩
def Uj (A:Dm u x y)(f:Dm u x' z)(H:nl y.natAbs<=100000000000)(sz:nl z.natAbs<=100000000000)(hz:z≠0) :
 Fn0 prog 63 [x,x'] u fun v u'=>QP u' v (Rat.divInt y z):=by
 obtain⟨b,a,n,c,rfl,_,_⟩:=A.opn;obtain⟨b',a',n',c',rfl,_,t⟩:=f.opn;obtain⟨rfl,_⟩:=t.len;have a8:(Aa z.natAbs).length<=100000000000:=sz;have a0:0<(Aa z.natAbs).length:=Cz.2 oV;have Z:0<Nat.gcd y.natAbs z.natAbs:=A5m _ oV;have g:nl (Nat.gcd y.natAbs z.natAbs)<=100000000000:=Ayv (Cs (Nat.gcd_le_right _ oV)) sz;refine Fn0.o func63<|G.eF ((Aa z.natAbs).length:Int) 0<|G.c call126 (Akg A f H sz) ?_;intro v1 u1 L C;obtain⟨b1,a1,n1,c1,rfl,_,_⟩:=C.opn;refine G.c call129 (Abi (A.mono L) C H (by simpa using g) oV) ?_;rintro v2 u2 l2 ⟨va,vb,rfl,h,D⟩;obtain⟨R,N,n2,V,rfl,_,_⟩:=h.opn;obtain⟨b3,a3,n3,c3,rfl,_,_⟩:=D.opn;refine G.c call129 (Abi (f.mono (L.trans l2)) (C.mono l2) sz (by simpa using g) oV) ?_;rintro v4 u4 l4 ⟨va,vb,rfl,E,F⟩;obtain⟨b4,O,n4,W,rfl,e,_⟩:=E.opn;obtain⟨b5,a5,n5,c5,rfl,_,_⟩:=F.opn;have h:=h.mono l4;rcases A8v hz with hn|hp
 ·obtain⟨j,m,I⟩:=As8 (y:=y) hn;rw[decide_eq_true I]at e;subst e;refine G.c call130 (Sd h (Ayv (Ui H) oV)) ?_;intro v6 u6 l6 J;obtain⟨T,P,n6,X,rfl,_,_⟩:=J.opn;refine G.c call130 (Sd (E.mono l6) (Ayv (Ui sz) oV)) ?_;intro v7 u7 l7 K;obtain⟨U,Q,n7,Y,rfl,_,_⟩:=K.opn;exact G.r (.agg #[.bool T,.slice P n6 X,.bool U,.slice Q n7 Y]) ⟨rfl,QP.mk (J.mono l7) K j m⟩
 obtain⟨j,m,I⟩:=O6 (y:=y) hp;rw[decide_eq_false oV]at e;subst e;exact G.r (.agg #[.bool R,.slice N n2 V,.bool false,.slice O n4 W]) ⟨rfl,QP.mk h E j m⟩
def Xt (h:QP u x q)(g:nl q.num.natAbs<=100000000000):Fn0 prog 86 [x] u fun v F=>v=.bool (decide (q.num=0)):=by
 obtain⟨b,a,n,c,m,E,t,rfl,D,f,A⟩:=h.opn;obtain⟨_,_,_,e,hi⟩:=f;simp only[Value.agg.injEq,A19,A0f,Value.bool.injEq,Value.slice.injEq,and_true]at e;obtain⟨_,rfl,rfl,rfl⟩:=e;obtain⟨rfl,_⟩:=hi.len;have j:(Aa q.num.natAbs).length<=100000000000:=g;have hp:=Cz (n:=q.num.natAbs);refine Fn0.o func86 ?_;by_cases h0:q.num=0
 ·exact G.eT' ((Aa q.num.natAbs).length:Int) 0 (by rw[h0];simp[Bd])<|G.r (.bool true) ⟨rfl,by simp[h0]⟩
 have C:0<(Aa q.num.natAbs).length:=hp.2 oV;exact G.eF ((Aa q.num.natAbs).length:Int) 0<|G.r (.bool false) ⟨rfl,by simp[h0]⟩
def Aci (h:QP u x q)(g:nl q.num.natAbs<=100000000000):Fn0 prog 39 [x] u fun v E=>v=.int .i64 (sgn q.num):=by
 obtain⟨b,a,n,c,j,D,m,rfl,e,t,A⟩:=h.opn;refine Fn0.o func39 ?_;by_cases f:q.num<0
 ·rw[decide_eq_true f]at e;subst e;exact G.r (.int .i64 (-1)) ⟨rfl,by simp[sgn,f]⟩
 rw[decide_eq_false f]at e;subst e;refine G.c call86 (Xt h g) ?_;rintro H F C rfl;by_cases h0:q.num=0
 ·rw[decide_eq_true h0];exact G.r (.int .i64 0) ⟨rfl,by simp[sgn,h0]⟩
 rw[decide_eq_false h0];exact G.r (.int .i64 1) ⟨rfl,by simp[sgn,f];omega⟩
def Aib (q r:Rat):Rat.divInt (q.num*(r.den:Int)-r.num*(q.den:Int)) ((q.den:Int)*(r.den:Int))=q-r:=by
 have h:=Rt q (-r);rw[A76,A77,A67,<-A4q]at h;rw[h,A5n]
def Aby (e:nl y.natAbs<=k)(f:nl z.natAbs<=k):nl (y-z).natAbs<=k+1:=by
 rw[A4q];exact Rh e (by rw[A1p];exact f)
def E2 (P:QP u x q)(t:QP u x' r)(e:Sz q 10000000000)(f:Sz r 10000000000) :
 Fn0 prog 22 [x,x'] u fun v U=>QP U v (q*r):=by
 obtain⟨b,a,n,c,V,n',c',rfl,_,O,N⟩:=P.opn;obtain⟨Z,W,n2,c2,H,R,K,rfl,_,m,j⟩:=t.opn;refine Fn0.o func22<|G.c call64 (Ke O m (Ayv e.1 oV) (Ayv f.1 oV)) ?_;intro v3 u3 F D;obtain⟨b3,X,n3,c3,rfl,_,_⟩:=D.opn;refine G.c call64 (Ke (N.mono F) (j.mono F) (Ayv e.2 oV) (Ayv f.2 oV)) ?_;intro v4 u4 Q E;obtain⟨b4,Y,n4,c4,rfl,_,_⟩:=E.opn;refine G.c call63 (Uj (D.mono Q) E (Ayv (B5 e.1 f.1) oV) (Ayv (B5 (k:=10000000000) (by simpa using e.2) (by simpa using f.2)) oV) (U3 q r)) ?_;intro v5 u5 l5 A;rw[Aax]at A;obtain⟨J,I,T,L,g,C,h,rfl,_⟩:=A.opn;exact G.r (.agg #[.bool J,.slice I T L,.bool false,.slice g C h]) ⟨rfl,A⟩
def Ks (W:QP u x q)(D:QP u x' r)(j:Sz q 10000000000)(m:Sz r 10000000000) :
 Fn0 prog 21 [x,x'] u fun v u'=>QP u' v (q+r):=by
 obtain⟨b,a,n,c,a',n',c',rfl,_,V,I⟩:=W.opn;obtain⟨b2,a2,n2,c2,P,Y,T,rfl,_,C,g⟩:=D.opn;have e:nl ((q.den:Int)).natAbs<=10000000000:=by simpa using j.2
 have f:nl ((r.den:Int)).natAbs<=10000000000:=by simpa using m.2
 refine Fn0.o func21<|G.c call64 (Ke V g (Ayv j.1 oV) (Ayv f oV)) ?_;intro v3 u3 h J;obtain⟨b3,a3,n3,c3,rfl,_,_⟩:=J.opn;refine G.c call64 (Ke (C.mono h) (I.mono h) (Ayv m.1 oV) (Ayv e oV)) ?_;intro v4 u4 F K;obtain⟨b4,a4,n4,c4,rfl,_,_⟩:=K.opn;refine G.c call66 (Ai6 (J.mono F) K (Ayv (B5 j.1 f) oV) (Ayv (B5 m.1 e) oV)) ?_;intro v6 u6 O L;obtain⟨b6,a6,n6,c6,rfl,_,_⟩:=L.opn;refine G.c call64 (Ke (I.mono ((h.trans F).trans O)) (g.mono ((h.trans F).trans O)) (Ayv e oV) (Ayv f oV)) ?_;intro v7 u7 X N;obtain⟨b7,a7,n7,c7,rfl,_,_⟩:=N.opn;refine G.c call63 (Uj (L.mono X) N (Ayv (Rh (B5 j.1 f) (B5 m.1 e)) oV) (Ayv (B5 e f) oV) (U3 q r)) ?_;intro v5 u5 l5 E;rw[Rt]at E;obtain⟨R,Q,Z,U,t,H,A,rfl,_⟩:=E.opn;exact G.r (.agg #[.bool R,.slice Q Z U,.bool false,.slice t H A]) ⟨rfl,E⟩
def Aie (W:QP u x q)(D:QP u x' r)(j:Sz q 10000000000)(m:Sz r 10000000000) :
 Fn0 prog 20 [x,x'] u fun v u'=>QP u' v (q-r):=by
 obtain⟨b,a,n,c,a',n',c',rfl,_,V,I⟩:=W.opn;obtain⟨b2,a2,n2,c2,P,Y,T,rfl,_,C,g⟩:=D.opn;have e:nl ((q.den:Int)).natAbs<=10000000000:=by simpa using j.2
 have f:nl ((r.den:Int)).natAbs<=10000000000:=by simpa using m.2
 refine Fn0.o func20<|G.c call64 (Ke V g (Ayv j.1 oV) (Ayv f oV)) ?_;intro v3 u3 h J;obtain⟨b3,a3,n3,c3,rfl,_,_⟩:=J.opn;refine G.c call64 (Ke (C.mono h) (I.mono h) (Ayv m.1 oV) (Ayv e oV)) ?_;intro v4 u4 F K;obtain⟨b4,a4,n4,c4,rfl,_,_⟩:=K.opn;refine G.c call65 (Att (J.mono F) K (Ayv (B5 j.1 f) oV) (Ayv (B5 m.1 e) oV)) ?_;intro v6 u6 O L;obtain⟨b6,a6,n6,c6,rfl,_,_⟩:=L.opn;refine G.c call64 (Ke (I.mono ((h.trans F).trans O)) (g.mono ((h.trans F).trans O)) (Ayv e oV) (Ayv f oV)) ?_;intro v7 u7 X N;obtain⟨b7,a7,n7,c7,rfl,_,_⟩:=N.opn;refine G.c call63 (Uj (L.mono X) N (Ayv (Aby (B5 j.1 f) (B5 m.1 e)) oV) (Ayv (B5 e f) oV) (U3 q r)) ?_;intro v5 u5 l5 E;rw[Aib]at E;obtain⟨R,Q,Z,U,t,H,A,rfl,_⟩:=E.opn;exact G.r (.agg #[.bool R,.slice Q Z U,.bool false,.slice t H A]) ⟨rfl,E⟩
def Bdf (U:QP u x q)(m:QP u x' r)(C:Sz q 10000000000)(D:Sz r 10000000000)(T:r≠0) :
 Fn0 prog 156 [x,x'] u fun v Z=>QP Z v (q/r):=by
 obtain⟨b,a,n,c,a',n',c',rfl,_,R,Q⟩:=U.opn;obtain⟨b2,a2,n2,c2,K,X,O,rfl,_,j,g⟩:=m.opn;have E:nl ((q.den:Int)).natAbs<=10000000000:=by simpa using C.2
 have F:nl ((r.den:Int)).natAbs<=10000000000:=by simpa using D.2
 have V:(q.den:Int)*r.num≠0:=A9x (by have:=q.den_nz;omega) (fun h=>T (A4s.1 h));refine Fn0.o func156<|G.c call64 (Ke R g (Ayv C.1 oV) (Ayv F oV)) ?_;intro v3 u3 J H;obtain⟨b3,a3,n3,c3,rfl,_,_⟩:=H.opn;refine G.c call64 (Ke (Q.mono J) (j.mono J) (Ayv E oV) (Ayv D.1 oV)) ?_;intro v4 u4 W I;obtain⟨b4,a4,n4,c4,rfl,_,_⟩:=I.opn;refine G.c call63 (Uj (H.mono W) I (Ayv (B5 C.1 F) oV) (Ayv (B5 E D.1) oV) V) ?_;intro v5 u5 l5 t;rw[Bch]at t;obtain⟨N,L,Y,P,e,A,f,rfl,_⟩:=t.opn;exact G.r (.agg #[.bool N,.slice L Y P,.bool false,.slice e A f]) ⟨rfl,t⟩
end
section
open Go.Lib
variable {j k n:Nat}
def ld (n k:Nat):List UInt8:=(List.range k).map (dg n)
def Ur (n k:Nat):ld n (k+1)=ld n k++[dg n k]:=by simp[ld,A4r]
def C0 (n k:Nat):(ld n k).length=k:=by simp[ld]
def Aaj (h:j<k):(ld n k)[j]?=some (dg n j):=by simp[ld,h]
def Asp (h:j<=k):(ld n k).take j=ld n j:=by
 apply A2f;intro i;rw[A1x];split
 ·rw[Aaj oV,Aaj oV]
 rw[Azo (by rw[C0];omega)]
def Aa8 (n:Nat):(ld n (nDigits n)).reverse=decDigits n:=by
 rw[decDigits_eq];apply A2f;intro i;by_cases h:i<nDigits n
 ·rw[A8b (by rw[C0];exact h),C0,Aaj oV];simp[h]
 rw[Azo (by simp[C0];omega),Azo gV]
def Qd (n i:Nat):(Aa n).getD i 0=n/1000000000^i%1000000000:=by
 induction i generalizing n with
 |zero =>
  by_cases h:n=0
  ·subst h;simp[Bd]
  rw[Dq h];simp
 |succ i ih =>
  by_cases h:n=0
  ·subst h;simp[Bd]
  rw[Dq h,A3s,ih,A0d,Az5,A3b]
def Agd (i:Nat):(1000000000:Nat)^i=10^(9*i):=by rw[Nat.pow_mul]
def Atl (n i t:Nat)(f:t<9):dg n (9*i+t)=UInt8.ofNat (48+(Aa n).getD i 0/10^t%10):=by
 rw[Qd,Agd];have e:(1000000000:Nat)=10^t*10^(9-t):=by rw[<-A3a,show t+(9-t)=9 by omega]
 rw[e,Nat.mod_mul_right_div_self,Nat.mod_mod_of_dvd _ (by rw[show 9-t=(8-t)+1 by omega,A0d];exact Nat.dvd_mul_left _ _),A3b,<-A3a];rfl
def Qn (h:k<256):(UInt8.ofNat k).toNat=k:=gV
def Q3 (n j:Nat):(dg n j).toNat=48+n/10^j%10:=by
 unfold dg;have:n/10^j%10<10:=A0z _ oV;exact Qn oV
def Aex (h:n<10^(k+1)):n/10^k%10=0↔n<10^k:=by
 have hp:0<10^k:=A5d oV;have e:n/10^k<10:=by rw[A05 hp,Az5,<-A0d];exact h
 rw[A3u e,Nat.div_eq_zero_iff];constructor
 ·rintro (h|h)
  ·omega
  exact h
 exact .inr
def Rb (n:Nat):n<10^(9*(Aa n).length):=by rw[<-Agd];exact Cy n
def O9 (h:10^j<=n):nDigits n=j+nDigits (n/10^j):=by
 induction j generalizing n with
 |zero=>simp
 |succ j ih =>
  have hp:0<10^j:=A5d oV;rw[A0d]at h;rw[nDigits_big oV,ih (n:=n/10) (by rw[A2x oV];exact h),A0d,Az5 (10^j),<-A3b];omega
def Tm (h:n≠0):nDigits n=9*((Aa n).length-1)+nDigits ((Aa n).getD ((Aa n).length-1) 0):=by
 have g:=Rg h;rw[Agd]at g;rw[Qd,O9 g,Agd,A3u];rfl;rw[A05 (A5d oV)];have f:=Cy n;have m:0<nl n:=by
  rcases Azx (nl n) with h0|h0
  ·rw[h0]at f;simp at f;omega
  exact h0
 have e:(1000000000:Nat)*10^(9*((Aa n).length-1))=1000000000^nl n:=by
  rw[<-Agd,Az5,<-A0d];congr 1;show nl n-1+1=nl n;omega
 rw[e];exact f
def Ii (l:List UInt8):Prop:=∀ b∈l,48<=b.toNat/\b.toNat<=57
def rdA (a:Nat)(l:List UInt8):Nat:=l.foldl (fun a b=>10*a+(b.toNat-48)) a
def rd (l:List UInt8):Nat:=rdA 0 l
def Aho (a:Nat)(l e:List UInt8):rdA a (l++e)=rdA (rdA a l) e:=by simp[rdA]
def Af3 (a:Nat)(l:List UInt8):rdA a l=a*10^l.length+rd l:=by
 induction l generalizing a with
 |nil=>simp[rdA,rd]
 |cons b l ih =>
  have e:rdA a (b::l)=rdA (10*a+(b.toNat-48)) l:=rfl;have f:rd (b::l)=rdA (10*0+(b.toNat-48)) l:=rfl;rw[e,f,ih,ih (10*0+(b.toNat-48)),A0q,A0d,A1y,A0h,<-A1l]
  congr 1
  rw[Azt];congr 1;rw[Az5 10 a,Az4,Az5 10]
def Yv (l e:List UInt8):rd (l++e)=rd l*10^e.length+rd e:=by rw[rd,Aho,Af3];rfl
def Y7 {l:List UInt8}(h:Ii l):rd l<10^l.length:=by
 induction l with
 |nil=>simp[rd,rdA]
 |cons b l ih =>
  have e:rd (b::l)=rdA (10*0+(b.toNat-48)) l:=rfl;have m:=h b mV;have:=ih fun x f=>h x (by simp[f]);rw[e,Af3,A0q,A0d];have g:(10*0+(b.toNat-48))*10^l.length<=9*10^l.length:=Az7 _ oV;omega
def Mv (n:Nat):Ii (decDigits n):=by
 rw[decDigits_eq];intro b e;simp only[Ayx]at e;obtain⟨t,_,rfl⟩:=e;rw[Q3];have:=A0z (n/10^(nDigits n-1-t)) (show 0<10 by omega);omega
def Ags (n:Nat):rd (decDigits n)=n:=by
 induction n using Nat.strongRecOn with
 |ind n ih =>
  rw[decDigits];by_cases h:n<10
  ·rw[dif_pos h];have:(UInt8.ofNat (48+n)).toNat=48+n:=Qn oV;show 10*0+((UInt8.ofNat (48+n)).toNat-48)=n;omega
  rw[dif_neg h,Yv,ih _ oV];have:(UInt8.ofNat (48+n%10)).toNat=48+n%10:=Qn oV;show n/10*10^1+(10*0+((UInt8.ofNat (48+n%10)).toNat-48))=n;omega
def Ga (n:Nat):decDigits n≠[]:=by
 intro h;have:=decDigits_length n;rw[h]at this;have:=nDigits_pos n;simp at *;omega
def Ac3 (n:Nat):(decDigits n)[0]?=some (dg n (nDigits n-1)):=by
 rw[decDigits_eq];have h:0<nDigits n:=nDigits_pos n;simp[h]
def Gq (h:n≠0):10^(nDigits n-1)<=n:=by
 induction n using Nat.strongRecOn with
 |ind n ih =>
  by_cases e:n<10
  ·rw[nDigits_small e];simp;omega
  rw[nDigits_big e];have f:=ih (n/10) oV oV;have g:=nDigits_pos (n/10);rw[show nDigits (n/10)+1-1=(nDigits (n/10)-1)+1 by omega,A0d];omega
def Alx (h:n≠0):49<=(dg n (nDigits n-1)).toNat:=by
 rw[Q3];have f:=nDigits_pos n;have e:=lt_pow_nDigits n;rw[show nDigits n=(nDigits n-1)+1 by omega]at e;have g:¬ _:=fun h0=>absurd ((Aex e).1 h0) (by have:=Gq h;omega);omega
end
section
variable {R l:List UInt8}{i:Nat}{u:PH}{x:Value}{z:Int}
def Af7 (h:Dm u x z)(t:nl z.natAbs<=100000000000):Fn0 prog 134 [x] u fun v _=>v=.int .i64 (Lib.nDigits z.natAbs:Nat):=by
 obtain⟨b,a,n,c,rfl,V,hi⟩:=h.opn;obtain⟨rfl,_⟩:=hi.len;have P:(Aa z.natAbs).length<=100000000000:=t;refine Fn0.o func134 ?_;by_cases h0:z.natAbs=0
 ·exact G.eT' ((Aa z.natAbs).length:Int) 0 (by rw[h0,Bd];rfl)<|G.r (.int .i64 1) ⟨rfl,by rw[h0,Lib.nDigits_small oV];rfl⟩
 have hp:0<(Aa z.natAbs).length:=Cz.2 oV;have I:=Tm h0;have E:=Pc h0;have f:=(An z.natAbs).getD ((Aa z.natAbs).length-1);generalize Aa z.natAbs=l at *
 generalize U:Lib.nDigits z.natAbs=N at *
 have g:∀ k,k<1000000000->Lib.nDigits k<=9:=by
  intro k C;rcases Azx k with h|h
  ·subst h;rw[Lib.nDigits_small oV];omega
  have e:=Gq (n:=k) oV;have A:10^(Lib.nDigits k-1)<10^9:=A0r e oV;have Q:=(A5p (by omega:1<10)).1 A;omega
 refine G.eF l.length 0<|G.s l.length 1 (l.length-1:Nat)<|G.mul 9 ((l.length-1:Nat):Int) ((9*(l.length-1):Nat):Int) kV oV oV oV<|G.s l.length 1 (l.length-1:Nat) ?_;obtain⟨F,off,rfl,O⟩:=hi.at (j:=l.length-1) oV;refine G.a F off l.length c (l.length-1) 1 oV<|G.lU none F (off+(l.length-1)*1) (.int .i64 (l.getD (l.length-1) 0:Nat)) O ?_;have T:=g _ f;refine G.l (ι:=Nat×Nat) (fun i=>[(3,iV i.1),(4,iV i.2)]) (fun _=>[])
  (fun i _ K=>(i.1+(if i.2=0 then 0 else Lib.nDigits i.2)=N/\i.2<1000000000)/\K=PH.mt) (fun i=>i.2) (9*(l.length-1),l.getD (l.length-1) 0) ⟨⟨by dsimp only;rw[if_neg E];omega,f⟩,rfl⟩ ?_
 rintro J ⟨m,k⟩ H W K D ⟨⟨e,A⟩,rfl⟩;simp only at e A H;by_cases C:k=0
 ·subst C;exact G.gF (0:Nat) 0<|G.r (.int .i64 m) ⟨rfl,by simp at e;rw[e]⟩
 rw[if_neg C]at e;refine G.gT k 0 ?_;have L:m+1<=1000000000001:=oV;refine G.i m<|G.quo (k:Int) 10 ((k/10:Nat):Int) kV oV oV oV oV<|G.b (H (m+1,k/10) _ _ _ cV D ⟨⟨?_,dV⟩,rfl⟩ dV);dsimp only;by_cases t:k<10
 ·rw[Lib.nDigits_small t]at e;rw[if_pos oV];omega
 rw[Lib.nDigits_big t]at e;rw[if_neg oV];omega
structure N6 (R l:List UInt8)(i:Nat):Prop where
 len:l.length=R.length
 at_:∀ k,k<R.length->l[k]?=if k<i\/R.length-i<=k then R[R.length-1-k]? else R[k]?
def N6.start (R:List UInt8):N6 R R 0:=⟨rfl,fun k e=>by rw[if_neg oV]⟩
def N6.step (h:N6 R l i)(hi:i<R.length-1-i):N6 R ((l.set i (l.getD (R.length-1-i) 0)).set (R.length-1-i) (l.getD i 0)) (i+1):=by
 have m:=h.len;have f:l.getD (R.length-1-i) 0=R.getD (R.length-1-i) 0:=by
  rw[Ays,h.at_ _ oV,if_neg oV,Ays]
 have g:l.getD i 0=R.getD i 0:=by
  rw[Ays,h.at_ _ oV,if_neg oV,Ays]
 refine⟨by simp[m],fun k j=>?_⟩;rw[A1g];split
 ·rename_i hk2;subst hk2;rw[if_pos gV,if_pos oV,g,show R.length-1-(R.length-1-i)=i by omega,Ayr oV];rw[Ays,Ayr oV];rfl
 rename_i hk2;rw[A1g];split
 ·rename_i hk3;subst hk3;rw[if_pos oV,if_pos oV,f];rw[Ays,Ayr oV];rfl
 rename_i hk3;rw[h.at_ k j];by_cases e:k<i\/R.length-i<=k
 ·rw[if_pos e,if_pos oV]
 rw[if_neg e,if_neg oV]
def N6.done (h:N6 R l i)(hi:¬ i<R.length-1-i):l=R.reverse:=by
 apply A2f;intro k;by_cases e:k<R.length
 ·rw[h.at_ k e,A8b e];split
  ·rfl
  rename_i hc
  congr 1;omega
 rw[Azo (by rw[h.len];omega),Azo gV]
def Hp {j:Nat}(h:j<l.length):(Bm l)[j]?=some (.int .u8 ((l.getD j 0).toNat:Int)):=by
 rw[Bm,Ayy,Ayr h,Ays,Ayr h];rfl
def Ms (l:List UInt8)(j:Nat)(b:UInt8):(Bm l).set j (.int .u8 (b.toNat:Int))=Bm (l.set j b):=by simp[Bm,A1d]
def Oc (h:z<0):Lib.itoa z=45::Lib.decDigits z.natAbs:=by rw[Lib.itoa,if_pos h]
def Du (h:¬ z<0):Lib.itoa z=Lib.decDigits z.natAbs:=by rw[Lib.itoa,if_neg h];congr 1;omega
def Ad8 (h:Dm u x z)(hs:nl z.natAbs<=100000000000):Fn0 prog 127 [x] u fun v _=>v=.string (mkS (Lib.itoa z)):=by
 obtain⟨b,a,n,c,rfl,hb,hi⟩:=h.opn;obtain⟨rfl,_⟩:=hi.len;have aq:(Aa z.natAbs).length<=100000000000:=hs;refine Fn0.o func127 ?_;by_cases h0:z.natAbs=0
 ·exact G.eT' ((Aa z.natAbs).length:Int) 0 (by rw[h0,Bd];rfl)<|G.r (.string (mkS [48])) ⟨rfl,by rw[Du oV,h0,Lib.decDigits_one oV];rfl⟩
 have hp:0<(Aa z.natAbs).length:=Cz.2 oV;refine G.eF ((Aa z.natAbs).length:Int) 0 ?_;have ab:=Rb z.natAbs;generalize hN:z.natAbs=N at *
 generalize hL:Aa N=l at *
 refine G.l (ι:=Nat×(Option Addr×Nat×Nat)) (fun i=>[(1,.p 0 0),(3,sV i.2.1 i.2.2.1 i.2.2.2),(4,iV i.1)]) (fun _=>[(0,⟨50,[bV b,sV a l.length c]⟩)])
  (fun i _ V=>i.1<=l.length/\Af PH.mt V (.slice i.2.1 i.2.2.1 i.2.2.2) 5 1 (Bm (ld N (9*i.1)))) (fun i=>l.length-i.1) (0,(none,0,0)) ⟨mV,Af.nil _ _ _⟩ ?_
 rintro J ⟨i,a1,n1,C⟩ hJ u1 m1 a7 ⟨ae,f⟩;simp only at ae f hJ;by_cases ap:i<l.length
 ·refine G.lT i l.length ?_;obtain⟨bb,off,rfl,he⟩:=(hi.mono a7).at (j:=i) oV;refine G.a bb off l.length c i 1 oV<|G.lU none bb (off+i*1) (.int .i64 (l.getD i 0:Nat)) he ?_;have a9:l.getD i 0<1000000000:=by rw[<-hL];exact (An N).getD i
  refine G.loop (ι:=Nat×(Option Addr×Nat×Nat)) (fun q=>[(1,.p 0 0),(3,sV q.2.1 q.2.2.1 q.2.2.2),(4,iV i),(5,iV (l.getD i 0/10^q.1:Nat)),(6,iV q.1)]) (fun _=>[(0,⟨50,[bV b,sV (some ⟨bb,off,none⟩) l.length c]⟩)])
   (fun q _ V=>q.1<=9/\Af PH.mt V (.slice q.2.1 q.2.2.1 q.2.2.2) 5 1 (Bm (ld N (9*i+q.1)))) (fun q=>9-q.1) (0,(a1,n1,C)) kV (fun _=>kV) ⟨kV,by rw[A7n,A9j];kernel_rfl,kV⟩ ⟨mV,f⟩ ?_
  clear f;rintro J2 ⟨t,a2,n2,c2⟩ a5 u2 m2 W ⟨ht,f⟩;simp only at ht f a5;have ag:=f.len;rw[Ay,C0]at ag;by_cases al:t<9
  ·refine G.lT t 9 ?_;have ad:l.getD i 0/10^t<1000000000:=A0r (A16 _ _) a9;have ac:(Lib.dg N (9*i+t)).toNat=48+l.getD i 0/10^t%10:=by
    rw[Atl N i t al,hL];exact Qn oV
   generalize hD:l.getD i 0/10^t=D at ad ac⊢;refine G.rem ((D:Nat):Int) 10 ((D%10:Nat):Int) kV oV oV oV oV<|G.p 48 (D%10:Nat) ((Lib.dg N (9*i+t)).toNat:Int)<|G.convI .i64 .u8 .i64 ((Lib.dg N (9*i+t)).toNat:Int) ((Lib.dg N (9*i+t)).toNat:Int) kV (Ajv oV oV)<|G.B 5 1 1 (.int .u8 0) [.int .u8 ((Lib.dg N (9*i+t)).toNat:Int)] (Lz [Lib.dg N (9*i+t)]) ?_;intro g u3 l3 e3;refine G.append 5 1 1 (.int .u8 0) PH.mt (Bm (ld N (9*i+t))) [.int .u8 ((Lib.dg N (9*i+t)).toNat:Int)] (.slice a2 n2 c2) g 0 1 1 kV rfl rfl oV f e3 (Lz [Lib.dg N (9*i+t)]) rfl oV (by rw[Ay,C0];omega) (by rw[Ay,C0];omega) ?_;intro v4 m4 X;rw[show Bm (ld N (9*i+t))++[.int .u8 ((Lib.dg N (9*i+t)).toNat:Int)]=Bm (ld N (9*i+(t+1))) by rw[show 9*i+(t+1)=9*i+t+1 by omega,Ur,Pg];rfl]at X;obtain⟨a4,c4,rfl⟩:=X.shape;exact G.quo ((D:Nat):Int) 10 ((l.getD i 0/10^(t+1):Nat):Int) kV oV oV oV (by rw[A0d,<-A3b,hD];omega)<|G.i t<|G.b (a5 (t+1,(a4,(Bm (ld N (9*i+(t+1)))).length,c4)) _ _ _ cV (W.trans l3) ⟨dV,X⟩ dV)
  have:t=9:=oV;subst this;exact G.lF (9:Nat) 9<|G.i i<|G.b (hJ (i+1,(a2,n2,c2)) _ _ _ cV (a7.trans W) ⟨dV,f⟩ dV)
 have:i=l.length:=oV;subst this;refine G.lF l.length l.length ?_;obtain⟨A,co,e⟩:=f.ptr (by intro e;have:=congrArg List.length e;rw[Ay,C0,A1t]at this;omega);rw[Ay,C0]at e;simp only[Value.slice.injEq]at e;obtain⟨rfl,rfl,rfl⟩:=e;refine G.loop (ι:=Nat) (fun k=>[(1,.p 0 0),(3,sV (some ⟨A,0,none⟩) (k+1) C)]) (fun _=>[(0,⟨50,[bV b,sV a l.length c]⟩)])
  (fun k _ V=>(N<10^(k+1)/\k+1<=9*l.length)/\Af PH.mt V (.slice (some ⟨A,0,none⟩) (k+1) C) 5 1 (Bm (ld N (k+1)))) (fun k=>k) (9*l.length-1) kV (fun _=>kV) ⟨kV,by rw[show 9*l.length-1+1=9*l.length by omega];kernel_rfl,kV⟩ (by rw[show 9*l.length-1+1=9*l.length by omega];exact⟨⟨ab,Ay2 _⟩,f⟩) ?_
 clear f hJ;rintro J3 k a6 u3 m3 a8 ⟨⟨hk,ao⟩,f⟩;refine G.s (k+1:Nat) 1 k<|G.a A 0 (k+1) C k 1 oV<|G.lM none A (0+k*1) (.int .u8 ((Lib.dg N k).toNat:Int)) (f.el (by rw[Bm,Ayy,Aaj oV];rfl)) ?_;have aa:=Aex hk;have an:=Q3 N k;by_cases hz:N<10^k
 ·refine G.cmpG .eql .u8 ((Lib.dg N k).toNat:Int) 48 true kV rfl (by simp only[Cl,decide_eq_true_eq];have:=aa.2 hz;omega)<|G.s (k+1:Nat) 1 k ?_;have am:k+1<=C:=f.cap;refine G.sliceTo 1 (some ⟨A,0,none⟩) (k+1) C k kV oV ?_;have a3:=f.take (k:=k) (by rw[Ay,C0];omega);rw[show (Bm (ld N (k+1))).take k=Bm (ld N k) by rw[Bm,<-A4l,Asp oV];rfl]at a3;rcases k with _|k
  ·simp at hz;omega
  exact G.b (a6 k _ _ _ cV a8 ⟨⟨hz,oV⟩,a3⟩ oV)
 refine G.cmpG .eql .u8 ((Lib.dg N k).toNat:Int) 48 false kV rfl (by simp only[Cl,decide_eq_false_iff_not];intro h;exact hz (aa.1 oV)) ?_;have af:Lib.nDigits N=k+1:=Lib.nDigits_unique k N oV hk;clear a6;have Y:=Aa8 N;rw[af]at Y;cases b
 ·have a0:¬ z<0:=by simpa using hb.symm
  have Q:(ld N (k+1)).reverse=Lib.itoa z:=by rw[Y,Du a0,hN]
  generalize hR:ld N (k+1)=R at *
  generalize aj:k+1=nR at *
  have ak:nR<=1000000000000:=oV;have ai:1<=nR:=oV;have E:=f.len;rw[Ay]at E;refine G.s nR 1 (nR-1:Nat)<|G.l (ι:=Nat×List UInt8) (fun i=>[(3,sV (some ⟨A,0,none⟩) nR C),(7,iV i.1),(8,iV (nR-1-i.1:Nat))]) (fun _=>[])
   (fun i _ V=>i.1<=nR-1/\N6 R i.2 i.1/\Af PH.mt V (.slice (some ⟨A,0,none⟩) nR C) 5 1 (Bm i.2)) (fun i=>nR-i.1) (0,R) ⟨mV,N6.start R,f⟩ ?_
  clear f;rintro J5 ⟨i,l⟩ O u5 m5 P ⟨Z,m,f⟩;simp only at Z m f O;have ah:=m.len;by_cases F:i<nR-1-i
  ·refine G.lT i (nR-1-i:Nat)<|G.a A 0 nR C (nR-1-i) 1 oV<|G.lM none A (0+(nR-1-i)*1) (.int .u8 ((l.getD (nR-1-i) 0).toNat:Int)) (f.el (Hp oV))<|G.a A 0 nR C i 1 oV<|G.lM none A (0+i*1) (.int .u8 ((l.getD i 0).toNat:Int)) (f.el (Hp oV))<|G.a A 0 nR C i 1 oV<|G.storeA 1 PH.mt (Bm l) A nR C i (.int .u8 ((l.getD (nR-1-i) 0).toNat:Int)) kV f (by rw[Ay];omega) rfl rfl ?_;intro m6 K;rw[Ms]at K;refine G.a A 0 nR C (nR-1-i) 1 oV<|G.storeA 1 PH.mt _ A nR C (nR-1-i) (.int .u8 ((l.getD i 0).toNat:Int)) kV K (by rw[Ay,A1o];omega) rfl rfl ?_;intro m7 L;rw[Ms]at L;exact G.i i<|G.s (nR-1-i:Nat) 1 ((nR-1-(i+1):Nat):Int)<|G.b (O (i+1,(l.set i (l.getD (nR-1-i) 0)).set (nR-1-i) (l.getD i 0)) _ _ _ cV P ⟨dV,by dsimp only;rw[E]at F⊢;exact m.step F,L⟩ dV)
  refine G.lF i (nR-1-i:Nat) ?_;have U:=m.done (by rw[<-E];exact F);refine G.convB PH.mt 5 5 l A nR C kV kV f<|G.give PH.mt (Bm l) _ kV f (fun _=>.inl rfl) ?_;intro u8 l8 _;refine G.r (.string (mkS l)) ⟨rfl,?_⟩;rw[U,Q]
 have a0:z<0:=by simpa using hb.symm
 refine G.B 5 1 1 (.int .u8 0) [.int .u8 45] (Lz [45]) ?_;intro g u4 l4 e4;refine G.append 5 1 1 (.int .u8 0) PH.mt (Bm (ld N (k+1))) [.int .u8 45] (.slice (some ⟨A,0,none⟩) (k+1) C) g 0 1 1 kV rfl rfl oV f e4 (Lz [45]) rfl oV (by rw[Ay,C0];omega) (by rw[Ay,C0];omega) ?_;intro v5 m5 I;rw[show Bm (ld N (k+1))++[.int .u8 45]=Bm (ld N (k+1)++[45]) by rw[Pg];rfl]at I;obtain⟨H,T,rfl⟩:=I.ptr (by simp[Bm]);rw[Ay,Ay3,C0,A0u]at I⊢;have Q:(ld N (k+1)++[45]).reverse=Lib.itoa z:=by rw[A62,Y,Oc a0,hN];rfl
 clear f;have f:=I;clear I;have U:(ld N (k+1)++[45]).length=k+1+1:=by rw[Ay3,C0];rfl
 generalize hR:ld N (k+1)++[45]=R at *
 generalize aj:k+1+1=nR at *
 have ak:nR<=1000000000000:=oV;have ai:1<=nR:=oV;have E:=f.len;rw[Ay]at E;refine G.s nR 1 (nR-1:Nat)<|G.l (ι:=Nat×List UInt8) (fun i=>[(3,sV (some ⟨H,0,none⟩) nR T),(7,iV i.1),(8,iV (nR-1-i.1:Nat))]) (fun _=>[])
  (fun i _ V=>i.1<=nR-1/\N6 R i.2 i.1/\Af PH.mt V (.slice (some ⟨H,0,none⟩) nR T) 5 1 (Bm i.2)) (fun i=>nR-i.1) (0,R) ⟨mV,N6.start R,f⟩ ?_
 clear f;rintro J5 ⟨i,l⟩ O u5 m5 P ⟨Z,m,f⟩;simp only at Z m f O;have ah:=m.len;by_cases F:i<nR-1-i
 ·refine G.lT i (nR-1-i:Nat)<|G.a H 0 nR T (nR-1-i) 1 oV<|G.lM none H (0+(nR-1-i)*1) (.int .u8 ((l.getD (nR-1-i) 0).toNat:Int)) (f.el (Hp oV))<|G.a H 0 nR T i 1 oV<|G.lM none H (0+i*1) (.int .u8 ((l.getD i 0).toNat:Int)) (f.el (Hp oV))<|G.a H 0 nR T i 1 oV<|G.storeA 1 PH.mt (Bm l) H nR T i (.int .u8 ((l.getD (nR-1-i) 0).toNat:Int)) kV f (by rw[Ay];omega) rfl rfl ?_;intro m6 K;rw[Ms]at K;refine G.a H 0 nR T (nR-1-i) 1 oV<|G.storeA 1 PH.mt _ H nR T (nR-1-i) (.int .u8 ((l.getD i 0).toNat:Int)) kV K (by rw[Ay,A1o];omega) rfl rfl ?_;intro m7 L;rw[Ms]at L;exact G.i i<|G.s (nR-1-i:Nat) 1 ((nR-1-(i+1):Nat):Int)<|G.b (O (i+1,(l.set i (l.getD (nR-1-i) 0)).set (nR-1-i) (l.getD i 0)) _ _ _ cV P ⟨dV,by dsimp only;rw[E]at F⊢;exact m.step F,L⟩ dV)
 refine G.lF i (nR-1-i:Nat) ?_;have U:=m.done (by rw[<-E];exact F);refine G.convB PH.mt 5 5 l H nR T kV kV f<|G.give PH.mt (Bm l) _ kV f (fun _=>.inl rfl) ?_;intro u8 l8 _;refine G.r (.string (mkS l)) ⟨rfl,?_⟩;rw[U,Q]
def Acu (h:Dm u x z)(e:nl z.natAbs<=100000000000)(j:Lib.nDigits z.natAbs<=400):Fn0 prog 67 [x] u fun v _=>v=.tuple #[.string (mkS (Lib.itoa z)),.int .i64 0]:=by
 obtain⟨b,a,n,c,rfl,g,hi⟩:=h.opn;refine Fn0.o func67<|G.c call134 (Af7 h e) ?_;rintro A m f rfl;refine G.gF (Lib.nDigits z.natAbs:Nat) 400<|G.c call127 (Ad8 (h.mono f) e) ?_;rintro C t l2 rfl;exact G.r _ ⟨rfl,rfl⟩
def Ann (e:-9223372036854775807<=z)(f:z<=9223372036854775807):nl z.natAbs<=100000000000:=Ayv (Bc (k:=3) oV) oV
def Bc1 (e:-9223372036854775807<=z)(f:z<=9223372036854775807):Fn0 prog 70 [.int .i64 z] u fun v _=>v=.string (mkS (Lib.itoa z)):=by
 refine Fn0.o func70<|G.c call57 (Va e f) ?_;intro D A n g;obtain⟨j,h,t,m,rfl,_,_⟩:=g.opn;refine G.c call127 (Ad8 g (Ann e f)) ?_;rintro E C l2 rfl;exact G.r _ ⟨rfl,rfl⟩
def Bbq (e:-9223372036854775807<=z)(f:z<=9223372036854775807):Fn0 prog 26 [.int .i64 z] u fun v _=>v=.string (mkS (Lib.itoa z)):=by
 refine Fn0.o func26<|G.c call70 (Bc1 e f) ?_;rintro h g l2 rfl;exact G.r _ ⟨rfl,rfl⟩
end
section
variable {k:Nat}{l:List UInt8}
def Ii.drop (h:Ii l)(k:Nat):Ii (l.drop k):=fun b e=>h b (A1v e)
def Ii.take (h:Ii l)(k:Nat):Ii (l.take k):=fun b e=>h b (A0o e)
def D0 {k j:Nat}(h:k+j<l.length):(l.drop k).take (j+1)=(l.drop k).take j++[l.getD (k+j) 0]:=by
 rw[Aze]
 congr 1
 rw[A2z,Ayr h,Ays,Ayr h];rfl
def Oi (l:List UInt8)(b:UInt8):rd (l++[b])=10*rd l+(b.toNat-48):=by simp[rd,rdA]
def Lg (h:Ii l)(e:k<l.length):48<=(l.getD k 0).toNat/\(l.getD k 0).toNat<=57:=by
 rw[Ays,Ayr e];exact h _ (Ay8 e)
def Ds (e:k<l.length):l[k]?=some (l.getD k 0):=by
 rw[Ays,Ayr e];rfl
def Bl (b:Bool)(l:List UInt8):List UInt8:=if b then 45::l else l
structure Sa (N:Nat)(s:List UInt8)(ys:List Nat):Prop where
 low:Low ys
 dig:Ii s
 sum:N=val ys+1000000000^ys.length*rd s
def Sa.step {N:Nat}{s:List UInt8}{ys:List Nat}(h:Sa N s ys):Sa N (s.take (s.length-9)) (ys++[rd (s.drop (s.length-9))]):=by
 have f:rd (s.drop (s.length-9))<1000000000:=by
  have:=Y7 (h.dig.drop (s.length-9));rw[A3h]at this;exact A0k this (by rw[show (1000000000:Nat)=10^9 from rfl];exact Azr oV oV)
 refine⟨h.low.append (Low.cons f Low.nil),h.dig.take _,?_⟩;have e:rd s=rd (s.take (s.length-9))*1000000000+rd (s.drop (s.length-9)):=by
  have:=Yv (s.take (s.length-9)) (s.drop (s.length-9));rw[A2i]at this;rw[this];by_cases g:9<=s.length
  ·rw[A3h,show s.length-(s.length-9)=9 by omega]
  rw[show s.length-9=0 by omega];simp[rd,rdA]
 rw[Jk,Ay3,A0u,A0d,h.sum,e,A0g,Az4,Az5 (rd _) 1000000000];omega
def Ap2 {b:Bool}(g:Ii l)(j:l≠[])(h:¬ b=true):(Bl b l).getD 0 0≠45:=by
 cases b
 ·have f:0<l.length:=by cases l;exact absurd rfl j;simp
  have:=Lg g f;intro e;rw[show Bl false l=l from rfl]at e;rw[e]at this;simp at this
 exact absurd rfl h
def Ap6 {u:PH}(b:Bool)(l:List UInt8)(hd:Ii l)(hl:l≠[])(a3:l.length<=1000000000):Fn0 prog 62 [.string (mkS (Bl b l))] u fun v u'=>Dm u' v (B6 b (rd l)):=by
 have a6:0<l.length:=by cases l;exact absurd rfl hl;simp
 refine Fn0.o func62 ?_;have L:Bl b l≠[]:=by cases b<;>simp[Bl,hl]
 refine G.x (Bl b l) [] L ?_;have a0:(Bl b l)[0]?=some ((Bl b l).getD 0 0):=Ds (by cases b<;>simp[Bl];omega)
 refine G.idxS (Bl b l) 0 _ kV a0 ?_;cases b
 ·have L:=Ap2 (b:=false) hd hl mV;refine G.cmpG .eql .u8 (((Bl false l).getD 0 0).toNat:Int) 45 false kV rfl (by simp only[Cl,decide_eq_false_iff_not];intro h;exact L (A6w.1 (by simpa using (by omega:((Bl false l).getD 0 0).toNat=45))))<|G.l (ι:=List UInt8×List Nat×(Option Addr×Nat×Nat)) (fun i=>[(2,.p 0 0),(3,tV i.1),(4,.p 2001 0)])
   (fun i=>[(0,⟨50,[bV false,sV none 0 0]⟩),(2001,⟨50,[bV false,sV i.2.2.1 i.2.2.2.1 i.2.2.2.2]⟩)])
   (fun i _ E=>i.1.length+i.2.1.length<=l.length/\Sa (rd l) i.1 i.2.1/\Af PH.mt E (.slice i.2.2.1 i.2.2.2.1 i.2.2.2.2) 3 1 (Ai i.2.1)) (fun i=>i.1.length) (l,[],(none,0,0)) ⟨mV,⟨Low.nil,hd,by simp[val]⟩,Af.nil _ _ _⟩ ?_
  rintro J ⟨s,ys,⟨a,F,c⟩⟩ T u' E K ⟨O,f,m⟩;simp only at O f m T;have Q:=m.len;rw[Ak]at Q;have C:=f.dig;have a2:(mkS s).size=s.length:=Go.Lib.size_mk s;by_cases h0:0<s.length
  ·refine G.gT s.length 0<|G.sub (s.length:Int) 9 ((s.length:Int)-9) kV rfl oV oV<|G.maxI [3,3] 0 ((s.length:Int)-9) ((s.length-9:Nat):Int) kV oV<|G.loop (ι:=Nat) (fun i=>[(2,.p 0 0),(3,tV s),(4,.p 2001 0),(5,iV (s.length-9:Nat)),(6,iV (rd ((s.drop (s.length-9)).take i):Nat)),(7,iV (s.length-9+i:Nat))])
    (fun _=>[(0,⟨50,[bV false,sV none 0 0]⟩),(2001,⟨50,[bV false,sV a F c]⟩)])
    (fun i _ E=>s.length-9+i<=s.length/\Af PH.mt E (.slice a F c) 3 1 (Ai ys)) (fun i=>s.length-i) 0 kV (fun _=>kV) ⟨kV,by rw[A14];kernel_rfl,kV⟩ ⟨oV,m⟩ ?_
   clear m;rintro J2 i H u2 m2 t ⟨hi,m⟩;by_cases e:s.length-9+i<s.length
   ·refine G.lT (s.length-9+i:Nat) s.length ?_;have I:rd ((s.drop (s.length-9)).take (i+1))<1000000000:=by
     have:=Y7 ((C.drop (s.length-9)).take (i+1));refine A0k this ?_;rw[show (1000000000:Nat)=10^9 from rfl];exact Azr oV gV
    have a1:=Lg C e;rw[D0 e,Oi]at I;exact G.mul 10 ((rd ((s.drop (s.length-9)).take i):Nat):Int) ((10*rd ((s.drop (s.length-9)).take i):Nat):Int) kV oV oV oV<|G.idxS s (s.length-9+i) _ kV (Ds e)<|G.sub8 ((s.getD (s.length-9+i) 0).toNat:Int) 48 (((s.getD (s.length-9+i) 0).toNat-48:Nat):Int) kV oV oV oV<|G.convI .u8 .i64 .u8 (((s.getD (s.length-9+i) 0).toNat-48:Nat):Int) (((s.getD (s.length-9+i) 0).toNat-48:Nat):Int) kV (E9 oV oV)<|G.add ((10*rd ((s.drop (s.length-9)).take i):Nat):Int) (((s.getD (s.length-9+i) 0).toNat-48:Nat):Int) ((rd ((s.drop (s.length-9)).take (i+1)):Nat):Int) kV (by rw[D0 e,Oi];omega) oV (by rw[D0 e,Oi];omega)<|G.p (s.length-9+i:Nat) 1 ((s.length-9+(i+1):Nat):Int)<|G.b (H (i+1) _ _ _ cV t ⟨oV,m⟩ oV)
   refine G.lF (s.length-9+i:Nat) s.length ?_;have P:(s.drop (s.length-9)).take i=s.drop (s.length-9):=Ay6 gV;rw[P];have j:=f.step;have D:(s.take (s.length-9)).length=s.length-9:=mV;generalize rd (s.drop (s.length-9))=d at j⊢;refine G.B 3 1 8 (.int .i64 0) [.int .i64 d] (A8 [d]) ?_;intro g u3 U e3;refine G.append 3 1 8 (.int .i64 0) PH.mt (Ai ys) [.int .i64 d] (.slice a F c) g 0 1 1 kV rfl rfl oV m e3 (A8 [d]) rfl oV (by rw[Ak];omega) (by rw[Ak];omega) ?_;intro v4 m4 A;rw[C2]at A;obtain⟨V,Y,rfl⟩:=A.shape;exact G.sliceSTo s (s.length-9) kV kV oV<|G.b (T (s.take (s.length-9),ys++[d],(V,(Ai (ys++[d])).length,Y)) _ _ _ cV ((K.trans t).trans U) ⟨by dsimp only;rw[D,Ay3,A0u];omega,j,A⟩ (by dsimp only;rw[D];omega))
  have N:s = []:=A0a oV;subst N;refine G.gF (0:Nat) 0<|G.give PH.mt (Ai ys) _ kV m (fun _=>.inl rfl) ?_;intro u3 U hL;refine G.c call128 (D3 (b:=false) (a:=a) (n:=F) (c:=c) (l:=ys) hL f.low oV) ?_;intro v5 u5 l5 R;have hv:val ys=rd l:=by have:=f.sum;simpa[rd,rdA] using this.symm
  rw[hv]at R;obtain⟨X,W,n5,Z,rfl,_,_⟩:=R.opn;exact G.r (.agg #[.bool X,.slice W n5 Z]) ⟨rfl,R⟩
 refine G.cmpG .eql .u8 (((Bl true l).getD 0 0).toNat:Int) 45 true kV rfl (by simp[Cl,Bl])<|G.sliceSFrom (Bl true l) 1 kV kV (by simp[Bl]) ?_;rw[show (Bl true l).drop 1=l from rfl];refine G.l (ι:=List UInt8×List Nat×(Option Addr×Nat×Nat)) (fun i=>[(2,.p 0 0),(3,tV i.1),(4,.p 2001 0)])
  (fun i=>[(0,⟨50,[bV false,sV none 0 0]⟩),(2001,⟨50,[bV true,sV i.2.2.1 i.2.2.2.1 i.2.2.2.2]⟩)])
  (fun i _ E=>i.1.length+i.2.1.length<=l.length/\Sa (rd l) i.1 i.2.1/\Af PH.mt E (.slice i.2.2.1 i.2.2.2.1 i.2.2.2.2) 3 1 (Ai i.2.1)) (fun i=>i.1.length) (l,[],(none,0,0)) ⟨mV,⟨Low.nil,hd,by simp[val]⟩,Af.nil _ _ _⟩ ?_
 rintro J ⟨s,ys,⟨a,F,c⟩⟩ T u' E K ⟨O,f,m⟩;simp only at O f m T;have Q:=m.len;rw[Ak]at Q;have C:=f.dig;have a2:(mkS s).size=s.length:=Go.Lib.size_mk s;by_cases h0:0<s.length
 ·refine G.gT s.length 0<|G.sub (s.length:Int) 9 ((s.length:Int)-9) kV rfl oV oV<|G.maxI [3,3] 0 ((s.length:Int)-9) ((s.length-9:Nat):Int) kV oV<|G.loop (ι:=Nat) (fun i=>[(2,.p 0 0),(3,tV s),(4,.p 2001 0),(5,iV (s.length-9:Nat)),(6,iV (rd ((s.drop (s.length-9)).take i):Nat)),(7,iV (s.length-9+i:Nat))])
   (fun _=>[(0,⟨50,[bV false,sV none 0 0]⟩),(2001,⟨50,[bV true,sV a F c]⟩)])
   (fun i _ E=>s.length-9+i<=s.length/\Af PH.mt E (.slice a F c) 3 1 (Ai ys)) (fun i=>s.length-i) 0 kV (fun _=>kV) ⟨kV,by rw[A14];kernel_rfl,kV⟩ ⟨oV,m⟩ ?_
  clear m;rintro J2 i H u2 m2 t ⟨hi,m⟩;by_cases e:s.length-9+i<s.length
  ·refine G.lT (s.length-9+i:Nat) s.length ?_;have I:rd ((s.drop (s.length-9)).take (i+1))<1000000000:=by
    have:=Y7 ((C.drop (s.length-9)).take (i+1));refine A0k this ?_;rw[show (1000000000:Nat)=10^9 from rfl];exact Azr oV gV
   have a1:=Lg C e;rw[D0 e,Oi]at I;exact G.mul 10 ((rd ((s.drop (s.length-9)).take i):Nat):Int) ((10*rd ((s.drop (s.length-9)).take i):Nat):Int) kV oV oV oV<|G.idxS s (s.length-9+i) _ kV (Ds e)<|G.sub8 ((s.getD (s.length-9+i) 0).toNat:Int) 48 (((s.getD (s.length-9+i) 0).toNat-48:Nat):Int) kV oV oV oV<|G.convI .u8 .i64 .u8 (((s.getD (s.length-9+i) 0).toNat-48:Nat):Int) (((s.getD (s.length-9+i) 0).toNat-48:Nat):Int) kV (E9 oV oV)<|G.add ((10*rd ((s.drop (s.length-9)).take i):Nat):Int) (((s.getD (s.length-9+i) 0).toNat-48:Nat):Int) ((rd ((s.drop (s.length-9)).take (i+1)):Nat):Int) kV (by rw[D0 e,Oi];omega) oV (by rw[D0 e,Oi];omega)<|G.p (s.length-9+i:Nat) 1 ((s.length-9+(i+1):Nat):Int)<|G.b (H (i+1) _ _ _ cV t ⟨oV,m⟩ oV)
  refine G.lF (s.length-9+i:Nat) s.length ?_;have P:(s.drop (s.length-9)).take i=s.drop (s.length-9):=Ay6 gV;rw[P];have j:=f.step;have D:(s.take (s.length-9)).length=s.length-9:=mV;generalize rd (s.drop (s.length-9))=d at j⊢;refine G.B 3 1 8 (.int .i64 0) [.int .i64 d] (A8 [d]) ?_;intro g u3 U e3;refine G.append 3 1 8 (.int .i64 0) PH.mt (Ai ys) [.int .i64 d] (.slice a F c) g 0 1 1 kV rfl rfl oV m e3 (A8 [d]) rfl oV (by rw[Ak];omega) (by rw[Ak];omega) ?_;intro v4 m4 A;rw[C2]at A;obtain⟨V,Y,rfl⟩:=A.shape;exact G.sliceSTo s (s.length-9) kV kV oV<|G.b (T (s.take (s.length-9),ys++[d],(V,(Ai (ys++[d])).length,Y)) _ _ _ cV ((K.trans t).trans U) ⟨by dsimp only;rw[D,Ay3,A0u];omega,j,A⟩ (by dsimp only;rw[D];omega))
 have N:s = []:=A0a oV;subst N;refine G.gF (0:Nat) 0<|G.give PH.mt (Ai ys) _ kV m (fun _=>.inl rfl) ?_;intro u3 U hL;refine G.c call128 (D3 (b:=true) (a:=a) (n:=F) (c:=c) (l:=ys) hL f.low oV) ?_;intro v5 u5 l5 R;have hv:val ys=rd l:=by have:=f.sum;simpa[rd,rdA] using this.symm
 rw[hv]at R;obtain⟨X,W,n5,Z,rfl,_,_⟩:=R.opn;exact G.r (.agg #[.bool X,.slice W n5 Z]) ⟨rfl,R⟩
end
section
variable {j k n:Nat}{q r:Rat}{u:PH}{y z:Int}
def Dw (z:Int):Lib.itoa z=Bl (decide (z<0)) (Lib.decDigits z.natAbs):=by
 by_cases h:z<0
 ·rw[Oc h,decide_eq_true h];rfl
 rw[Du h,decide_eq_false h];rfl
def Zu (z:Int):B6 (decide (z<0)) (rd (Lib.decDigits z.natAbs))=z:=by rw[Ags];exact Si z
def Ag4 (h:Lib.nDigits n<=k):nl n<=k:=by
 refine Bc (A0k (Lib.lt_pow_nDigits n) ?_);rw[Agd];exact Azr oV oV
def Bi (h:Lib.nDigits n<=400):nl n<=400:=Ag4 h
def F2 (h:Lib.nDigits z.natAbs<=400):(Lib.itoa z).length<=401:=by
 rw[Dw];unfold Bl;split<;>simp[Lib.decDigits_length]<;>omega
def Np (h:Lib.nDigits z.natAbs<=400):Fn0 prog 62 [.string (mkS (Lib.itoa z))] u fun v e=>Dm e v z:=by
 have:=Ap6 (u:=u) (decide (z<0)) (Lib.decDigits z.natAbs) (Mv _) (Ga _) (by rw[Lib.decDigits_length];omega);rw[Zu,<-Dw]at this;exact this
def Oz (h:0<z)(f:nl y.natAbs<=j)(g:nl z.natAbs<=k):nl (Rat.divInt y z).num.natAbs<=j/\nl (Rat.divInt y z).den<=k:=by
 obtain⟨e,m,_⟩:=O6 (y:=y) h;refine⟨by rw[e];exact Ui f,?_⟩;have:(Rat.divInt y z).den=(z.tdiv (Nat.gcd y.natAbs z.natAbs:Nat)).natAbs:=oV
 rw[this];exact Ui g
def Q6 (q r:Rat):0<(q.den:Int)*(r.den:Int):=Int.mul_pos (by have:=q.den_pos;omega) (by have:=r.den_pos;omega)
def Sz.d (h:Sz q k):nl ((q.den:Int)).natAbs<=k:=by simpa using h.2
def Ayp (h:Sz q k)(e:Sz r k):Sz (q+r) (2*k+1):=by
 rw[<-Rt];obtain⟨a,b⟩:=Oz (Q6 q r) (Rh (B5 h.1 e.d) (B5 e.1 h.d)) (B5 h.d e.d);exact⟨a,Ayv b oV⟩
def Auv (h:Sz q k)(e:Sz r k):Sz (q-r) (2*k+1):=by
 rw[<-Aib];obtain⟨a,b⟩:=Oz (Q6 q r) (Aby (B5 h.1 e.d) (B5 e.1 h.d)) (B5 h.d e.d);exact⟨a,Ayv b oV⟩
def Ao0:Lib.decDigits 0 = [48]:=Lib.decDigits_one oV
def Aps:Lib.decDigits 1 = [49]:=Lib.decDigits_one oV
def Es:Lib.itoa 0 = [48]:=by rw[Du oV];exact Ao0
def Gz:Lib.itoa 1 = [49]:=by rw[Du oV];exact Aps
def U6 (n:Nat):Lib.itoa (n:Int)=Lib.decDigits n:=by rw[Du oV];congr 1
def rdZ (t:List UInt8):Int:=match t with
 |45::l=>-(rd l:Int)
 |l=>rd l
def Aeu (z:Int):rdZ (Lib.itoa z)=z:=by
 by_cases h:z<0
 ·rw[Oc h];simp only[rdZ,Ags];omega
 rw[Du h];have g:=Ac3 z.natAbs;have m:=Ags z.natAbs;have t:=Mv z.natAbs;generalize Lib.decDigits z.natAbs=l at *
 cases l with
 |nil=>simp at g
 |cons b l =>
  have f:=t b mV;unfold rdZ;split
  ·rename_i e;simp at e;rw[e.1]at f;simp at f
  rw[m];omega
def Ih (h:Lib.itoa y=Lib.itoa z):y=z:=by rw[<-Aeu y,h,Aeu]
def P3 (e:0<=z)(h0:z≠0):∃ b,(Lib.itoa z)[0]?=some b/\49<=b.toNat/\b.toNat<=57:=by
 rw[Du oV];refine⟨_,Ac3 _,Alx oV,?_⟩;rw[Q3];have:=A0z (z.natAbs/10^(Lib.nDigits z.natAbs-1)) (show 0<10 by omega);omega
def Sx (h:Lib.nDigits z.natAbs<=400):Fn0 prog 125 [.string (mkS (Lib.itoa z))] u fun v _=>v=.bool true:=by
 refine Fn0.o func125 ?_;by_cases h0:z=0
 ·subst h0;exact G.q (Lib.itoa 0) [48] Es<|G.r (.bool true) ⟨rfl,rfl⟩
 refine G.w (Lib.itoa z) [48] (fun e=>h0 (Ih (e.trans Es.symm))) ?_;have H:(mkS (Lib.itoa z)).size=(Lib.itoa z).length:=Go.Lib.size_mk _;have I:=F2 h;have Q:=Lib.decDigits_length z.natAbs;have R:=Lib.nDigits_pos z.natAbs;have C:=Mv z.natAbs;obtain⟨t,g,O,P⟩:=P3 (z:=(z.natAbs:Int)) oV oV;rw[U6]at g;have A:=Dw z;generalize W:Lib.decDigits z.natAbs=L at *
 generalize hT:Lib.itoa z=T at *
 have N:0<T.length:=by rw[A];unfold Bl;split;simp;omega
 refine G.gT T.length 0 ?_;by_cases K:z<0
 ·rw[decide_eq_true K]at A;refine G.idxS T 0 45 kV (by rw[A];rfl)<|G.cmpG .eql .u8 45 45 true kV rfl rfl<|G.sliceSFrom T 1 kV kV oV ?_;rw[show T.drop 1=L by rw[A];rfl];refine G.eF L.length 0<|G.gF L.length 400<|G.idxS L 0 t kV g<|G.cmpG .eql .u8 (t.toNat:Int) 48 false kV rfl (by simp only[Cl,decide_eq_false_iff_not];omega)<|G.l (ι:=Nat) (fun i=>[(3,tV L),(4,iV i)]) (fun _=>[]) (fun i _ D=>i<=L.length/\D=PH.mt) (fun i=>L.length-i) 0 ⟨oV,rfl⟩ ?_;rintro J i E V D m ⟨hi,rfl⟩;by_cases f:i<L.length
  ·refine G.lT i L.length ?_;have U:=Lg C f;exact G.idxS L i _ kV (Ds f)<|G.cmpG .lss .u8 ((L.getD i 0).toNat:Int) 48 false kV rfl (by simp only[Cl,decide_eq_false_iff_not];omega)<|G.idxS L i _ kV (Ds f)<|G.cmpG .gtr .u8 ((L.getD i 0).toNat:Int) 57 false kV rfl (by simp only[Cl,decide_eq_false_iff_not];omega)<|G.i i<|G.b (E (i+1) _ _ _ cV m ⟨oV,rfl⟩ oV)
  exact G.lF i L.length<|G.r (.bool true) ⟨rfl,rfl⟩
 rw[decide_eq_false K]at A;have F:T=L:=A;subst F;refine G.idxS T 0 t kV g<|G.cmpG .eql .u8 (t.toNat:Int) 45 false kV rfl (by simp only[Cl,decide_eq_false_iff_not];omega)<|G.eF T.length 0<|G.gF T.length 400<|G.idxS T 0 t kV g<|G.cmpG .eql .u8 (t.toNat:Int) 48 false kV rfl (by simp only[Cl,decide_eq_false_iff_not];omega)<|G.l (ι:=Nat) (fun i=>[(3,tV T),(4,iV i)]) (fun _=>[]) (fun i _ D=>i<=T.length/\D=PH.mt) (fun i=>T.length-i) 0 ⟨oV,rfl⟩ ?_;rintro J i E V D m ⟨hi,rfl⟩;by_cases f:i<T.length
 ·refine G.lT i T.length ?_;have U:=Lg C f;exact G.idxS T i _ kV (Ds f)<|G.cmpG .lss .u8 ((T.getD i 0).toNat:Int) 48 false kV rfl (by simp only[Cl,decide_eq_false_iff_not];omega)<|G.idxS T i _ kV (Ds f)<|G.cmpG .gtr .u8 ((T.getD i 0).toNat:Int) 57 false kV rfl (by simp only[Cl,decide_eq_false_iff_not];omega)<|G.i i<|G.b (E (i+1) _ _ _ cV m ⟨oV,rfl⟩ oV)
 exact G.lF i T.length<|G.r (.bool true) ⟨rfl,rfl⟩
def Alk {T:List UInt8}(h:∀ b∈T,b≠47)(C:T.length<=1000000):Fn0 prog 61 [.string (mkS T)] u fun v _=>v=.tuple #[.string (mkS T),.string (mkS [49]),.bool false]:=by
 have m:(mkS T).size=T.length:=Go.Lib.size_mk _;refine Fn0.o func61<|G.l (ι:=Nat) (fun i=>[(0,tV T),(5,iV i)]) (fun _=>[]) (fun i _ t=>i<=T.length/\t=PH.mt) (fun i=>T.length-i) 0 ⟨oV,rfl⟩ ?_;rintro J i A D t f ⟨hi,rfl⟩;by_cases e:i<T.length
 ·refine G.lT i T.length<|G.idxS T i _ kV (Ds e) ?_;have g:T.getD i 0≠47:=by rw[Ays,Ayr e];exact h _ (Ay8 e)
  exact G.cmpG .eql .u8 ((T.getD i 0).toNat:Int) 47 false kV rfl (by simp only[Cl,decide_eq_false_iff_not];intro h;exact g (A6w.1 (by simpa using (by omega:(T.getD i 0).toNat=47))))<|G.i i<|G.b (A (i+1) _ _ _ cV f ⟨oV,rfl⟩ oV)
 exact G.lF i T.length<|G.r (.tuple #[.string (mkS T),.string (mkS [49]),.bool false]) ⟨rfl,rfl⟩
def Ak6 {A B:List UInt8}(h:∀ b∈A,b≠47)(I:(A++47::B).length<=1000000):Fn0 prog 61 [.string (mkS (A++47::B))] u fun v _=>v=.tuple #[.string (mkS A),.string (mkS B),.bool true]:=by
 have hT:∀ i,i<A.length->(A++47::B).getD i 0≠47:=by
  intro i hi;rw[Ays,Azi hi,Ayr hi];exact h _ (Ay8 hi)
 have F:(A++47::B)[A.length]?=some 47:=by rw[Azy (Ay2 _)];simp
 have D:(A++47::B).length=A.length+1+B.length:=gV;have C:(A++47::B).take A.length=A:=mV;have e:(A++47::B).drop (A.length+1)=B:=by rw[<-A5v];simp
 generalize A++47::B=T at *
 have t:(mkS T).size=T.length:=Go.Lib.size_mk _;refine Fn0.o func61<|G.l (ι:=Nat) (fun i=>[(0,tV T),(5,iV i)]) (fun _=>[]) (fun i _ E=>i<=A.length/\E=PH.mt) (fun i=>T.length-i) 0 ⟨oV,rfl⟩ ?_;rintro J i H K E f ⟨hi,rfl⟩;refine G.lT i T.length ?_;by_cases g:i<A.length
 ·refine G.idxS T i _ kV (Ds oV) ?_;have m:=hT i g;exact G.cmpG .eql .u8 ((T.getD i 0).toNat:Int) 47 false kV rfl (by simp only[Cl,decide_eq_false_iff_not];intro h;exact m (A6w.1 (by simpa using (by omega:(T.getD i 0).toNat=47))))<|G.i i<|G.b (H (i+1) _ _ _ cV f ⟨oV,rfl⟩ oV)
 have:i=A.length:=oV;subst this;refine G.idxS T A.length 47 kV F<|G.cmpG .eql .u8 47 47 true kV rfl rfl<|G.sliceSTo T A.length kV kV oV ?_;rw[C];refine G.p A.length 1 (A.length+1:Nat)<|G.sliceSFrom T (A.length+1) kV kV oV ?_;rw[e];exact G.r (.tuple #[.string (mkS A),.string (mkS B),.bool true]) ⟨rfl,rfl⟩
def Ae (q:Rat):List UInt8:=if q.den=1 then Lib.itoa q.num else Lib.itoa q.num++47::Lib.itoa (q.den:Int)
def Tx (q:Rat):Prop:=Lib.nDigits q.num.natAbs<=400/\Lib.nDigits q.den<=400
def Tx.den (h:Tx q):Lib.nDigits ((q.den:Int)).natAbs<=400:=by simpa using h.2
def Tx.sz (h:Tx q):Sz q 400:=⟨Bi h.1,Bi h.2⟩
def Sz.mono (h:Sz q j)(hjk:j<=k):Sz q k:=⟨Ayv h.1 hjk,Ayv h.2 hjk⟩
def Hn (z:Int):∀ b∈Lib.itoa z,b≠47:=by
 have g:=Mv z.natAbs;intro b f e;subst e;rw[Dw]at f;unfold Bl at f;split at f
 ·simp at f;have:=g _ f;simp at this
 have:=g _ f;simp at this
def Ze (h:Tx q):Fn0 prog 61 [.string (mkS (Ae q))] u fun v _=>v=.tuple #[.string (mkS (Lib.itoa q.num)),.string (mkS (Lib.itoa (q.den:Int))),.bool (decide (q.den≠1))]:=by
 have f:=F2 h.1;have l2:=F2 h.den;unfold Ae;by_cases e:q.den=1
 ·rw[if_pos e,e,show ((1:Nat):Int)=1 from rfl,Gz];exact Alk (Hn _) oV
 rw[if_neg e,decide_eq_true e];exact Ak6 (Hn _) gV
def F0 (h:Tx q):Fn0 prog 19 [.string (mkS (Ae q))] u fun v I=>QP I v q:=by
 refine Fn0.o func19<|G.c call61 (Ze h) ?_;rintro O K J rfl;refine G.c call62 (Np h.1) ?_;intro P L l2 e;obtain⟨t,g,F,C,rfl,_,_⟩:=e.opn;refine G.c call62 (Np h.den) ?_;intro Q N E f;obtain⟨A,m,H,D,rfl,_,_⟩:=f.opn;exact G.r (.agg #[.bool t,.slice g F C,.bool A,.slice m H D]) ⟨rfl,QP.mk (e.mono E) f rfl rfl⟩
def Aqn (h:Tx q):(Ae q).length<=802:=by
 have e:=F2 h.1;have l2:=Lib.decDigits_length q.den;have f:=h.2;unfold Ae;split
 ·omega
 rw[U6];simp;omega
def Aqq (h:q.den≠1):q.num≠0:=fun h0=>h (by have:=A4s.1 h0;subst this;rfl)
def Sm (h:Tx q):Fn0 prog 60 [.string (mkS (Ae q))] u fun v _=>v=.tuple #[.string (mkS (Lib.itoa q.num)),.string (mkS (Lib.itoa (q.den:Int))),.bool true]:=by
 have m:(mkS (Ae q)).size=(Ae q).length:=Go.Lib.size_mk _;have C:=Aqn h;refine Fn0.o func60<|G.gF ((Ae q).length:Int) 802<|G.c call61 (Ze h) ?_;rintro v1 u1 W rfl;refine G.c call125 (Sx h.1) ?_;rintro v2 u2 l2 rfl;refine G.c call125 (Sx h.den) ?_;rintro v3 u3 X rfl;by_cases g:q.den=1
 ·rw[show decide (q.den≠1)=false by simp[g]];exact G.r (.tuple #[.string (mkS (Lib.itoa q.num)),.string (mkS (Lib.itoa (q.den:Int))),.bool true]) ⟨rfl,rfl⟩
 rw[show decide (q.den≠1)=true by simp[g]];have J:=Aqq g;have I:=q.den_nz;refine G.w (Lib.itoa q.num) [48] (fun e=>J (Ih (e.trans Es.symm)))<|G.w (Lib.itoa (q.den:Int)) [49] (fun e=>by have:=Ih (e.trans Gz.symm);omega)<|G.w (Lib.itoa (q.den:Int)) [48] (fun e=>by have:=Ih (e.trans Es.symm);omega) ?_;obtain⟨A,f,F,H⟩:=P3 (z:=(q.den:Int)) oV oV;refine G.idxS (Lib.itoa (q.den:Int)) 0 A kV f<|G.cmpG .eql .u8 (A.toNat:Int) 45 false kV rfl (by simp only[Cl,decide_eq_false_iff_not];omega)<|G.c call62 (Np h.1) ?_;intro v4 u4 Y D;obtain⟨P,L,n4,T,rfl,_,_⟩:=D.opn;refine G.c call62 (Np h.den) ?_;intro v5 u5 K E;obtain⟨Q,N,n5,U,rfl,_,_⟩:=E.opn;refine G.c call126 (Akg (D.mono K) E (Ayv (Bi h.1) oV) (Ayv (Bi h.den) oV)) ?_;intro v6 u6 Z t;rw[show Nat.gcd q.num.natAbs ((q.den:Int)).natAbs=1 from q.reduced]at t;obtain⟨R,O,n6,V,rfl,_,_⟩:=t.opn;refine G.c call127 (Ad8 t (Ayv Sf oV)) ?_;rintro v7 u7 l7 rfl;exact G.y (Lib.itoa ((1:Nat):Int)) [49] Gz<|G.r (.tuple #[.string (mkS (Lib.itoa q.num)),.string (mkS (Lib.itoa (q.den:Int))),.bool true]) ⟨rfl,rfl⟩
def D1 (h:Tx q):Fn0 prog 18 [.string (mkS (Ae q))] u fun v _=>v=.bool true:=by
 refine Fn0.o func18<|G.c call60 (Sm h) ?_;rintro g f e rfl;exact G.r (.bool true) ⟨rfl,rfl⟩
def Ln {x:Value}(t:QP u x q)(h:Tx q):Fn0 prog 23 [x] u fun v _=>v=.tuple #[.string (mkS (Ae q)),.int .i64 0]:=by
 obtain⟨b,a,n,c,C,H,D,rfl,_,m,g⟩:=t.opn;refine Fn0.o func23<|G.c call67 (Acu m (Ayv (Bi h.1) oV) h.1) ?_;rintro K I A rfl;refine G.c call67 (Acu (g.mono A) (Ayv (Bi h.den) oV) h.den) ?_;rintro L J l2 rfl;refine G.nF 0 0<|G.nF 0 0 ?_;by_cases f:q.den=1
 ·exact G.q (Lib.itoa (q.den:Int)) [49] (by rw[f];exact Gz)<|G.r (.tuple #[.string (mkS (Lib.itoa q.num)),.int .i64 0]) ⟨rfl,by rw[Ae,if_pos f]⟩
 refine G.w (Lib.itoa (q.den:Int)) [49] (fun e=>by have:=Ih (e.trans Gz.symm);omega) ?_;have E:=F2 h.1;have F:=F2 h.den;exact G.addS (Lib.itoa q.num) [47] kV gV<|G.addS (Lib.itoa q.num++[47]) (Lib.itoa (q.den:Int)) kV gV<|G.r (.tuple #[.string (mkS (Lib.itoa q.num++[47]++Lib.itoa (q.den:Int))),.int .i64 0]) ⟨rfl,by rw[Ae,if_neg f];simp⟩
def Adc (h:Tx q)(e:Tx r):Fn0 prog 33 [.string (mkS (Ae q)),.string (mkS (Ae r))] u fun v _=>v=.int .i64 (sgn (q-r).num):=by
 refine Fn0.o func33<|G.c call18 (D1 h) ?_;rintro v1 u1 W rfl;refine G.c call18 (D1 e) ?_;rintro v2 u2 l2 rfl;refine G.c call19 (F0 h) ?_;intro v3 u3 X f;obtain⟨P,L,n3,T,t,I,D,rfl,_⟩:=f.opn;refine G.c call19 (F0 e) ?_;intro v4 u4 H g;obtain⟨Q,N,n4,U,A,J,E,rfl,_⟩:=g.opn;refine G.c call20 (Aie (f.mono H) g (h.sz.mono oV) (e.sz.mono oV)) ?_;intro v5 u5 Y m;obtain⟨R,O,n5,V,C,K,F,rfl,_⟩:=m.opn;refine G.c call39 (Aci m (Ayv (Auv h.sz e.sz).1 oV)) ?_;rintro v6 u6 Z rfl;exact G.r _ ⟨rfl,rfl⟩
def Atf (h:Tx q)(e:Tx r)(H:Tx (q+r)):Fn0 prog 25 [.string (mkS (Ae q)),.string (mkS (Ae r))] u fun v _=>v=.tuple #[.string (mkS (Ae (q+r))),.int .i64 0]:=by
 refine Fn0.o func25<|G.c call18 (D1 h) ?_;rintro v1 u1 X rfl;refine G.c call18 (D1 e) ?_;rintro v2 u2 l2 rfl;refine G.c call19 (F0 h) ?_;intro v3 u3 Y f;obtain⟨Q,N,n3,U,t,J,D,rfl,_⟩:=f.opn;refine G.c call19 (F0 e) ?_;intro v4 u4 I g;obtain⟨R,O,n4,V,A,K,E,rfl,_⟩:=g.opn;refine G.c call21 (Ks (f.mono I) g (h.sz.mono oV) (e.sz.mono oV)) ?_;intro v5 u5 Z m;obtain⟨T,P,n5,W,C,L,F,rfl,_⟩:=m.opn;refine G.c call23 (Ln m H) ?_;rintro v6 u6 l6 rfl;exact G.r _ ⟨rfl,rfl⟩
end
end Go.Proofs.YtijchbjkdllolaaGreatDoor
section
namespace Go.Proofs
open Go.Shelf
def Tryz.lays169_ren:Go.Shelf.Ren:=⟨fun|169=>233|n=>n,fun|70=>289|9=>9|0=>0|72=>291|37=>264|127=>326|3=>3|5=>5|n=>n,fun|n=>n⟩
theorem Tryz.lays169:Go.Proofs.Lays.n169 Tryz.prog Tryz.lays169_ren:={
 mixed:=by kernel_rfl
 f169:=Tryz.func233.trans (congrArg some (by kernel_rfl))
 t0:=Tryz.underlying0
 a0:=Tryz.isAgg0
 z0:=Tryz.sizeOf0
 v0:=Tryz.zeroValue0
 t3:=Tryz.underlying3
 a3:=Tryz.isAgg3
 z3:=Tryz.sizeOf3
 v3:=Tryz.zeroValue3
 t9:=Tryz.underlying9
 a9:=Tryz.isAgg9
 z9:=Tryz.sizeOf9
 v9:=Tryz.zeroValue9
 t37:=Tryz.underlying264
 a37:=Tryz.isAgg264
 z37:=Tryz.sizeOf264
 v37:=Tryz.zeroValue264
 t70:=Tryz.underlying289
 a70:=Tryz.isAgg289
 z70:=Tryz.sizeOf289
 v70:=Tryz.zeroValue289
 t72:=Tryz.underlying291
 a72:=Tryz.isAgg291
 z72:=Tryz.sizeOf291
 v72:=Tryz.zeroValue291
 t127:=Tryz.underlying326
 a127:=Tryz.isAgg326
 z127:=Tryz.sizeOf326
 v127:=Tryz.zeroValue326 }
theorem Tryz.Builder_Extra_169:Builder.Extra Tryz.prog Tryz.lays169_ren:={
 sizeBuilder:=by kernel_rfl
 liesBuilder:=by kernel_rfl
 t5:=Tryz.underlying5
 a5:=Tryz.isAgg5
 z5:=Tryz.sizeOf5
 v5:=Tryz.zeroValue5
 infoByte:=by kernel_rfl
 cellsByte:=by kernel_rfl
 sizeByte:=by kernel_rfl
 neB5:=by decide }
open Go.RowKit in
theorem Tryz.Builder_String (B b:Nat)(l:List UInt8)(w:World)(h:Lib.IsBuilder 291 5 B b (Lib.byteCells l) w)(h0:l≠[]) :
 Calls Tryz.prog 233 #[.pointer (some ⟨b,0,none⟩)] w fun e w'=>e=.returned (.string ⟨l.toArray⟩)/\Below B w w':=Any.Builder_String Tryz.lays169 Tryz.Builder_Extra_169 B b l w h h0
def Tryz.lays210_ren:Go.Shelf.Ren:=⟨fun|210=>227|206=>265|n=>n,fun|9=>9|4=>4|3=>3|n=>n,fun|n=>n⟩
def Tryz.lays103_ren:Go.Shelf.Ren:=⟨fun|103=>186|210=>227|206=>265|n=>n,fun|9=>9|4=>4|24=>252|3=>3|n=>n,fun|n=>n⟩
theorem Tryz.lays103:Go.Proofs.Lays.n103 Tryz.prog Tryz.lays103_ren:={
 mixed:=by kernel_rfl
 f103:=Tryz.func186.trans (congrArg some (by kernel_rfl))
 f206:=Tryz.func265.trans (congrArg some (by kernel_rfl))
 f210:=Tryz.func227.trans (congrArg some (by kernel_rfl))
 t3:=Tryz.underlying3
 a3:=Tryz.isAgg3
 z3:=Tryz.sizeOf3
 v3:=Tryz.zeroValue3
 t4:=Tryz.underlying4
 a4:=Tryz.isAgg4
 z4:=Tryz.sizeOf4
 v4:=Tryz.zeroValue4
 t9:=Tryz.underlying9
 a9:=Tryz.isAgg9
 z9:=Tryz.sizeOf9
 v9:=Tryz.zeroValue9
 t24:=Tryz.underlying252
 a24:=Tryz.isAgg252
 z24:=Tryz.sizeOf252
 v24:=Tryz.zeroValue252 }
open Go.RowKit in
theorem Tryz.strings_CutPrefix (s p:ByteArray)(w:World) :
 Calls Tryz.prog 186 #[.string s,.string p] w fun e w'=>e=.returned (.tuple #[.string ⟨(Lib.trimPrefix s.data.toList p.data.toList).toArray⟩,.bool (Lib.hasPrefix s.data.toList p.data.toList)])/\w'=w:=Any.strings_CutPrefix Tryz.lays103 s p w
def Tryz.lays283_ren:Go.Shelf.Ren:=⟨fun|283=>272|n=>n,fun|3=>3|9=>9|4=>4|n=>n,fun|n=>n⟩
theorem Tryz.lays283:Go.Proofs.Lays.n283 Tryz.prog Tryz.lays283_ren:={
 mixed:=by kernel_rfl
 f283:=Tryz.func272.trans (congrArg some (by kernel_rfl))
 t3:=Tryz.underlying3
 a3:=Tryz.isAgg3
 z3:=Tryz.sizeOf3
 v3:=Tryz.zeroValue3
 t4:=Tryz.underlying4
 a4:=Tryz.isAgg4
 z4:=Tryz.sizeOf4
 v4:=Tryz.zeroValue4
 t9:=Tryz.underlying9
 a9:=Tryz.isAgg9
 z9:=Tryz.sizeOf9
 v9:=Tryz.zeroValue9 }
open Go.Lib in
theorem Tryz.internal_strconv_small (i:Nat)(h:i<100)(w:World) :
 Calls Tryz.prog 272 #[.int .i64 i] w fun e w'=>e=.returned (.string ⟨(Lib.decDigits i).toArray⟩)/\w'=w:=Any.internal_strconv_small Tryz.lays283 i h w
def Tryz.laysM284_ren:Go.Shelf.Ren:=⟨fun|284=>273|129=>303|317=>302|318=>304|n=>n,fun|53=>254|3=>3|212=>344|0=>0|4=>4|46=>281|5=>5|9=>9|n=>n,fun|17=>3|n=>n⟩
theorem Tryz.laysM284:Go.Proofs.LaysM.n284 Tryz.prog Tryz.laysM284_ren:={
 mixed:=by kernel_rfl
 f129:=Tryz.func303.trans (congrArg some (by kernel_rfl))
 f284:=Tryz.func273.trans (congrArg some (by kernel_rfl))
 f317:=Tryz.func302.trans (congrArg some (by kernel_rfl))
 f318:=Tryz.func304.trans (congrArg some (by kernel_rfl))
 t0:=Tryz.underlying0
 a0:=Tryz.isAgg0
 z0:=Tryz.sizeOf0
 v0:=Tryz.zeroValue0
 t3:=Tryz.underlying3
 a3:=Tryz.isAgg3
 z3:=Tryz.sizeOf3
 v3:=Tryz.zeroValue3
 t4:=Tryz.underlying4
 a4:=Tryz.isAgg4
 z4:=Tryz.sizeOf4
 v4:=Tryz.zeroValue4
 t5:=Tryz.underlying5
 a5:=Tryz.isAgg5
 z5:=Tryz.sizeOf5
 v5:=Tryz.zeroValue5
 t9:=Tryz.underlying9
 a9:=Tryz.isAgg9
 z9:=Tryz.sizeOf9
 v9:=Tryz.zeroValue9
 t46:=Tryz.underlying281
 a46:=Tryz.isAgg281
 z46:=Tryz.sizeOf281
 v46:=Tryz.zeroValue281
 t53:=Tryz.underlying254
 a53:=Tryz.isAgg254
 z53:=Tryz.sizeOf254
 v53:=Tryz.zeroValue254
 t212:=Tryz.underlying344
 a212:=Tryz.isAgg344
 z212:=Tryz.sizeOf344
 v212:=Tryz.zeroValue344
 g17:=by kernel_rfl
 i0:=by kernel_rfl
 i3:=by kernel_rfl
 i4:=by kernel_rfl
 i5:=by kernel_rfl
 i9:=by kernel_rfl
 i46:=by kernel_rfl
 i53:=by kernel_rfl
 i212:=by kernel_rfl
 m17:=by kernel_rfl }
open Go.Lib in
theorem Tryz.internal_strconv_numDigits (u:Nat)(h1:1<=u)(h2:u<18446744073709551616)(w:World)(htab:Lib.TabIs Tryz.prog w "internal/strconv.uint64pow10" .u64 Lib.pow10Tab) :
 Calls Tryz.prog 273 #[.int .u64 u] w fun e w'=>e=.returned (.int .i64 (Lib.nDigits u))/\w'=w:=Any.internal_strconv_numDigits Tryz.laysM284 u h1 h2 w htab
def Tryz.lays285_ren:Go.Shelf.Ren:=⟨fun|285=>274|n=>n,fun|37=>264|53=>254|3=>3|4=>4|51=>304|9=>9|5=>5|0=>0|n=>n,fun|n=>n⟩
theorem Tryz.lays285:Go.Proofs.Lays.n285 Tryz.prog Tryz.lays285_ren:={
 mixed:=by kernel_rfl
 f285:=Tryz.func274.trans (congrArg some (by kernel_rfl))
 t0:=Tryz.underlying0
 a0:=Tryz.isAgg0
 z0:=Tryz.sizeOf0
 v0:=Tryz.zeroValue0
 t3:=Tryz.underlying3
 a3:=Tryz.isAgg3
 z3:=Tryz.sizeOf3
 v3:=Tryz.zeroValue3
 t4:=Tryz.underlying4
 a4:=Tryz.isAgg4
 z4:=Tryz.sizeOf4
 v4:=Tryz.zeroValue4
 t5:=Tryz.underlying5
 a5:=Tryz.isAgg5
 z5:=Tryz.sizeOf5
 v5:=Tryz.zeroValue5
 t9:=Tryz.underlying9
 a9:=Tryz.isAgg9
 z9:=Tryz.sizeOf9
 v9:=Tryz.zeroValue9
 t37:=Tryz.underlying264
 a37:=Tryz.isAgg264
 z37:=Tryz.sizeOf264
 v37:=Tryz.zeroValue264
 t51:=Tryz.underlying304
 a51:=Tryz.isAgg304
 z51:=Tryz.sizeOf304
 v51:=Tryz.zeroValue304
 t53:=Tryz.underlying254
 a53:=Tryz.isAgg254
 z53:=Tryz.sizeOf254
 v53:=Tryz.zeroValue254 }
open Go.RowKit Go.Sort Go.Lib in
theorem Tryz.internal_strconv_formatBase10 (blk off cap:Nat)(u:Nat)(d:Array UInt8)(w:World)(hH:Holds (fun (b:UInt8)=>Value.int .u8 (b.toNat:Int)) w blk off d)(hu:u<10^d.size)(hu64:u<18446744073709551616)(hsz:d.size<4611686018427387904) :
 Calls Tryz.prog 274 #[.slice (some ⟨blk,off,none⟩) d.size cap,.int .u64 u] w fun e w' =>
  e=.returned (.tuple #[])/\∃ (n v':Nat) (dk:Array UInt8),w'=(putRow (fun (b:UInt8)=>Value.int .u8 (b.toNat:Int)) w blk off dk).drewN n/\FmtInv d.size u 0 v' dk:=Any.internal_strconv_formatBase10 Tryz.lays285 blk off cap u d w hH hu hu64 hsz
def Tryz.laysPu14_ren:Go.Shelf.Ren:=⟨fun|14=>187|16=>228|17=>229|19=>266|20=>267|21=>268|22=>269|23=>270|24=>271|25=>299|27=>301|26=>300|28=>319|29=>328|30=>272|31=>273|32=>274|33=>275|35=>303|34=>302|36=>304|37=>305|38=>306|39=>320|40=>321|n=>n,fun|9=>9|3=>3|22=>254|24=>256|25=>257|4=>4|34=>315|5=>5|36=>281|37=>264|0=>0|39=>317|21=>21|44=>341|47=>326|50=>359|48=>357|2=>2|52=>321|55=>324|59=>344|60=>304|20=>20|61=>345|65=>367|66=>368|67=>198|n=>n,fun|0=>1|1=>2|2=>3|3=>4|4=>5|n=>n⟩
theorem Tryz.laysPu14:Go.Proofs.LaysPu.n14 Tryz.prog Tryz.laysPu14_ren:={
 mixed:=by kernel_rfl
 f14:=Tryz.func187.trans (congrArg some (by kernel_rfl))
 f16:=Tryz.func228.trans (congrArg some (by kernel_rfl))
 f17:=Tryz.func229.trans (congrArg some (by kernel_rfl))
 f19:=Tryz.func266.trans (congrArg some (by kernel_rfl))
 f20:=Tryz.func267.trans (congrArg some (by kernel_rfl))
 f21:=Tryz.func268.trans (congrArg some (by kernel_rfl))
 f22:=Tryz.func269.trans (congrArg some (by kernel_rfl))
 f23:=Tryz.func270.trans (congrArg some (by kernel_rfl))
 f24:=Tryz.func271.trans (congrArg some (by kernel_rfl))
 f25:=Tryz.func299.trans (congrArg some (by kernel_rfl))
 f26:=Tryz.func300.trans (congrArg some (by kernel_rfl))
 f27:=Tryz.func301.trans (congrArg some (by kernel_rfl))
 f28:=Tryz.func319.trans (congrArg some (by kernel_rfl))
 f29:=Tryz.func328.trans (congrArg some (by kernel_rfl))
 f30:=Tryz.func272.trans (congrArg some (by kernel_rfl))
 f31:=Tryz.func273.trans (congrArg some (by kernel_rfl))
 f32:=Tryz.func274.trans (congrArg some (by kernel_rfl))
 f33:=Tryz.func275.trans (congrArg some (by kernel_rfl))
 f34:=Tryz.func302.trans (congrArg some (by kernel_rfl))
 f35:=Tryz.func303.trans (congrArg some (by kernel_rfl))
 f36:=Tryz.func304.trans (congrArg some (by kernel_rfl))
 f37:=Tryz.func305.trans (congrArg some (by kernel_rfl))
 f38:=Tryz.func306.trans (congrArg some (by kernel_rfl))
 f39:=Tryz.func320.trans (congrArg some (by kernel_rfl))
 f40:=Tryz.func321.trans (congrArg some (by kernel_rfl))
 t0:=Tryz.underlying0
 a0:=Tryz.isAgg0
 z0:=Tryz.sizeOf0
 v0:=Tryz.zeroValue0
 i0:=by kernel_rfl
 t2:=Tryz.underlying2
 a2:=Tryz.isAgg2
 z2:=Tryz.sizeOf2
 v2:=Tryz.zeroValue2
 i2:=by kernel_rfl
 t3:=Tryz.underlying3
 a3:=Tryz.isAgg3
 z3:=Tryz.sizeOf3
 v3:=Tryz.zeroValue3
 i3:=by kernel_rfl
 t4:=Tryz.underlying4
 a4:=Tryz.isAgg4
 z4:=Tryz.sizeOf4
 v4:=Tryz.zeroValue4
 i4:=by kernel_rfl
 t5:=Tryz.underlying5
 a5:=Tryz.isAgg5
 z5:=Tryz.sizeOf5
 v5:=Tryz.zeroValue5
 i5:=by kernel_rfl
 t9:=Tryz.underlying9
 a9:=Tryz.isAgg9
 z9:=Tryz.sizeOf9
 v9:=Tryz.zeroValue9
 i9:=by kernel_rfl
 t20:=Tryz.underlying20
 a20:=Tryz.isAgg20
 z20:=Tryz.sizeOf20
 v20:=Tryz.zeroValue20
 i20:=by kernel_rfl
 t21:=Tryz.underlying21
 a21:=Tryz.isAgg21
 z21:=Tryz.sizeOf21
 v21:=Tryz.zeroValue21
 i21:=by kernel_rfl
 t22:=Tryz.underlying254
 a22:=Tryz.isAgg254
 z22:=Tryz.sizeOf254
 v22:=Tryz.zeroValue254
 i22:=by kernel_rfl
 t24:=Tryz.underlying256
 a24:=Tryz.isAgg256
 z24:=Tryz.sizeOf256
 v24:=Tryz.zeroValue256
 i24:=by kernel_rfl
 t25:=Tryz.underlying257
 a25:=Tryz.isAgg257
 z25:=Tryz.sizeOf257
 v25:=Tryz.zeroValue257
 i25:=by kernel_rfl
 t34:=Tryz.underlying315
 a34:=Tryz.isAgg315
 z34:=Tryz.sizeOf315
 v34:=Tryz.zeroValue315
 i34:=by kernel_rfl
 c34:=by kernel_rfl
 t36:=Tryz.underlying281
 a36:=Tryz.isAgg281
 z36:=Tryz.sizeOf281
 v36:=Tryz.zeroValue281
 i36:=by kernel_rfl
 t37:=Tryz.underlying264
 a37:=Tryz.isAgg264
 z37:=Tryz.sizeOf264
 v37:=Tryz.zeroValue264
 i37:=by kernel_rfl
 t39:=Tryz.underlying317
 a39:=Tryz.isAgg317
 z39:=Tryz.sizeOf317
 v39:=Tryz.zeroValue317
 i39:=by kernel_rfl
 t44:=Tryz.underlying341
 a44:=Tryz.isAgg341
 z44:=Tryz.sizeOf341
 v44:=Tryz.zeroValue341
 i44:=by kernel_rfl
 t47:=Tryz.underlying326
 a47:=Tryz.isAgg326
 z47:=Tryz.sizeOf326
 v47:=Tryz.zeroValue326
 i47:=by kernel_rfl
 t48:=Tryz.underlying357
 a48:=Tryz.isAgg357
 z48:=Tryz.sizeOf357
 v48:=Tryz.zeroValue357
 i48:=by kernel_rfl
 t50:=Tryz.underlying359
 a50:=Tryz.isAgg359
 z50:=Tryz.sizeOf359
 v50:=Tryz.zeroValue359
 i50:=by kernel_rfl
 t52:=Tryz.underlying321
 a52:=Tryz.isAgg321
 z52:=Tryz.sizeOf321
 v52:=Tryz.zeroValue321
 i52:=by kernel_rfl
 t55:=Tryz.underlying324
 a55:=Tryz.isAgg324
 z55:=Tryz.sizeOf324
 v55:=Tryz.zeroValue324
 i55:=by kernel_rfl
 t59:=Tryz.underlying344
 a59:=Tryz.isAgg344
 z59:=Tryz.sizeOf344
 v59:=Tryz.zeroValue344
 i59:=by kernel_rfl
 t60:=Tryz.underlying304
 a60:=Tryz.isAgg304
 z60:=Tryz.sizeOf304
 v60:=Tryz.zeroValue304
 i60:=by kernel_rfl
 t61:=Tryz.underlying345
 a61:=Tryz.isAgg345
 z61:=Tryz.sizeOf345
 t65:=Tryz.underlying367
 a65:=Tryz.isAgg367
 z65:=Tryz.sizeOf367
 v65:=Tryz.zeroValue367
 i65:=by kernel_rfl
 t66:=Tryz.underlying368
 a66:=Tryz.isAgg368
 z66:=Tryz.sizeOf368
 v66:=Tryz.zeroValue368
 i66:=by kernel_rfl
 t67:=Tryz.underlying198
 a67:=Tryz.isAgg198
 z67:=Tryz.sizeOf198
 v67:=Tryz.zeroValue198
 i67:=by kernel_rfl
 g0:=by kernel_rfl
 m0:=by kernel_rfl
 g1:=by kernel_rfl
 m1:=by kernel_rfl
 g2:=by kernel_rfl
 m2:=by kernel_rfl
 g3:=by kernel_rfl
 m3:=by kernel_rfl
 g4:=by kernel_rfl
 m4:=by kernel_rfl }
open Go.RowKit in
theorem Tryz.strconv_ParseUint_10_at64_ok (s:ByteArray)(hmax:s.size<=9223372036854775806)(u:Nat)(h:Lib.parseUintB 64 s.data.toList=.ok u)(w:World) :
 Calls Tryz.prog 187 #[.string s,.int .i64 10,.int .i64 64] w fun e w'=>e=.returned (.tuple #[.int .u64 u,.nilIface])/\(w'=w\/w'=Lib.bytesWorld w 5 s):=Any.strconv_ParseUint_10_at64_ok Tryz.laysPu14 s hmax u h w
def Tryz.lays219_ren:Go.Shelf.Ren:=⟨fun|219=>226|217=>261|225=>262|224=>263|267=>264|266=>297|314=>298|n=>n,fun|9=>9|3=>3|4=>4|5=>5|46=>281|146=>305|51=>304|n=>n,fun|1=>0|n=>n⟩
theorem Tryz.lays219:Go.Proofs.Lays.n219 Tryz.prog Tryz.lays219_ren:={
 mixed:=by kernel_rfl
 f217:=Tryz.func261.trans (congrArg some (by kernel_rfl))
 f219:=Tryz.func226.trans (congrArg some (by kernel_rfl))
 f224:=Tryz.func263.trans (congrArg some (by kernel_rfl))
 f225:=Tryz.func262.trans (congrArg some (by kernel_rfl))
 f266:=Tryz.func297.trans (congrArg some (by kernel_rfl))
 f267:=Tryz.func264.trans (congrArg some (by kernel_rfl))
 f314:=Tryz.func298.trans (congrArg some (by kernel_rfl))
 t3:=Tryz.underlying3
 a3:=Tryz.isAgg3
 z3:=Tryz.sizeOf3
 v3:=Tryz.zeroValue3
 t4:=Tryz.underlying4
 a4:=Tryz.isAgg4
 z4:=Tryz.sizeOf4
 v4:=Tryz.zeroValue4
 t5:=Tryz.underlying5
 a5:=Tryz.isAgg5
 z5:=Tryz.sizeOf5
 v5:=Tryz.zeroValue5
 t9:=Tryz.underlying9
 a9:=Tryz.isAgg9
 z9:=Tryz.sizeOf9
 v9:=Tryz.zeroValue9
 t46:=Tryz.underlying281
 a46:=Tryz.isAgg281
 z46:=Tryz.sizeOf281
 v46:=Tryz.zeroValue281
 t51:=Tryz.underlying304
 a51:=Tryz.isAgg304
 z51:=Tryz.sizeOf304
 v51:=Tryz.zeroValue304
 t146:=Tryz.underlying305
 a146:=Tryz.isAgg305
 z146:=Tryz.sizeOf305
 v146:=Tryz.zeroValue305
 g1:=by kernel_rfl }
open Go.RowKit Go.Lib in
theorem Tryz.stringslite_Index_one (s:ByteArray)(c:UInt8)(w:World) :
 Calls Tryz.prog 226 #[.string s,.string ⟨#[c]⟩] w fun e w'=>e=.returned (.int .i64 (Lib.indexByte s.data.toList c))/\w'=w:=Any.stringslite_Index_one Tryz.lays219 s c w
def Tryz.lays101_ren:Go.Shelf.Ren:=⟨fun|101=>241|208=>282|206=>265|n=>n,fun|9=>9|4=>4|3=>3|n=>n,fun|n=>n⟩
theorem Tryz.lays101:Go.Proofs.Lays.n101 Tryz.prog Tryz.lays101_ren:={
 mixed:=by kernel_rfl
 f101:=Tryz.func241.trans (congrArg some (by kernel_rfl))
 f206:=Tryz.func265.trans (congrArg some (by kernel_rfl))
 f208:=Tryz.func282.trans (congrArg some (by kernel_rfl))
 t3:=Tryz.underlying3
 a3:=Tryz.isAgg3
 z3:=Tryz.sizeOf3
 v3:=Tryz.zeroValue3
 t4:=Tryz.underlying4
 a4:=Tryz.isAgg4
 z4:=Tryz.sizeOf4
 v4:=Tryz.zeroValue4
 t9:=Tryz.underlying9
 a9:=Tryz.isAgg9
 z9:=Tryz.sizeOf9
 v9:=Tryz.zeroValue9 }
open Go.RowKit Go.Lib in
theorem Tryz.strings_TrimPrefix (s p:ByteArray)(w:World) :
 Calls Tryz.prog 241 #[.string s,.string p] w fun e w'=>e=.returned (.string ⟨(Lib.trimPrefix s.data.toList p.data.toList).toArray⟩)/\w'=w:=Any.strings_TrimPrefix Tryz.lays101 s p w
def Tryz.lays212_ren:Go.Shelf.Ren:=⟨fun|212=>220|263=>256|264=>257|n=>n,fun|46=>281|51=>304|146=>305|53=>254|148=>307|n=>n,fun|n=>n⟩
theorem Tryz.lays212:Go.Proofs.Lays.n212 Tryz.prog Tryz.lays212_ren:={
 mixed:=by kernel_rfl
 f212:=Tryz.func220.trans (congrArg some (by kernel_rfl))
 f263:=Tryz.func256.trans (congrArg some (by kernel_rfl))
 f264:=Tryz.func257.trans (congrArg some (by kernel_rfl))
 t46:=Tryz.underlying281
 a46:=Tryz.isAgg281
 z46:=Tryz.sizeOf281
 v46:=Tryz.zeroValue281
 t51:=Tryz.underlying304
 a51:=Tryz.isAgg304
 z51:=Tryz.sizeOf304
 v51:=Tryz.zeroValue304
 t53:=Tryz.underlying254
 a53:=Tryz.isAgg254
 z53:=Tryz.sizeOf254
 v53:=Tryz.zeroValue254
 t146:=Tryz.underlying305
 a146:=Tryz.isAgg305
 z146:=Tryz.sizeOf305
 v146:=Tryz.zeroValue305
 t148:=Tryz.underlying307
 a148:=Tryz.isAgg307
 z148:=Tryz.sizeOf307
 v148:=Tryz.zeroValue307 }
open Go.RowKit Go.Lib in
theorem Tryz.bits_Mul (x y:Nat)(hx:x<18446744073709551616)(hy:y<18446744073709551616)(w:World) :
 Calls Tryz.prog 220 #[.int .u64 x,.int .u64 y] w fun e w'=>e=.returned (.tuple #[.int .u64 ((x*y/18446744073709551616:Nat):Int),.int .u64 ((x*y%18446744073709551616:Nat):Int)])/\w'=w:=Any.bits_Mul Tryz.lays212 x y hx hy w
def Tryz.lays105_ren:Go.Shelf.Ren:=⟨fun|105=>232|212=>220|99=>277|165=>278|166=>231|170=>279|169=>233|263=>256|264=>257|206=>265|240=>276|241=>308|276=>307|277=>322|n=>n,fun|9=>9|3=>3|4=>4|20=>20|0=>0|46=>281|109=>282|5=>5|72=>291|76=>292|51=>304|146=>305|53=>254|148=>307|70=>289|37=>264|75=>256|127=>326|164=>346|80=>198|n=>n,fun|n=>n⟩
theorem Tryz.lays105:Go.Proofs.Lays.n105 Tryz.prog Tryz.lays105_ren:={
 mixed:=by kernel_rfl
 f99:=Tryz.func277.trans (congrArg some (by kernel_rfl))
 f105:=Tryz.func232.trans (congrArg some (by kernel_rfl))
 f165:=Tryz.func278.trans (congrArg some (by kernel_rfl))
 f166:=Tryz.func231.trans (congrArg some (by kernel_rfl))
 f169:=Tryz.func233.trans (congrArg some (by kernel_rfl))
 f170:=Tryz.func279.trans (congrArg some (by kernel_rfl))
 f206:=Tryz.func265.trans (congrArg some (by kernel_rfl))
 f212:=Tryz.func220.trans (congrArg some (by kernel_rfl))
 f240:=Tryz.func276.trans (congrArg some (by kernel_rfl))
 f241:=Tryz.func308.trans (congrArg some (by kernel_rfl))
 f263:=Tryz.func256.trans (congrArg some (by kernel_rfl))
 f264:=Tryz.func257.trans (congrArg some (by kernel_rfl))
 f276:=Tryz.func307.trans (congrArg some (by kernel_rfl))
 f277:=Tryz.func322.trans (congrArg some (by kernel_rfl))
 t0:=Tryz.underlying0
 a0:=Tryz.isAgg0
 z0:=Tryz.sizeOf0
 v0:=Tryz.zeroValue0
 t3:=Tryz.underlying3
 a3:=Tryz.isAgg3
 z3:=Tryz.sizeOf3
 v3:=Tryz.zeroValue3
 t4:=Tryz.underlying4
 a4:=Tryz.isAgg4
 z4:=Tryz.sizeOf4
 v4:=Tryz.zeroValue4
 t5:=Tryz.underlying5
 a5:=Tryz.isAgg5
 z5:=Tryz.sizeOf5
 v5:=Tryz.zeroValue5
 t9:=Tryz.underlying9
 a9:=Tryz.isAgg9
 z9:=Tryz.sizeOf9
 v9:=Tryz.zeroValue9
 t20:=Tryz.underlying20
 a20:=Tryz.isAgg20
 z20:=Tryz.sizeOf20
 v20:=Tryz.zeroValue20
 t37:=Tryz.underlying264
 a37:=Tryz.isAgg264
 z37:=Tryz.sizeOf264
 v37:=Tryz.zeroValue264
 t46:=Tryz.underlying281
 a46:=Tryz.isAgg281
 z46:=Tryz.sizeOf281
 v46:=Tryz.zeroValue281
 t51:=Tryz.underlying304
 a51:=Tryz.isAgg304
 z51:=Tryz.sizeOf304
 v51:=Tryz.zeroValue304
 t53:=Tryz.underlying254
 a53:=Tryz.isAgg254
 z53:=Tryz.sizeOf254
 v53:=Tryz.zeroValue254
 t70:=Tryz.underlying289
 a70:=Tryz.isAgg289
 z70:=Tryz.sizeOf289
 v70:=Tryz.zeroValue289
 t72:=Tryz.underlying291
 a72:=Tryz.isAgg291
 z72:=Tryz.sizeOf291
 v72:=Tryz.zeroValue291
 t75:=Tryz.underlying256
 a75:=Tryz.isAgg256
 z75:=Tryz.sizeOf256
 v75:=Tryz.zeroValue256
 t76:=Tryz.underlying292
 a76:=Tryz.isAgg292
 z76:=Tryz.sizeOf292
 v76:=Tryz.zeroValue292
 t109:=Tryz.underlying282
 a109:=Tryz.isAgg282
 z109:=Tryz.sizeOf282
 v109:=Tryz.zeroValue282
 t127:=Tryz.underlying326
 a127:=Tryz.isAgg326
 z127:=Tryz.sizeOf326
 v127:=Tryz.zeroValue326
 t146:=Tryz.underlying305
 a146:=Tryz.isAgg305
 z146:=Tryz.sizeOf305
 v146:=Tryz.zeroValue305
 t148:=Tryz.underlying307
 a148:=Tryz.isAgg307
 z148:=Tryz.sizeOf307
 v148:=Tryz.zeroValue307
 t164:=Tryz.underlying346
 a164:=Tryz.isAgg346
 z164:=Tryz.sizeOf346
 v164:=Tryz.zeroValue346 }
theorem Tryz.Builder_Extra_105:Builder.Extra Tryz.prog Tryz.lays105_ren:={
 sizeBuilder:=by kernel_rfl
 liesBuilder:=by kernel_rfl
 t5:=Tryz.underlying5
 a5:=Tryz.isAgg5
 z5:=Tryz.sizeOf5
 v5:=Tryz.zeroValue5
 infoByte:=by kernel_rfl
 cellsByte:=by kernel_rfl
 sizeByte:=by kernel_rfl
 neB5:=by decide }
open Go.RowKit Go.Lib in
theorem Tryz.strings_Repeat (s:ByteArray)(c:Nat)(w:World)(hc:c<=9223372036854775807)(hlen:s.size*c<=140737488355328) :
 Calls Tryz.prog 232 #[.string s,.int .i64 c] w fun e w'=>e=.returned (.string ⟨(Lib.repeatL s.data.toList c).toArray⟩)/\Below w.heap.size w w':=Any.strings_Repeat Tryz.lays105 Tryz.Builder_Extra_105 s c w hc hlen
end Go.Proofs
end
namespace Go.Proofs.YtijchbjkdllolaaGreatDoor
open Go.Proofs.Tryz
open Go.RowKit
section
open Go.Shelf Go.RowKit
def Ac6:(prog.info? 291).map (·.size)=some 2:=kV
def Anp:liesAt prog prog.depth 291 (2/prog.cellsOf 291) 0 291 1=true:=kV
def Amc:(prog.info? 5).map (fun i=>(i.zero,i.size,i.bytes))=some (some (.int .u8 0),1,1):=kV
set_option maxRecDepth 100000 in
def Wg (b:Nat)(w:World)(h0:w.cell? ⟨b,0,none⟩=some (.pointer (some ⟨b,0,none⟩))) :
 Calls prog 276 #[.pointer (some ⟨b,0,none⟩)] w fun e w'=>e=.returned (.tuple #[])/\w'=w:=by
 obtain⟨j,f,_⟩:=A3c.1 Ac6
 go_enter func276,ntmps276
 go_wp2
 rw[Lib.run_neq_ptr_same w _ Tryz.underlying289 f]
 go_wp2
 go_end0
 exact⟨rfl,rfl⟩
set_option maxRecDepth 100000 in
def Uc (b:Nat)(w:World)(h0:w.cell? ⟨b,0,none⟩=some (.pointer none))(f:w.shape? b=some (291,2))(m:w.frozen? ⟨b,0,none⟩=false) :
 Calls prog 276 #[.pointer (some ⟨b,0,none⟩)] w fun e w'=>e=.returned (.tuple #[])/\w'=w.setCell ⟨b,0,none⟩ (.pointer (some ⟨b,0,none⟩)):=by
 obtain⟨j,h,g⟩:=A3c.1 Ac6
 go_enter func276,ntmps276
 go_wp2
 rw[Lib.run_to_unsafe w ⟨b,0,none⟩ Tryz.underlying289 Tryz.underlying346 h (by rw[g];decide) f (Nat.zero_lt_succ 1)];simp only[Result.andThen];rw[Oper.upon_value]
 go_wp2
 rw[run_callFunc_extern func307 kV kV kV (e:=Extern.AbiNoEscape.same) kV];rw[Lib.run_noEscape];simp only[Result.andThen];rw[Oper.upon_value]
 go_wp2
 rw[Lib.run_from_unsafe w ⟨b,0,none⟩ Tryz.underlying346 Tryz.underlying289 h f Anp];simp only[Result.andThen];rw[Oper.upon_value]
 go_wp2
 go_end0
 exact⟨rfl,rfl⟩
def Yh (B b:Nat)(bs:List Value)(w:World)(h:Lib.IsBuilder 291 5 B b bs w) :
 Calls prog 276 #[.pointer (some ⟨b,0,none⟩)] w fun e w'=>e=.returned (.tuple #[])/\(Lib.BuilderAt 291 5 B b (.pointer (some ⟨b,0,none⟩)) bs w'/\Below B w w'):=by
 rcases h with h|h
 ·refine (Uc b w h.cell0 h.shape h.frozen0).mono ?_;rintro e w' ⟨rfl,rfl⟩;exact⟨rfl,h.used _,(Below.refl B w).setCell (p:=⟨b,0,none⟩) h.1 _⟩
 refine (Wg b w h.cell0).mono ?_;rintro e w' ⟨rfl,rfl⟩;exact⟨rfl,h,Below.refl B _⟩
set_option maxRecDepth 100000 in
def C3 (B b:Nat)(bs:List Value)(s:ByteArray)(w:World)(h:Lib.IsBuilder 291 5 B b bs w)(O:bs.length+s.size<=140737488355328)(U:B<=w.heap.size) :
 Calls prog 231 #[.pointer (some ⟨b,0,none⟩),.string s] w fun e w'=>e=.returned (.tuple #[.int .i64 s.size,.nilIface])/\(Lib.BuilderAt 291 5 B b (.pointer (some ⟨b,0,none⟩)) (bs++Lib.strCells s) w'/\Below B w w'):=by
 obtain⟨W,hi,I,J,K⟩:=info_parts Amc
 go_enter func231,ntmps231
 go_wp2_with fail
 refine (Yh B b bs _ h).mono ?_;rintro e A ⟨rfl,R,u⟩;obtain⟨N,v,n,t,F⟩:=R;have c0:A.cell? ⟨b,0,none⟩=some (.pointer (some ⟨b,0,none⟩)):=by rw[Lib.cell_of_heap n];rfl
 have Y:A.cell? ⟨b,1,none⟩=some v:=by rw[Lib.cell_of_heap n];rfl
 go_wp2_with (at_builtin;refine Lib.wpList_append_own_string _ rfl _ _ 264 9 rfl B 5 W Tryz.underlying264 Tryz.underlying9 hi I J K _ _ _ rfl t s rfl ?c3 ?c4 ?c5 ?_)
 case c3=>unfold maxLen;omega
 case c4=>omega
 case c5=>have:=u.size;omega
 intro X C j f _;have E:b<A.heap.size:=by
  rcases Az8 b A.heap.size with D|D
  ·exact D
  simp[A1w D]at n
 have m:C.heap[b]?=some (.cells #[.pointer (some ⟨b,0,none⟩),v] 291 (0,0)):=by
  rw[f.block b E (fun e=>F e.symm)];exact n
 have d0:C.cell? ⟨b,0,none⟩=some (.pointer (some ⟨b,0,none⟩)):=by rw[Lib.cell_of_heap m];rfl
 have Z:C.cell? ⟨b,1,none⟩=some v:=by rw[Lib.cell_of_heap m];rfl
 have f1:C.frozen? ⟨b,1,none⟩=false:=Lib.frozen_of_heap m 1;obtain⟨L,P,cap,rfl⟩:∃ L P cap,X=.slice L P cap:=by
  rcases j.2 with ⟨H,_⟩|⟨g,cap,Q,H,_⟩
  ·exact⟨_,_,_,H⟩
  exact⟨_,_,_,H⟩
 go_wp2
 go_ret2
 refine⟨rfl,?_,?_⟩
 ·exact Lib.BuilderAt.put (T:=291) (e:=5) N m (bs':=bs++Lib.strCells s) (by simpa[Lib.strCells_length] using j) fV
 exact (u.grown f (by have:=u.size;omega) (fun k V=>(t.lt k V).1)).setCell (p:=⟨b,1,none⟩) N _
end
section
open Go.Shelf Go.RowKit Go.Sort Go.Lib
set_option maxRecDepth 100000 in
def Vy (u:Nat)(f:u<18446744073709551616)(w:World)(A:Lib.TabIs prog w "internal/strconv.uint64pow10" .u64 Lib.pow10Tab) :
 Calls prog 230 #[.int .u64 u,.int .i64 10] w fun e w'=>e=.returned (.string ⟨(Lib.decDigits u).toArray⟩)/\Below w.heap.size w w':=by
 by_cases K:u<100
 ·go_enter func230,ntmps230
  go_wp2_with fail
  refine (Tryz.internal_strconv_small u K _).mono ?_;rintro e w' ⟨rfl,rfl⟩
  go_wp2_with fail
  go_ret
  exact⟨rfl,Below.refl _ _⟩
 have C:1<=u:=oV;have F:Lib.nDigits u<=20:=by have:=Lib.numDigits_eq u C f;split at this<;>omega
 have t:prog.arrayLen 321=24:=kV;have H:∀ W,(Instr.sliceAt 321 (.pointer (some ⟨w.heap.size,0,none⟩)) none (some (.int .i64 (Lib.nDigits u:Int))) none).run prog W=.ok (.slice (some ⟨w.heap.size,0,none⟩) (Lib.nDigits u) 24) W:=fun W=>by
  rw[run_sliceAt_array_h W 321 ⟨w.heap.size,0,none⟩ kV .i64 (Lib.nDigits u:Int) oV (by rw[t];omega)]
  go_simp
 have m:=Lib.holds_zero0 w 321 (Lib.nDigits u) oV;have g:=Tryz.internal_strconv_formatBase10 w.heap.size 0 24 u (Array.replicate (Lib.nDigits u) 0) (w.alloc (.cells Lib.zeros24 321)) m (by rw[A49];exact Lib.lt_pow_nDigits u) f (by rw[A49];omega);rw[A49]at g;have D:=Lib.hid m;clear m t
 go_enter func230,ntmps230
 go_wp2_with fail
 refine (Tryz.internal_strconv_numDigits u C f _ (Lib.tabIs_alloc A _)).mono ?_;rintro e w' ⟨rfl,rfl⟩
 go_wp2_with fail
 refine g.mono ?_;rintro e w' ⟨rfl,k,N,n,rfl,hF⟩;have J:(convert 264 9 (.slice (some ⟨w.heap.size,0,none⟩) (Lib.nDigits u) 24)).run prog ((putRow (fun (b:UInt8)=>Value.int .u8 (b.toNat:Int)) (w.alloc (.cells Lib.zeros24 321)) w.heap.size 0 n).drewN k)=.ok (.string ⟨(Lib.decDigits u).toArray⟩) ((putRow (fun (b:UInt8)=>Value.int .u8 (b.toNat:Int)) (w.alloc (.cells Lib.zeros24 321)) w.heap.size 0 n).drewN k):=by
  have h:=run_convert_bytes_back (P:=prog) ((putRow (fun (b:UInt8)=>Value.int .u8 (b.toNat:Int)) (w.alloc (.cells Lib.zeros24 321)) w.heap.size 0 n).drewN k) 264 9 5 ⟨w.heap.size,0,none⟩ 24 (Lib.decDigits u) Tryz.underlying264 Tryz.underlying5 Tryz.underlying9 (fun j E=>by
   rw[Lib.row_is_numeral hF j E,Lib.add_plain,World.cell?_drewN];exact cell?_putRow (fun (b:UInt8)=>Value.int .u8 (b.toNat:Int)) _ w.heap.size 0 _ n D.out (by rw[hF.size,A49]) j (by rw[hF.size];rw[Lib.decDigits_length]at E;exact E))
  rw[Lib.decDigits_length]at h;exact h
 go_wp2_with fail
 go_ret
 refine⟨rfl,?_⟩;obtain⟨L,I⟩:=Lib.fin_at w (.cells Lib.zeros24 321) n k 0;rw[I];exact Lib.below_grow _ w (Ay2 _) k L
end
section
open Go.Shelf Go.RowKit Go.Sort Go.Lib
variable {B b d k n:Nat}{T e:TypeId}{bs:List Value}{neg:Bool}{w w':World}
def Og {P:Program}{f:String}{k:IntKind}{zs:List Int}(h:TabIs P w f k zs)(x:Ext w w'):TabIs P w' f k zs:=by
 unfold TabIs World.var? at *
 cases hg:P.globalNamed f with
 |none=>simp[hg]at h
 |some g =>
  simp only[hg,Option.bind_some]at h⊢;have m:g<w.heap.size:=by
   rcases Az8 g w.heap.size with j|j
   ·exact j
   simp[A1w j]at h
  rw[Below.block x g m];exact h
def T2 {size:Nat}{v:Value}{xs:List Value}(h:w.ownsRow B e size v n xs)(x:Ext w w'):w'.ownsRow B e size v n xs:=by
 obtain⟨m,h0|⟨g,cap,f,u,t,j,r⟩⟩:=h
 ·exact⟨m,.inl h0⟩
 exact⟨m,.inr ⟨g,cap,f,u,t,by rw[Below.block x g (A3 j)];exact j,r⟩⟩
def Pa {p:Value}(h:BuilderAt T e B b p bs w)(x:Ext w w'):BuilderAt T e B b p bs w':=by
 obtain⟨j,v,g,m,f⟩:=h;exact⟨j,v,by rw[Below.block x b (A3 g)];exact g,T2 m x,f⟩
def Ep (h:IsBuilder T e B b bs w)(x:Ext w w'):IsBuilder T e B b bs w' :=
 h.elim (fun h=>.inl (Pa h x)) (fun h=>.inr (Pa h x))
def Aon (n j k:Nat):ld n (j+k)=ld n j++ld (n/10^j) k:=by
 induction k with
 |zero=>simp[ld]
 |succ k ih =>
  rw[<-A1l,Ur,Ur,ih,Azm]
  congr 3
  unfold dg;rw[A3b,<-A3a]
def Aw4 (d:Nat)(h:∀ j,j<k->n/10^j%10=d/10^j%10):ld n k=ld d k:=by
 unfold ld;refine A5f fun j f=>?_;unfold dg;rw[h j (A64.1 f)]
def G0 (k:Nat):repeatL [48] k=List.replicate k 48:=by
 induction k with
 |zero=>rfl
 |succ k ih=>rw[repeatL,ih];rfl
def Kl (m:d<1000000000):nDigits d<=9:=by
 rcases Azx d with h|h
 ·subst h;rw[nDigits_small oV];omega
 have f:=Gq (n:=d) oV;have g:10^(nDigits d-1)<10^9:=A0r f oV;have j:=(A5p (by omega:1<10)).1 g;omega
def Ayi (f:d<1000000000):(ld d 9).reverse=repeatL [48] (9-nDigits d)++decDigits d:=by
 have g:=Kl f;have e:9=nDigits d+(9-nDigits d):=oV
 rw[show ld d 9=ld d (nDigits d+(9-nDigits d)) by rw[<-e],Aon,A62,Aa8]
 congr 1
 have h0:d/10^nDigits d=0:=A2l (lt_pow_nDigits d);rw[h0,G0];have:∀ k,ld 0 k=List.replicate k 48:=by
  intro k;induction k with
  |zero=>rfl
  |succ k ih=>rw[Ur,ih,A6u];congr 1;simp[dg]
 rw[this,List.reverse_replicate]
def Anh {x d:Nat}(t:x≠0)(h:d<1000000000):decDigits (x*1000000000+d)=decDigits x++(repeatL [48] (9-nDigits d)++decDigits d):=by
 have f:(x*1000000000+d)/10^9=x:=oV
 have g:nDigits (x*1000000000+d)=9+nDigits x:=by
  rw[O9 (j:=9) oV,f]
 rw[<-Aa8,g,Aon,f,A62,Aa8,<-Ayi h]
 congr 2
 refine Aw4 d fun j m=>?_;have e:(1000000000:Nat)=10^j*10^(9-j):=by rw[<-A3a,show j+(9-j)=9 by omega]
 rw[e,Az5 x,Az4,A7z (A5d oV),show 9-j=(8-j)+1 by omega,A0d];rw[Nat.mul_right_comm,Az5 _ 10,Nat.mul_add_mod]
def mid (n k:Nat):List UInt8:=if k=(Aa n).length then [] else decDigits (n/1000000000^k)
def Aia (n:Nat):mid n (Aa n).length = []:=by simp[mid]
def Aba (h:k≠(Aa n).length):mid n k=decDigits (n/1000000000^k):=by simp[mid,h]
def C4 (neg:Bool)(n k:Nat):List UInt8:=(if neg then [45] else [])++mid n k
def Vz (neg:Bool)(n:Nat):C4 neg n (Aa n).length=if neg then [45] else []:=by rw[C4,Aia,Azl]
def Mb (z:Int)(h:z≠0):C4 (decide (z<0)) z.natAbs 0=itoa z:=by
 have f:(Aa z.natAbs).length≠0:=fun h0=>h (by have:=Gv.1 (A0a h0);omega);rw[C4,Aba (fun h0=>f h0.symm),Dw,Bl,A7n,A9j];split<;>rfl
def Xj (n k:Nat):n/1000000000^k=n/1000000000^(k+1)*1000000000+(Aa n).getD k 0:=by
 rw[Qd,A0d,<-A3b];omega
def Vq (f:k+1=(Aa n).length):C4 neg n k=C4 neg n (k+1)++decDigits ((Aa n).getD k 0):=by
 have h0:n/1000000000^(k+1)=0:=A2l (by rw[f];exact Cy n);rw[C4,C4,Aba oV,f,Aia,Azl,Xj,h0];simp
def Xb (f:k+1<(Aa n).length):C4 neg n k=C4 neg n (k+1)++(repeatL [48] (9-nDigits ((Aa n).getD k 0))++decDigits ((Aa n).getD k 0)):=by
 have j:n≠0:=by rintro rfl;rw[Bd]at f;simp at f
 have m:n/1000000000^(k+1)≠0:=by
  have g:=Rg j;have h:1000000000^(k+1)<=1000000000^(nl n-1):=Azr oV (by have:nl n=(Aa n).length:=rfl;omega);have t:=Nat.div_pos (Ayv h g) (A5d oV);omega
 rw[C4,C4,Aba oV,Aba oV,Azm]
 congr 1
 rw[Xj n k,Anh m ((An n).getD k)]
def Tr (neg:Bool)(n k:Nat):(C4 neg n k).length<=1+9*(Aa n).length+1:=by
 have j:nDigits (n/1000000000^k)<=9*(Aa n).length+1:=by
  rcases Azx (n/1000000000^k) with h|h
  ·rw[h,nDigits_small oV];omega
  have f:=Gq (n:=n/1000000000^k) oV;have g:10^(nDigits (n/1000000000^k)-1)<10^(9*(Aa n).length):=A0r f (A0r (A16 _ _) (Rb n));have m:=(A5p (by omega:1<10)).1 g;omega
 unfold C4 mid;split<;>split<;>simp[decDigits_length]<;>omega
end
section
open Go.Shelf Go.RowKit Go.Sort Go.Lib
set_option maxRecDepth 100000 in
def Em (u:Nat)(g:u<18446744073709551616)(w:World)(f:Lib.TabIs prog w "internal/strconv.uint64pow10" .u64 Lib.pow10Tab) :
 Calls prog 189 #[.int .u64 u,.int .i64 10] w fun e w'=>e=.returned (.string ⟨(Lib.decDigits u).toArray⟩)/\Ext w w':=by
 go_enter func189,ntmps189
 go_wp2_with fail
 refine (Vy u g _ f).mono ?_;rintro e w' ⟨rfl,h⟩
 go_wp2_with fail
 go_ret
 exact⟨rfl,h⟩
def Ao7 (W0:World)(B:Nat)(neg:Bool)(n:Nat)(i:Value)(wr:World):Prop :=
 ∃ k:Nat,k<=(Aa n).length/\i=.int .i64 ((k:Int)-1)/\IsBuilder 291 5 B B (byteCells (C4 neg n k)) wr/\Below B W0 wr
def Db (l e:List UInt8):byteCells l++byteCells e=byteCells (l++e):=by simp[byteCells]
set_option maxRecDepth 100000 in
theorem Yg (v:Value)(z:Int)(w:World)(hv:Rn w v z)(hs:nl z.natAbs<=100000000000)(htab:Lib.TabIs prog w "internal/strconv.uint64pow10" .u64 Lib.pow10Tab) :
 Calls prog 190 #[v] w fun e w'=>e=.returned (.string ⟨(Lib.itoa z).toArray⟩)/\Ext w w':=by
 obtain⟨a,n,c,rfl,hn⟩:=hv;obtain⟨a',c',e,hcap,hrow⟩:=hn;simp only[Value.slice.injEq]at e;obtain⟨rfl,rfl,rfl⟩:=e;have hlen:(Aa z.natAbs).length<=100000000000:=hs;by_cases hz:z=0
 ·subst hz;rw[show (Aa (0:Int).natAbs).length=0 by rw[show (0:Int).natAbs=0 from rfl,Bd];rfl];clear hrow hcap hlen
  go_enter func190,ntmps190
  go_wp2_with fail
  go_ret
  exact⟨by rw[Es];rfl,Ext.alloc (Ext.refl w) _⟩
 ·have hp:0<(Aa z.natAbs).length:=Cz.2 oV;obtain⟨L,hL⟩:∃ L,L=(Aa z.natAbs).length:=⟨_,rfl⟩;rw[<-hL]at hp hlen⊢;have HL:=Lib.hid hL;have HROW:=Lib.hid hrow;have HTAB:=Lib.hid htab;clear hL hrow htab hcap;obtain⟨neg,hneg⟩:∃ neg,neg=decide (z<0):=⟨_,rfl⟩;rw[<-hneg];have HNEG:=Lib.hid hneg;clear hneg;obtain⟨w1,hw1⟩:∃ w1,w1=w.alloc (Obj.cells #[Value.bool neg,Value.slice a L c] 116):=⟨_,rfl⟩;have hs1:w1.heap.size=w.heap.size+1:=by rw[hw1];exact Bz _ _
  have HX1:RowKit.Hid (Ext w w1):=Lib.hid (by rw[hw1];exact Ext.alloc (Ext.refl w) _);have HB0:=Lib.hid (Lib.fresh_isBuilder 291 5 w1);have HW1:=Lib.hid hw1;have HS1:=Lib.hid hs1;clear hw1 hs1;cases neg
  ·go_enter func190,ntmps190
   go_wp2_with fail
   rw[<-HW1.out,<-HS1.out,show ((L:Int)==0)=false by rw[beq_eq_false_iff_ne];omega]
   go_loopw [4] (Ao7 (w1.alloc (Obj.cells #[Value.pointer none,Value.slice none 0 0] 291)) w1.heap.size false z.natAbs) (fun i _=>(RowKit.intOf i+1).toNat)
   case atStart=>exact⟨(Aa z.natAbs).length,Ay2 _,by rw[<-HL.out],by rw[Vz];exact HB0.out,Below.refl _ _⟩
   case round =>
    obtain⟨k,hk,rfl,hbd,hbel⟩:=hrel;have hsz0:=hbel.size;rw[Bz]at hsz0;have HXW:RowKit.Hid (Ext w wr):=Lib.hid (Ext.trans HX1.out (Below.trans (Ext.alloc (Ext.refl w1) (Obj.cells #[Value.pointer none,Value.slice none 0 0] 291)) hbel));rcases k with _|k
    ·have hne:C4 false z.natAbs 0≠[]:=by rw[HNEG.out,Mb z hz,Dw,Bl];split;simp;exact Ga _
     have HBD:=Lib.hid hbd;clear hbd
     go_wp2_with fail
     refine (Tryz.Builder_String w1.heap.size w1.heap.size (C4 false z.natAbs 0) wr HBD.out hne).mono ?_;rintro e w2 ⟨rfl,hb2⟩
     go_wp2_with fail
     go_ret
     refine⟨?_,Below.trans HXW.out ?_⟩
     ·rw[HNEG.out,Mb z hz];rfl
     ·exact Below.mono hb2 (by have:=HS1.out;omega)
    ·have hsz1:w.heap.size<w1.heap.size:=by rw[HS1.out];omega
     have hc1:wr.cell? ⟨w.heap.size,1,none⟩=some (.slice a L c):=by
      rw[Below.cell hbel hsz1,Below.cell (Ext.alloc (Ext.refl w1) _) hsz1,HW1.out,World.cell?_alloc_new];rfl
     obtain⟨ba,offa,rfl,hca⟩:=HROW.out.at (j:=k) oV;have hcb:=HXW.out.cell hca;clear hca;have hlow:(Aa z.natAbs).getD k 0<1000000000:=(An _).getD k;obtain⟨x,hx⟩:∃ x,x=(Aa z.natAbs).getD k 0:=⟨_,rfl⟩;rw[<-hx]at hcb hlow;have XX:=Lib.hid hx;have HBD:=Lib.hid hbd;have HBEL:=Lib.hid hbel;have HK:=Lib.hid hk;clear hx hbd hbel hk hsz1;rw[show ((k+1:Nat):Int)-1=k by omega];have hkL:k<L:=by have:=HK.out;have:=HL.out;omega
     have hsw:(C4 false z.natAbs (k+1)).length<=1+9*L+1:=by have:=Tr false z.natAbs (k+1);rw[<-HL.out]at this;exact this
     have hd9:=Kl hlow;have hdl:=decDigits_length x;have HSW:=Lib.hid hsw;have HDL:=Lib.hid hdl;have HD9:=Lib.hid hd9;clear hsw hdl hd9;by_cases htop:k+1=L
     ·have hkt:¬ ((k:Int)<(L:Int)-1):=oV
      have HTOP:=Lib.hid htop;clear htop
      go_wp2_with fail
      refine (Em x oV _ (Og HTAB.out HXW.out)).mono ?_;rintro e w2 ⟨rfl,hx2⟩;have HX2:=Lib.hid hx2;clear hx2;have hc2:=HX2.out.cell hc1;clear hc1 hcb
      go_wp2_with fail
      refine (C3 w1.heap.size w1.heap.size (byteCells (C4 false z.natAbs (k+1))) ⟨(decDigits x).toArray⟩ w2 (Ep HBD.out HX2.out) (by rw[byteCells_length,Lib.size_mk,HDL.out];have:=HSW.out;have:=HD9.out;omega) (by have:=HX2.out.size;omega)).mono ?_;rintro e w3 ⟨rfl,hb3,hbel3⟩;have htx:=Vq (neg:=false) (n:=z.natAbs) (k:=k) (by rw[<-HL.out];exact HTOP.out);rw[<-XX.out]at htx;rw[strCells_toArray,Db,<-htx]at hb3
      go_wp2_with fail
      refine⟨⟨k,by rw[<-HL.out];omega,by go_num,.inr hb3,Below.trans HBEL.out (Below.trans (Below.mono HX2.out oV) hbel3)⟩,by simp only[RowKit.intOf];omega⟩
     ·have hkt:(k:Int)<(L:Int)-1:=oV
      have HTOP:=Lib.hid htop;clear htop
      go_wp2_with fail
      refine (Em x oV _ (Og HTAB.out HXW.out)).mono ?_;rintro e w2 ⟨rfl,hx2⟩;have HX2:=Lib.hid hx2;clear hx2;have hc2:=HX2.out.cell hc1;clear hc1 hcb;have hsl:(⟨(decDigits x).toArray⟩:ByteArray).size=nDigits x:=by rw[Lib.size_mk];exact HDL.out
      go_wp2_with fail
      rw[show wrap64 (9-(nDigits x:Int))=((9-nDigits x:Nat):Int) by have:=HD9.out;unfold wrap64;omega];have hrep:=Tryz.strings_Repeat ⟨#[48]⟩ (9-nDigits x) w2 oV (by have:=HD9.out;simp[ByteArray.size];omega);refine hrep.mono ?_;rintro e w4 ⟨rfl,hx4⟩;have HX4:RowKit.Hid (Ext w2 w4):=Lib.hid hx4;clear hx4 hrep
      go_wp2_with fail
      refine (C3 w1.heap.size w1.heap.size (byteCells (C4 false z.natAbs (k+1))) ⟨(repeatL [48] (9-nDigits x)).toArray⟩ w4 (Ep (Ep HBD.out HX2.out) HX4.out) (by rw[byteCells_length,Lib.size_mk,G0,A1a];have:=HSW.out;omega) (by have:=HX2.out.size;have:=HX4.out.size;omega)).mono ?_;rintro e w5 ⟨rfl,hb5,hbel5⟩;rw[strCells_toArray,Db]at hb5
      go_wp2_with fail
      refine (C3 w1.heap.size w1.heap.size _ ⟨(decDigits x).toArray⟩ w5 (.inr hb5) (by rw[byteCells_length,Lib.size_mk,HDL.out,Ay3,G0,A1a];have:=HSW.out;have:=HD9.out;omega) (by have:=HX2.out.size;have:=HX4.out.size;have:=hbel5.size;omega)).mono ?_;rintro e w3 ⟨rfl,hb3,hbel3⟩;have htx:=Xb (neg:=false) (n:=z.natAbs) (k:=k) (by rw[<-HL.out];have:=HTOP.out;omega);rw[<-XX.out]at htx;rw[strCells_toArray,Db,Azm,<-htx]at hb3;have h6:=HX2.out.size
      go_wp2_with fail
      refine⟨⟨k,by rw[<-HL.out];omega,by go_num,.inr hb3,Below.trans HBEL.out (Below.trans (Below.mono HX2.out oV) (Below.trans (Below.mono HX4.out oV) (Below.trans hbel5 hbel3)))⟩,by simp only[RowKit.intOf];omega⟩
  ·go_enter func190,ntmps190
   go_wp2_with fail
   rw[<-HW1.out,<-HS1.out,show ((L:Int)==0)=false by rw[beq_eq_false_iff_ne];omega];refine (C3 w1.heap.size w1.heap.size [] ⟨#[45]⟩ _ HB0.out (by simp[ByteArray.size]) (by rw[Bz];omega)).mono ?_;rintro e w4 ⟨rfl,hb4,hbel4⟩;have HB4:RowKit.Hid (BuilderAt 291 5 w1.heap.size w1.heap.size (.pointer (some ⟨w1.heap.size,0,none⟩)) (byteCells [45]) w4):=Lib.hid hb4;have HBEL4:=Lib.hid hbel4;have hs4:=hbel4.size;rw[Bz]at hs4;have hc0:w4.cell? ⟨w.heap.size,1,none⟩=some (.slice a L c):=by
    have hsz1:w.heap.size<w1.heap.size:=by rw[HS1.out];omega
    rw[Below.cell hbel4 hsz1,Below.cell (Ext.alloc (Ext.refl w1) _) hsz1,HW1.out,World.cell?_alloc_new];rfl
   clear hb4 hbel4
   go_wp2_with fail
   go_loopw [4] (Ao7 (w1.alloc (Obj.cells #[Value.pointer none,Value.slice none 0 0] 291)) w1.heap.size true z.natAbs) (fun i _=>(RowKit.intOf i+1).toNat)
   case atStart=>exact⟨(Aa z.natAbs).length,Ay2 _,by rw[<-HL.out],by rw[Vz];exact .inr HB4.out,HBEL4.out⟩
   case round =>
    obtain⟨k,hk,rfl,hbd,hbel⟩:=hrel;have hsz0:=hbel.size;rw[Bz]at hsz0;have HXW:RowKit.Hid (Ext w wr):=Lib.hid (Ext.trans HX1.out (Below.trans (Ext.alloc (Ext.refl w1) (Obj.cells #[Value.pointer none,Value.slice none 0 0] 291)) hbel));rcases k with _|k
    ·have hne:C4 true z.natAbs 0≠[]:=by rw[HNEG.out,Mb z hz,Dw,Bl];split;simp;exact Ga _
     have HBD:=Lib.hid hbd;clear hbd
     go_wp2_with fail
     refine (Tryz.Builder_String w1.heap.size w1.heap.size (C4 true z.natAbs 0) wr HBD.out hne).mono ?_;rintro e w2 ⟨rfl,hb2⟩
     go_wp2_with fail
     go_ret
     refine⟨?_,Below.trans HXW.out ?_⟩
     ·rw[HNEG.out,Mb z hz];rfl
     ·exact Below.mono hb2 (by have:=HS1.out;omega)
    ·have hsz1:w.heap.size<w1.heap.size:=by rw[HS1.out];omega
     have hc1:wr.cell? ⟨w.heap.size,1,none⟩=some (.slice a L c):=by
      rw[Below.cell hbel hsz1,Below.cell (Ext.alloc (Ext.refl w1) _) hsz1,HW1.out,World.cell?_alloc_new];rfl
     obtain⟨ba,offa,rfl,hca⟩:=HROW.out.at (j:=k) oV;have hcb:=HXW.out.cell hca;clear hca;have hlow:(Aa z.natAbs).getD k 0<1000000000:=(An _).getD k;obtain⟨x,hx⟩:∃ x,x=(Aa z.natAbs).getD k 0:=⟨_,rfl⟩;rw[<-hx]at hcb hlow;have XX:=Lib.hid hx;have HBD:=Lib.hid hbd;have HBEL:=Lib.hid hbel;have HK:=Lib.hid hk;clear hx hbd hbel hk hsz1;rw[show ((k+1:Nat):Int)-1=k by omega];have hkL:k<L:=by have:=HK.out;have:=HL.out;omega
     have hsw:(C4 true z.natAbs (k+1)).length<=1+9*L+1:=by have:=Tr true z.natAbs (k+1);rw[<-HL.out]at this;exact this
     have hd9:=Kl hlow;have hdl:=decDigits_length x;have HSW:=Lib.hid hsw;have HDL:=Lib.hid hdl;have HD9:=Lib.hid hd9;clear hsw hdl hd9;by_cases htop:k+1=L
     ·have hkt:¬ ((k:Int)<(L:Int)-1):=oV
      have HTOP:=Lib.hid htop;clear htop
      go_wp2_with fail
      refine (Em x oV _ (Og HTAB.out HXW.out)).mono ?_;rintro e w2 ⟨rfl,hx2⟩;have HX2:=Lib.hid hx2;clear hx2;have hc2:=HX2.out.cell hc1;clear hc1 hcb
      go_wp2_with fail
      refine (C3 w1.heap.size w1.heap.size (byteCells (C4 true z.natAbs (k+1))) ⟨(decDigits x).toArray⟩ w2 (Ep HBD.out HX2.out) (by rw[byteCells_length,Lib.size_mk,HDL.out];have:=HSW.out;have:=HD9.out;omega) (by have:=HX2.out.size;omega)).mono ?_;rintro e w3 ⟨rfl,hb3,hbel3⟩;have htx:=Vq (neg:=true) (n:=z.natAbs) (k:=k) (by rw[<-HL.out];exact HTOP.out);rw[<-XX.out]at htx;rw[strCells_toArray,Db,<-htx]at hb3
      go_wp2_with fail
      refine⟨⟨k,by rw[<-HL.out];omega,by go_num,.inr hb3,Below.trans HBEL.out (Below.trans (Below.mono HX2.out oV) hbel3)⟩,by simp only[RowKit.intOf];omega⟩
     ·have hkt:(k:Int)<(L:Int)-1:=oV
      have HTOP:=Lib.hid htop;clear htop
      go_wp2_with fail
      refine (Em x oV _ (Og HTAB.out HXW.out)).mono ?_;rintro e w2 ⟨rfl,hx2⟩;have HX2:=Lib.hid hx2;clear hx2;have hc2:=HX2.out.cell hc1;clear hc1 hcb;have hsl:(⟨(decDigits x).toArray⟩:ByteArray).size=nDigits x:=by rw[Lib.size_mk];exact HDL.out
      go_wp2_with fail
      rw[show wrap64 (9-(nDigits x:Int))=((9-nDigits x:Nat):Int) by have:=HD9.out;unfold wrap64;omega];have hrep:=Tryz.strings_Repeat ⟨#[48]⟩ (9-nDigits x) w2 oV (by have:=HD9.out;simp[ByteArray.size];omega);refine hrep.mono ?_;rintro e w4 ⟨rfl,hx4⟩;have HX4:RowKit.Hid (Ext w2 w4):=Lib.hid hx4;clear hx4 hrep
      go_wp2_with fail
      refine (C3 w1.heap.size w1.heap.size (byteCells (C4 true z.natAbs (k+1))) ⟨(repeatL [48] (9-nDigits x)).toArray⟩ w4 (Ep (Ep HBD.out HX2.out) HX4.out) (by rw[byteCells_length,Lib.size_mk,G0,A1a];have:=HSW.out;omega) (by have:=HX2.out.size;have:=HX4.out.size;omega)).mono ?_;rintro e w5 ⟨rfl,hb5,hbel5⟩;rw[strCells_toArray,Db]at hb5
      go_wp2_with fail
      refine (C3 w1.heap.size w1.heap.size _ ⟨(decDigits x).toArray⟩ w5 (.inr hb5) (by rw[byteCells_length,Lib.size_mk,HDL.out,Ay3,G0,A1a];have:=HSW.out;have:=HD9.out;omega) (by have:=HX2.out.size;have:=HX4.out.size;have:=hbel5.size;omega)).mono ?_;rintro e w3 ⟨rfl,hb3,hbel3⟩;have htx:=Xb (neg:=true) (n:=z.natAbs) (k:=k) (by rw[<-HL.out];have:=HTOP.out;omega);rw[<-XX.out]at htx;rw[strCells_toArray,Db,Azm,<-htx]at hb3;have h6:=HX2.out.size
      go_wp2_with fail
      refine⟨⟨k,by rw[<-HL.out];omega,by go_num,.inr hb3,Below.trans HBEL.out (Below.trans (Below.mono HX2.out oV) (Below.trans (Below.mono HX4.out oV) (Below.trans hbel5 hbel3)))⟩,by simp only[RowKit.intOf];omega⟩
end
section
open Go.Shelf Go.RowKit Go.Sort Go.Lib
variable {l:List UInt8}
def Aml (g:Ii l):∀ (e:Nat),rdA e l<1000000000000000000->parseUintM 18446744073709551615 e l=.ok (rdA e l):=by
 induction l with
 |nil=>intro e _;rfl
 |cons b l ih =>
  intro e h;have n:=g b mV;have j:rdA e (b::l)=rdA (10*e+(b.toNat-48)) l:=rfl;rw[j]at h⊢;have m:10*e+(b.toNat-48)<=rdA (10*e+(b.toNat-48)) l:=by
   rw[Af3];have:1<=10^l.length:=Nat.one_le_pow _ _ oV;have:=A0n (10*e+(b.toNat-48)) this;omega
  have f:=ih (fun x t=>g x (by simp[t])) (10*e+(b.toNat-48)) h;rw[parseUintM,if_pos n,if_neg oV];rw[show 10*e+(b.toNat-48)=e*10+(b.toNat-48) by omega]at f h m⊢
  first
   |(rw[if_neg oV];exact f)
   |(simp only[];rw[if_neg oV];exact f)
def Ak1 (e:Ii l)(g:l≠[])(f:l.length<=9):parseUintB 64 l=.ok (rd l):=by
 rw[parseUintB,if_neg g];refine Aml e 0 ?_;have h:=Y7 e;have j:10^l.length<=10^9:=Azr oV f;have m:rdA 0 l=rd l:=rfl;omega
def Kh {neg:Bool}(f:Ii l)(g:l≠[]):trimPrefix (Bl neg l) [45]=l/\hasPrefix (Bl neg l) [45]=neg:=by
 cases neg
 ·cases l with
  |nil=>exact absurd rfl g
  |cons b l =>
   have e:=f b mV;have:¬ (45:UInt8)=b:=by rintro rfl;simp at e
   simp[Bl,trimPrefix,hasPrefix,List.isPrefixOf,this]
 simp[Bl,trimPrefix,hasPrefix,List.isPrefixOf]
def Aeq {w:World}{B:Nat}{e:TypeId}{a:Option Addr}{n c:Nat}{xs:List Value}(h:w.ownsRow B e 1 (.slice a n c) n xs)(A:xs.length=n):Row w a xs:=by
 intro j u;rcases h.2 with ⟨f,t⟩|⟨g,cap,m,f,t⟩
 ·omega
 simp only[Value.slice.injEq]at f;obtain⟨rfl,_,rfl⟩:=f;refine⟨g,0,rfl,?_⟩;have:=h.cells (g:=g) rfl j (xs.getD j (.bool false)) (by rw[Ays,Ayr u];rfl);rw[Lib.add_plain]at this;exact this
def Vm (w:World)(e:TypeId)(s:ByteArray):Ext w (bytesWorld w e s):=bytesWorld_below w e s
def Arj (W0:World)(B:Nat)(l:List UInt8)(v i:Value)(wr:World):Prop :=
 ∃ (e:Int) (ys:List Nat),e<=l.length/\i=.int .i64 e/\-9<e/\ys.length+e.toNat<=l.length/\Sa (rd l) (l.take e.toNat) ys/\wr.ownsRow B 254 1 v ys.length (Be ys)/\Below B W0 wr
def Ap4:(prog.info? 254).map (fun i=>(i.zero,i.size,i.bytes))=some (some (.int .u64 0),1,8):=kV
set_option maxRecDepth 100000 in
def Add (neg:Bool)(l:List UInt8)(w:World)(hd:Ii l)(hl:l≠[])(aq:l.length<=1000000000) :
 Calls prog 119 #[.string ⟨(Bl neg l).toArray⟩] w (Abk w (B6 neg (rd l))):=by
 obtain⟨i0,hi,an,ao,ap⟩:=info_parts Ap4;obtain⟨a9,aa⟩:=Kh (neg:=neg) hd hl;have HD:=Lib.hid hd;have HL:=Lib.hid hl;clear hd hl;obtain⟨w1,X⟩:∃ w1,w1=w.alloc (Obj.cells #[Value.bool false,Value.slice none 0 0] 116):=⟨_,rfl⟩;have a6:w1.heap.size=w.heap.size+1:=by rw[X];exact Bz _ _
 have P:=Lib.hid X;have ae:=Lib.hid a6;clear X a6
 go_enter func119,ntmps119
 go_wp2_with fail
 rw[<-P.out];refine (Tryz.strings_CutPrefix ⟨(Bl neg l).toArray⟩ ⟨#[45]⟩ w1).mono ?_;rintro e Z ⟨rfl,rfl⟩;rw[show trimPrefix (⟨(Bl neg l).toArray⟩:ByteArray).data.toList (⟨#[45]⟩:ByteArray).data.toList=l from a9,show hasPrefix (⟨(Bl neg l).toArray⟩:ByteArray).data.toList (⟨#[45]⟩:ByteArray).data.toList=neg from aa];clear a9 aa
 go_wp2_with fail
 go_loopw [5,6] (Arj Z Z.heap.size l) (fun _ i _=>(RowKit.intOf i+9).toNat)
 case atStart=>exact⟨l.length,[],oV,mV,oV,mV,⟨Low.nil,by simpa using HD.out,by simp[val]⟩,⟨rfl,.inl ⟨rfl,rfl⟩⟩,Below.refl _ _⟩
 case round =>
  obtain⟨e,ys,he,rfl,av,aw,a8,D,A⟩:=hrel;obtain⟨a,n,c,rfl⟩:∃ a n c,u5=.slice a n c:=by
   rcases D.2 with ⟨F,h2⟩|⟨g,cap,ah,F,h2⟩
   ·exact⟨_,_,_,F⟩
   exact⟨_,_,_,F⟩
  have N:=Lib.hid a8;have f:=Lib.hid D;have t:=Lib.hid A;have az:=A.size;clear a8 D A;by_cases h0:0<e
  ·obtain⟨E,rfl⟩:∃ E:Nat,e=E:=⟨e.toNat,oV⟩;have ai:E<=l.length:=oV;have au:0<E:=oV;have ax:max (0:Int) ((E:Int)-9)=((E-9:Nat):Int):=oV;have ay:∀ W,(Instr.sliceAt 9 (.string ⟨l.toArray⟩) (some (.int .i64 (E-9:Nat))) (some (.int .i64 E)) none).run prog W=.ok (.string ⟨((l.take E).drop (E-9)).toArray⟩) W:=by
    intro W;have F:(0:Int)<=((E-9:Nat):Int)/\((E-9:Nat):Int)<=(E:Int):=oV;have h2:(0:Int)<=(E:Int)/\(E:Int)<=(⟨l.toArray⟩:ByteArray).size:=by rw[Lib.size_mk];omega
    have h3:(⟨l.toArray⟩:ByteArray).extract (E-9) E=⟨((l.take E).drop (E-9)).toArray⟩:=by
     rw[Lib.extract_mk,List.drop_take]
    simp only[Instr.sliceAt,Sem.run_bind,run_underlying Tryz.underlying9,Result.andThen_ok,Instr.slice,Instr.sliceBounds,Instr.sliceBound,asIntOf,Sem.run_pure,if_true,Option.isSome,Sem.run_ite,F,h2,and_self,A0y];simp[h3]
   have R:Ii ((l.take E).drop (E-9)):=(HD.out.take E).drop (E-9);have U:((l.take E).drop (E-9)).length<=9:=gV;have a2:(l.take E).drop (E-9)≠[]:=by intro h;have:=congrArg List.length h;simp at this;omega
   have a4:=Y7 R;have al:rd ((l.take E).drop (E-9))<1000000000:=A0k a4 (by rw[show (1000000000:Nat)=10^9 from rfl];exact Azr oV U);have m:=N.out.step;rw[show (l.take ((E:Int)).toNat)=l.take E from rfl,Ay1,A2b ai]at m;have a3:=Tryz.strconv_ParseUint_10_at64_ok ⟨((l.take E).drop (E-9)).toArray⟩ (by rw[Lib.size_mk];omega) (rd ((l.take E).drop (E-9))) (Ak1 R a2 U) wr;have ad:=Lib.hid a3;have O:=Lib.hid m;clear a3 m a4 R a2 U
   go_wp2_with fail
   obtain⟨d,C⟩:∃ d,d=rd ((l.take E).drop (E-9)):=⟨_,rfl⟩;rw[<-C]at al;have H:=Lib.hid C;clear C;refine ad.out.mono ?_;rintro e w3 ⟨rfl,ab⟩;rw[<-H.out];have Q:RowKit.Hid (Ext wr w3):=Lib.hid (by
    rcases ab with rfl|rfl
    ·exact Ext.refl _
    exact Vm _ _ _)
   clear ab;have ar:=Q.out.size
   go_wp2_with (at_builtin;refine wpList_append_own _ rfl _ _ 114 rfl Z.heap.size 254 i0 (.int .u64 0) 1 8 Tryz.underlying114 hi an ao ap rfl fV _ _ _ rfl ((T2 f.out Q.out).alloc _) ⟨w3.heap.size,0,none⟩ 1 1 [.int .u64 (d:Int)] rfl rfl ?c1 ?c2 ?c3 ?c4 ?c5 ?_)
   case c1 =>
    intro j u hj
    match j,hj with
    |0,hj=>simp at hj;subst hj;simp[Addr.add]
   case c2=>intro u hu;simp at hu;subst hu;rfl
   case c3=>unfold maxLen;omega
   case c4=>omega
   case c5=>simp;omega
   intro v' w4 V T _
   go_wp2_with fail
   refine⟨⟨(E:Int)-9,ys++[d],oV,by go_num,oV,gV,?_,by simpa[Be] using V,?_⟩,by simp only[RowKit.intOf];omega⟩
   ·rw[H.out,show (l.take ((E:Int)-9).toNat)=(l.take E).take (E-9) by rw[List.take_take];congr 1;omega];exact O.out
   have h5:Below Z.heap.size wr w3:=Below.mono Q.out oV;exact (((t.out.trans h5).alloc oV _).grown T gV (fun k hk=>(f.out.lt k hk).1))
  have aj:=f.out.1;have L:val ys=rd l:=by
   have:=N.out.sum;rw[show e.toNat=0 by omega]at this;simpa[rd,rdA] using this.symm
  obtain⟨rfl,J⟩:n=ys.length/\ys.length<=c:=by
   rcases f.out.2 with ⟨F,h2⟩|⟨g,cap,ah,F,h2,h3,h4,_⟩
   ·simp at F;omega
   simp at F;obtain⟨_,rfl,rfl⟩:=F;exact⟨rfl,h4⟩
  have K:=Aeq f.out mV;have I:=Lib.hid K;have a0:=Lib.hid L;clear K L aj
  go_wp2_with fail
  refine (Gr a c ys.length ys wr rfl oV J I.out).mono ?_;rintro e w' ⟨rfl,am⟩;subst am
  go_wp2_with fail
  refine (Ag9 neg _ (rd l) wr (Dt N.out.low I.out a0.out J) (Ayv (Bc (k:=l.length) (A0k (Y7 HD.out) (by rw[Agd];exact Azr oV oV))) oV)).mono ?_;rintro e w5 ⟨v5,rfl,⟨a5,n5,c5,rfl,a7⟩,ac⟩;have a1:=Lib.hid ac;have af:=Lib.hid a7;have ak:w.heap.size<Z.heap.size:=by rw[ae.out];omega
  have Y:RowKit.Hid (w5.heap[w.heap.size]?=some (.cells #[.bool false,.slice none 0 0] 116 (0,0))):=Lib.hid (by
   rw[Below.block a1.out _ oV,t.out.block _ ak,P.out,Cf])
  have d0:=As6 Y.out;have d1:=Arm Y.out;have f0:=frozen_of_row _ _ 0 _ _ Y.out;have f1:=frozen_of_row _ _ 1 _ _ Y.out;clear a7 ac
  go_wp2_with fail
  have ag:Ext w w5:=by
   refine Ext.trans (b:=Z) (by rw[P.out];exact Ext.alloc (Ext.refl w) _) ?_;exact Below.trans t.out (Below.mono a1.out oV)
  refine Aak rfl rfl (Aom Y.out) rfl ⟨_,rfl,?_,Ax7 ag (Ay2 _) _ _⟩;have hs:=af.out.grown (Ase Y.out) (Auz _ _ (.bool (decide (B6 neg (rd l)<0))) (.slice a5 n5 c5));exact Arc rfl hs
end
section
variable {q:Rat}{z:Int}
def Js (u:PH):Prop:=∀ w,E5 u w->Lib.TabIs prog w "internal/strconv.uint64pow10" .u64 Lib.pow10Tab
def Js.mono {u u':PH}(h:Js u)(hl:PH.le u u'):Js u':=fun w hp=>h w (fun g o hg=>hp g o (hl g o hg))
section
variable {u:PH} {x:Value}
def Acy {k:Nat}(g:Js u)(f:k<18446744073709551616):Fn0 prog 189 [.int .u64 (k:Int),.int .i64 10] u fun v _=>v=.string (mkS (Lib.decDigits k)) :=
 Fn0.ofW (fun v _=>v=.string (mkS (Lib.decDigits k))) (fun w hp=>(Em k f w (g w hp)).mono fun _ _ ⟨e,h⟩=>⟨_,e,rfl,h⟩) (fun _ _ _ h _ _ _=>h)
def Jo (h:Lib.nDigits z.natAbs<=400):Fn0 prog 119 [.string (mkS (Lib.itoa z))] u fun v e=>Bq e v z:=by
 refine Fn0.ofW (fun v w=>Rn w v z) (fun w _=>?_) (fun _ _ _ h _ c _=>Bq.ofW h c);have:=Add (decide (z<0)) (Lib.decDigits z.natAbs) w (Mv _) (Ga _) (by rw[Lib.decDigits_length];omega);rw[Zu,<-Dw]at this;exact this
def Pu (g:Js u)(h:Bq u x z)(f:nl z.natAbs<=100000000000):Fn0 prog 190 [x] u fun v _=>v=.string (mkS (Lib.itoa z)) :=
 Fn0.ofW (fun v _=>v=.string (mkS (Lib.itoa z))) (fun w hp=>(Yg x z w (h.toW hp) f (g w hp)).mono fun _ _ ⟨e,h⟩=>⟨_,e,rfl,h⟩) (fun _ _ _ h _ _ _=>h)
end
def C6.at {u:PH}{a:Option Addr}{n c k j:Nat}(h:C6 u (.slice a n c) k)(g:j<(Aa k).length):∃ b off,a=some ⟨b,off,none⟩/\ElP u b (off+j*1) (.int .u64 ((Aa k).getD j 0:Nat)):=by
 obtain⟨C,D,f,E,t⟩:=h;simp only[Value.slice.injEq]at f;obtain⟨rfl,_,rfl⟩:=f;obtain⟨b,off,m,e⟩:=t j (by simpa using g);refine⟨b,off,m,fun i y hi=>?_⟩;have A:(Be (Aa k)).getD j (.bool false)=.int .u64 ((Aa k).getD j 0:Nat):=by simp[Be,g]
 rw[A]at e;have:i=0/\y=.int .u64 ((Aa k).getD j 0:Nat):=by
  match i,hi with
  |0,hi=>simp[Value.cells]at hi;simp[hi]
 obtain⟨rfl,rfl⟩:=this;simpa using e
def Md {u:PH}{x:Value}(H:Js u)(h:Bq u x z)(D:nl z.natAbs<=100000000000):Fn0 prog 120 [x] u fun v _=>v=.int .i64 (Lib.nDigits z.natAbs:Nat):=by
 obtain⟨a,n,c,rfl,m⟩:=h;obtain rfl:n=(Aa z.natAbs).length:=by obtain⟨_,_,g,_⟩:=id m;simp at g;exact g.2.1
 generalize decide (z<0)=b;have E:(Aa z.natAbs).length<=100000000000:=D;refine Fn0.o func120 ?_;by_cases h0:z.natAbs=0
 ·exact G.eT' ((Aa z.natAbs).length:Int) 0 (by rw[h0,Bd];rfl)<|G.r (.int .i64 1) ⟨rfl,by rw[h0,Lib.nDigits_small oV];rfl⟩
 have hp:0<(Aa z.natAbs).length:=Cz.2 oV;have t:=Tm h0;have e:=(An z.natAbs).getD ((Aa z.natAbs).length-1);obtain⟨f,off,rfl,C⟩:=m.at (j:=(Aa z.natAbs).length-1) oV;have I:=Kl e;have A:=Lib.decDigits_length ((Aa z.natAbs).getD ((Aa z.natAbs).length-1) 0);have F:(mkS (Lib.decDigits ((Aa z.natAbs).getD ((Aa z.natAbs).length-1) 0))).size=(Lib.decDigits ((Aa z.natAbs).getD ((Aa z.natAbs).length-1) 0)).length:=Go.Lib.size_mk _;refine G.eF ((Aa z.natAbs).length:Int) 0<|G.s ((Aa z.natAbs).length:Int) 1 (((Aa z.natAbs).length-1:Nat):Int)<|G.mul 9 (((Aa z.natAbs).length-1:Nat):Int) ((9*((Aa z.natAbs).length-1):Nat):Int) kV oV oV oV<|G.a f off (Aa z.natAbs).length c ((Aa z.natAbs).length-1) 1 oV<|G.lU none f (off+((Aa z.natAbs).length-1)*1) (.int .u64 ((Aa z.natAbs).getD ((Aa z.natAbs).length-1) 0:Nat)) C<|G.c call189 (Acy (k:=(Aa z.natAbs).getD ((Aa z.natAbs).length-1) 0) H oV) ?_;rintro L K J rfl;exact G.p ((9*((Aa z.natAbs).length-1):Nat):Int) ((Lib.decDigits ((Aa z.natAbs).getD ((Aa z.natAbs).length-1) 0)).length:Int) ((Lib.nDigits z.natAbs:Nat):Int)<|G.r _ ⟨rfl,rfl⟩
def Aqj {u:PH}{x:Value}(j:Js u)(f:Ax u x q)(h:Tx q):Fn0 prog 121 [x] u fun v _=>v=.string (mkS (Ae q)):=by
 obtain⟨b,a,n,c,b',C,I,D,rfl⟩:=f.opn;have m:=Ayv (Bi h.2) (show 400<=4000000000000 by omega);refine Fn0.o func121<|G.c call113 (Jr f m) ?_;rintro L J e rfl;by_cases g:q.den=1
 ·rw[decide_eq_true g];refine G.c call190 (Pu (j.mono e) (f.num.mono e) (Ayv (Bi h.1) oV)) ?_;rintro A t l2 rfl;exact G.r (.string (mkS (Lib.itoa q.num))) ⟨rfl,by rw[Ae,if_pos g]⟩
 rw[decide_eq_false g];refine G.c call190 (Pu (j.mono e) (f.num.mono e) (Ayv (Bi h.1) oV)) ?_;rintro A t l2 rfl;have E:=F2 h.1;have F:=F2 h.den;refine G.addS (Lib.itoa q.num) [47] kV gV<|G.c call190 (Pu (j.mono (e.trans l2)) (f.den.mono (e.trans l2)) (Ayv (Bi h.den) oV)) ?_;rintro N K H rfl;exact G.addS (Lib.itoa q.num++[47]) (Lib.itoa (q.den:Int)) kV gV<|G.r (.string (mkS (Lib.itoa q.num++[47]++Lib.itoa (q.den:Int)))) ⟨rfl,by rw[Ae,if_neg g];simp⟩
def O1 {u:PH}{x:Value}(g:Js u)(e:Ax u x q)(h:Tx q):Fn0 prog 56 [x] u fun v _=>v=.tuple #[.string (mkS (Ae q)),.int .i64 0]:=by
 obtain⟨b,a,n,c,b',j,E,m,rfl⟩:=e.opn;have A:=h.2;have t:=h.1;refine Fn0.o func56<|G.c call120 (Md g e.num (Ayv (Bi h.1) oV)) ?_;rintro J F f rfl;refine G.gF (Lib.nDigits q.num.natAbs:Nat) 400<|G.c call120 (Md (g.mono f) (e.den.mono f) (Ayv (Bi h.den) oV)) ?_;rintro K H l2 rfl;have C:=h.den;refine G.gF ((Lib.nDigits ((q.den:Int)).natAbs:Nat):Int) 400<|G.c call121 (Aqj (g.mono (f.trans l2)) (e.mono (f.trans l2)) h) ?_;rintro L I D rfl;exact G.r _ ⟨rfl,rfl⟩
end
end Go.Proofs.YtijchbjkdllolaaGreatDoor
