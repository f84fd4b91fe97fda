import Derived.Test.YtemmheaocgmebaaGreatDoorV04
import Derived.Shelf.Strings.Builder1
import Derived.Shelf.Strings.Builder2
import Derived.Shelf.Small.Bits
import Derived.Shelf.Small.Wraps
import Derived.Shelf.Strings.BuilderF
import Derived.Shelf.Strings.BuilderK
import Derived.Shelf.Strings.Builder2Cap
import Derived.Shelf.Strconv.Itoa0
import Derived.Shelf.Strconv.Itoa1
import Derived.Shelf.LaysM
import Derived.Shelf.Strconv.Itoa2
import Derived.Shelf.Strconv.Itoa3
import Derived.Shelf.Strconv.Lower
import Derived.Shelf.Strconv.ParseUint10
import Derived.Shelf.Strconv.ParseUintEmpty
import Derived.Shelf.Strconv.ParseUint10b64
import Derived.Shelf.Strconv.ParseUint10b32
import Derived.Shelf.Strconv.ParseUint10b16
import Derived.Shelf.Strconv.ParseUint10b8
import Derived.Shelf.Strconv.ParseUint10At
import Derived.Ground.MpProg
import Derived.Shelf.Pu.ParseUintPublic10
import Derived.Shelf.Strings.Search1
import Derived.Shelf.Strings.Search2
import Derived.Shelf.Strings.Cut
import Derived.Shelf.Strings.Shaped
import Derived.Shelf.Strings.Prefix
import Derived.Shelf.Bits.Mul64
import Derived.Shelf.Strings.Repeat
import Derived.Shelf.Strings.BuilderCap
set_option linter.defProp false
set_option linter.unusedVariables false
set_option linter.unusedSimpArgs false
set_option linter.unusedSectionVars false
set_option maxHeartbeats 16000000
namespace Go.Proofs.YtemmheaocgmebaaGreatDoor
open Go.Proofs.Tryz
open Go.RowKit
def A8n:=@List.set_append_left
def A90:=@List.replicate_succ'
def A5q:=@Int.lt_or_le
def A7k:=@Int.neg_tdiv
def A5k:=@Int.natCast_ediv
def A9r:=@Nat.mul_div_le
def A8o:=@Int.natAbs_tdiv
def Bae:=@Rat.sub_eq_add_neg
def A5d:=@List.range_succ
def A9s:=@List.getElem?_reverse
def A45:=@Nat.div_div_eq_div_mul
def A66:=@Nat.pow_pos
def A7l:=@Nat.pow_lt_pow_iff_right
def A1z:=@List.getElem?_set
def A1a:=@List.getElem?_map
def Ba5:=@Nat.div_one
def A8q:=@List.reverse_append
def A8p:=@UInt8.toNat_inj
section
variable {j:Nat}{l:zK}
def Lj (l:zK)(j n:Nat):(Ai l).set j (zI n)=Ai (l.set j n):=by simp[Ai,A2g]
def Abi (h:j<l.length):(Ai l)[j]?=some (zI (l.getD j 0:Nat)):=by simp[Ai,h]
def Ut (n:Nat):List.replicate n zO=Ai (List.replicate n 0):=by simp[Ai]
def Afz (h:j<l.length)(r:zK):(l++r).getD j 0=l.getD j 0:=by
 rw[A02,A02,A1r h]
def Akg (h:j<l.length)(r:zK)(d:Nat):(l++r).set j d=l.set j d++r:=A8n _ _ h
def Apa (h:j<l.length)(h0:l.getD j 0=0):l.set j 0=l:=by
 refine A4g fun i=>?_;by_cases hi:j=i
 ·subst hi;rw[A44 h,A01 h];rw[A02,A01 h]at h0;simpa using h0.symm
 rw[A9z hi]
def Azs (la lb:zK)(i k:Nat)(o:zK)(c:Nat):Prop:=(k<=lb.length/\Gt la lb i k o c)\/(k=lb.length+1/\c=0/\Gt la lb (i+1) 0 o 0)
def Gg {u:PH}{x x':Value}{y z:Int}(hx:Do u x y)(a6:Do u x' z)(sy:nl y.natAbs<=1000000000000)(sz:nl z.natAbs<=1000000000000):zF 74 [x,x'] u fun v u'=>Do u' v (y*z):=by
 obtain⟨b,a,n,c,rfl,hb,hi⟩:=hx.opn;obtain⟨b',a',n',c',rfl,a1,X⟩:=a6.opn;obtain⟨rfl,_⟩:=hi.len;obtain⟨rfl,_⟩:=X.len;have Y:=Ao y.natAbs;have Q:=Ao z.natAbs;have ac:(Aa y.natAbs).length<=1000000000000:=sy;have ad:(Aa z.natAbs).length<=1000000000000:=sz;have P:∀ l:zK,Low l->val l=y.natAbs*z.natAbs->Cd (!(b==b')) (val l)=y*z:=by
  intro l _ hv;rw[hv,hb,a1];exact Adx y z
 have a3:=Am y.natAbs;have a4:=Am z.natAbs;rw[<-a3,<-a4]at P;generalize Aa y.natAbs=la at *
 generalize Aa z.natAbs=lb at *
 refine Fn0.o func74<|G.p la.length lb.length (la.length+lb.length:Nat)<|G.p (la.length+lb.length:Nat) 1 (la.length+lb.length+1:Nat)<|G.make 3 1 8 zO (la.length+lb.length+1) kV rfl rfl oV oV oV ?_;intro vo m1 C _;rw[Ut]at C;obtain⟨L,K,rfl⟩:=C.ptr (by intro e;have:=congrArg List.length e;rw[Ak,A3k,A30]at this;omega);rw[Ak,A3k]at C⊢;rw[show List.replicate (la.length+lb.length+1) 0=List.replicate (la.length+lb.length) 0++[0] from A90 ..]at C;refine G.l (ι:=Nat×zK) (fun i=>[(2,.p 0 0),(3,.p 1 0),(4,.p 2 0),(5,sV (zA L) (la.length+lb.length+1) K),(6,iV i.1)])
  (fun _=>[(0,⟨67,[bV b,sV a la.length c]⟩),(1,⟨67,[bV b',sV a' lb.length c']⟩),(2,⟨67,[bF,sN]⟩)])
  (fun i _ W=>i.1<=la.length/\Gt la lb i.1 0 i.2 0/\Af PH.mt W (zG L (la.length+lb.length+1) K) 3 1 (Ai (i.2++[0]))) (fun i=>la.length-i.1) (0,List.replicate (la.length+lb.length) 0)
  ⟨mV,Gt.start _ _,C⟩ ?_
 clear C m1;rintro J ⟨i,o⟩ hJ u' W V ⟨hk,f,C⟩;simp only at hk f C hJ;by_cases I:i<la.length
 ·refine G.lT i la.length ?_;obtain⟨ba,oa,rfl,ea⟩:=(hi.mono V).at (j:=i) I;have a7:=Y.getD i;refine G.l (ι:=Nat×zK×Nat) (fun q=>[(2,.p 0 0),(3,.p 1 0),(4,.p 2 0),(5,sV (zA L) (la.length+lb.length+1) K),(6,iV i),(7,iV q.2.2),(8,iV q.1)])
   (fun _=>[(0,⟨67,[bV b,sV (some ⟨ba,oa,none⟩) la.length c]⟩),(1,⟨67,[bV b',sV a' lb.length c']⟩),(2,⟨67,[bF,sN]⟩)])
   (fun q _ W=>Azs la lb i q.1 q.2.1 q.2.2/\Af PH.mt W (zG L (la.length+lb.length+1) K) 3 1 (Ai (q.2.1++[0]))) (fun q=>lb.length+1-q.1) (0,o,0)
   ⟨.inl ⟨mV,f⟩,C⟩ ?_
  clear C f W;rintro J2 ⟨k,o,A⟩ T u2 W E ⟨F,C⟩;simp only at F C T;have a2:o.length=la.length+lb.length:=by rcases F with ⟨_,h⟩|⟨_,_,h⟩<;>exact h.len
  have aa:A<1000000000:=by rcases F with ⟨_,h⟩|⟨_,h,_⟩;exact h.carry;omega
  have ab:=(show Low o by rcases F with ⟨_,h⟩|⟨_,_,h⟩<;>exact h.low).getD (i+k)
  by_cases U:k<lb.length
  ·have f:Gt la lb i k o A:=by rcases F with ⟨_,h⟩|⟨h,_⟩;exact h;omega
   obtain⟨bb,ob,rfl,eb⟩:=(X.mono (V.trans E)).at (j:=k) U;have a8:=Q.getD k;have D:i+k<(o++[0]).length:=gV;refine G.lT k lb.length<|G.p i k (i+k:Nat)<|G.o (la.length+lb.length+1) K (C.el (Abi D)) ?_;rw[Afz oV];refine G.p A (o.getD (i+k) 0:Nat) ((A+o.getD (i+k) 0:Nat):Int)<|G.lT k lb.length<|G.N la.length c I (ea.mono E)<|G.N lb.length c' U eb ?_;have hp:la.getD i 0*lb.getD k 0<=999999999*999999999:=A25 oV oV;refine G.mul (la.getD i 0:Nat) (lb.getD k 0:Nat) ((la.getD i 0*lb.getD k 0:Nat):Int) kV (A4d _ _).symm oV oV ?_;obtain⟨t,ht⟩:∃ t,t=o.getD (i+k) 0+la.getD i 0*lb.getD k 0+A:=⟨_,rfl⟩;refine G.p ((A+o.getD (i+k) 0:Nat):Int) ((la.getD i 0*lb.getD k 0:Nat):Int) (t:Int)<|G.p i k (i+k:Nat)<|G.rem (t:Int) 1000000000 ((t%1000000000:Nat):Int) kV oV oV oV oV<|G.a L 0 (la.length+lb.length+1) K (i+k) 1 oV<|G.storeA 1 PH.mt _ L (la.length+lb.length+1) K (i+k) (zI (t%1000000000:Nat)) kV C (by rw[Ak];exact D) rfl rfl ?_;intro m2 H;rw[Lj,Akg oV]at H;exact G.quo (t:Int) 1000000000 ((t/1000000000:Nat):Int) kV oV oV oV oV<|G.i k<|G.b (T (k+1,o.set (i+k) (t%1000000000),t/1000000000) _ _ _ cV E ⟨.inl ⟨oV,f.step Y Q U I rfl rfl rfl ht⟩,H⟩ dV)
  refine G.lF k lb.length ?_;by_cases a9:0<A
  ·have f:Gt la lb i lb.length o A/\k=lb.length:=by
    rcases F with ⟨h1,h⟩|⟨_,h,_⟩
    ·obtain rfl:k=lb.length:=oV;exact⟨h,rfl⟩
    omega
   obtain⟨f,rfl⟩:=f;obtain⟨a0,m⟩:=f.next I;have D:i+lb.length<(o++[0]).length:=gV;refine G.gT A 0<|G.p i lb.length (i+lb.length:Nat)<|G.o (la.length+lb.length+1) K (C.el (Abi D)) ?_;rw[Afz oV];refine G.p A (o.getD (i+lb.length) 0:Nat) (A:Int)<|G.lF lb.length lb.length<|G.p i lb.length (i+lb.length:Nat)<|G.rem (A:Int) 1000000000 (A:Int) kV oV oV oV oV<|G.a L 0 (la.length+lb.length+1) K (i+lb.length) 1 oV<|G.storeA 1 PH.mt _ L (la.length+lb.length+1) K (i+lb.length) (zI A) kV C (by rw[Ak];exact D) rfl rfl ?_;intro m2 H;rw[Lj,Akg oV]at H;exact G.quo (A:Int) 1000000000 0 kV oV oV oV oV<|G.p lb.length 1 (lb.length+1:Nat)<|G.b (T (lb.length+1,o.set (i+lb.length) A,0) _ _ _ cV E ⟨.inr ⟨rfl,rfl,m⟩,H⟩ dV)
  refine G.gF A 0 ?_;have f:Gt la lb (i+1) 0 o 0:=by
   rcases F with ⟨h1,h⟩|⟨_,_,h⟩
   ·obtain rfl:k=lb.length:=oV;obtain rfl:A=0:=oV;obtain⟨a0,m⟩:=h.next I;rw[Apa oV a0]at m;exact m
   exact h
  exact G.i i<|G.b (hJ (i+1,o) _ _ _ cV (V.trans E) ⟨oV,f,C⟩ dV)
 obtain rfl:i=la.length:=oV;refine G.lF la.length la.length<|G.give PH.mt (Ai (o++[0])) _ kV C (fun _=>.inl rfl) ?_;intro u1 l1 hL;have R:Low (o++[0]):=f.low.append (Low.cons oV Low.nil);have Z:val (o++[0])=val la*val lb:=by rw[Ki,A3z,A3s];exact f.done
 have a2:=f.len;refine G.neB b b' kV<|G.c call149 (Ec (b:=!(b==b')) hL R gV) ?_;intro v2 u2 l2 h5;rw[P _ R Z]at h5;obtain⟨b5,a5,n5,c5,rfl,_,_⟩:=h5.opn;exact G.r (.agg #[.bool b5,.slice a5 n5 c5]) ⟨rfl,h5⟩
end
section
variable {R Y c k n:Nat}{a ys:zK}
structure Je (a:zK)(n k:Nat)(ys:zK)(c:Nat):Prop where
 len:ys.length=k
 low:Low ys
 carry:c<1000000000
 sum:val ys+1000000000^k*c=val (a.take k)*n
def Je.start (a:zK)(n:Nat):Je a n 0 [] 0:=⟨rfl,Low.nil,oV,by simp[val]⟩
def Je.step {n k c t:Nat}(h:Je a n k ys c)(e:Low a)(u:n<1000000000)(f:t=c+a.getD k 0*n):Je a n (k+1) (ys++[t%1000000000]) (t/1000000000):=by
 have j:=e.getD k;have m:=h.carry;have hp:a.getD k 0*n<=999999999*999999999:=A25 oV oV;refine⟨by simp[h.len],h.low.append (Low.cons oV Low.nil),oV,?_⟩;rw[Ki,A5,h.len,A2d,A3p,Is,A16];have:=h.sum;rw[f,A2o,<-A3p,this,A17]
def Je.over (h:Je a n k ys c)(f:¬ k<a.length)(e:c=0):val ys=val a*n:=by
 have:=h.sum;rw[A1j oV,e]at this;simpa using this
structure Uv (lx:zK)(Y k:Nat)(qs:zK)(R:Nat):Prop where
 len:qs.length=lx.length
 low:Low qs
 quo:val (qs.drop k)=val (lx.drop k)/Y
 rest:R=val (lx.drop k)%Y
def Uv.start (e:zK)(Y:Nat):Uv e Y e.length (List.replicate e.length 0) 0:=by
 refine⟨mV,Low.zeros _,?_,?_⟩
 ·rw[A2b mV,A2b oV];simp[val]
 rw[A2b oV];simp[val]
def Z9 {R Y x:Nat}(e:R<Y)(f:x<1000000000):(x+1000000000*R)/Y<1000000000:=by
 rw[A3b oV];have:1000000000*(R+1)<=1000000000*Y:=A2h _ e;omega
def Uv.step {e f:zK}(h:Uv e Y (k+1) f R)(F:Low e)(D:k<e.length)(m:0<Y) :
 Uv e Y k (f.set k ((e.getD k 0+1000000000*R)/Y)) ((e.getD k 0+1000000000*R)%Y):=by
 have C:R<Y:=by rw[h.rest];exact A29 _ m
 have E:=h.len;have t:(f.set k ((e.getD k 0+1000000000*R)/Y)).drop k=(e.getD k 0+1000000000*R)/Y::f.drop (k+1):=by
  rw[Cs _ k gV,A67 oV]
  congr 1
  rw[A02,A44 oV];rfl
 have u:=Cs e k D;have j:val (e.drop k)=e.getD k 0+1000000000*R+Y*(1000000000*(val (e.drop (k+1))/Y)):=by
  rw[u];simp only[val];have:=A3h (val (e.drop (k+1))) Y;rw[<-h.rest]at this;have A:1000000000*val (e.drop (k+1))=1000000000*(Y*(val (e.drop (k+1))/Y))+1000000000*R:=by rw[<-A2o,this]
  rw[A,Nat.mul_left_comm Y 1000000000];omega
 refine⟨by simpa using E,h.low.set _ (Z9 C (F.getD k)),?_,?_⟩
 ·rw[t,j,Nat.add_mul_div_left _ _ m];simp only[val];rw[h.quo]
 rw[j,Nat.add_mul_mod_self_left]
def Auz {Y R y1 p u e t:Nat}(F:Y=y1*p+u)(D:u<p)(f:0<y1)(E:R=e*p+t)(C:t<p):e/(y1+1)<=R/Y/\R/Y<=e/y1:=by
 have hp:0<p:=oV;have h:0<Y:=by have:=A51 f hp;omega
 constructor
 ·rw[A4u h];have j:Y<=(y1+1)*p:=by rw[A16];omega
  have m:e/(y1+1)*(y1+1)<=e:=A69 _ _
  calc e/(y1+1)*Y<=e/(y1+1)*((y1+1)*p):=A2h _ j
   _=e/(y1+1)*(y1+1)*p:=by rw[A17]
   _<=e*p:=A13 _ m
   _<=R:=oV
 rw[A4u f];have j:R/Y*Y<=R:=A69 _ _;have m:R/Y*(y1*p)<=R/Y*Y:=A2h _ oV;have A:R/Y*y1*p<(e+1)*p:=by rw[A17,A16];omega
 exact Nat.le_of_lt_succ (A60 A)
def Ayr (R n:Nat)(A:0<n)(u:(Aa R).length<=n+1)(t:n<=(Aa R).length) :
 ∃ m,R=((Aa R).getD (n-1) 0+(Aa R).getD n 0*1000000000)*1000000000^(n-1)+m/\m<1000000000^(n-1):=by
 refine⟨val ((Aa R).take (n-1)),?_,?_⟩
 ·have h:=Gz (Aa R) (n-1) oV;rw[Am]at h;have j:=Cs (Aa R) (n-1) oV;rw[show n-1+1=n by omega]at j;rcases A2e n (Aa R).length with f|f
  ·have e:=Cs (Aa R) n f;rw[A2b (show (Aa R).length<=n+1 by omega)]at e;rw[j,e]at h;simp only[val,A3z,A3s]at h;rw[A19 _ (1000000000^(n-1)),A19 ((Aa R).getD n 0)];omega
  rw[A2b f]at j;rw[j]at h;simp only[val]at h;have h0:(Aa R).getD n 0=0:=by rw[A02,A1v f];rfl
  rw[h0,A19 _ (1000000000^(n-1))];simp only[A58,A3z,A3s]at h⊢;omega
 have:=K8 ((Ao R).take (n-1));rwa[A1e,A4a oV]at this
end
section
variable {n:Nat}{u:PH}
def Do.lim {b:Bool}{a:zP}{n c k:Nat}(h:Do u (.agg #[.bool b,.slice a n c]) (Cd false k)):Cy u (.slice a n c) (Aa k):=by
 obtain⟨_,_,_,e,f⟩:=h;simp only[Value.agg.injEq,A5j,A3g,Value.bool.injEq,Value.slice.injEq,and_true]at e;obtain⟨_,rfl,rfl,rfl⟩:=e;rw[K5]at f;exact f
def Jj {X:Value}{la:zK}(T:Cy u X la)(F:Low la)(sa:la.length<=1000000000000)(hn:n<1000000000) :
 zF 212 [X,zI n] u fun v V=>Cy V v (Aa (val la*n)):=by
 obtain⟨a,R,rfl,a3⟩:=T.opn;refine Fn0.o func212<|G.l (ι:=Nat×zK×Nat×Value) (fun i=>[(0,sV a la.length R),(1,iV n),(5,.v i.2.2.2),(6,iV i.2.2.1),(7,iV i.1)]) (fun _=>[])
  (fun i _ U=>(i.1<=la.length+1/\(la.length+1<=i.1->i.2.2.1=0))/\Af PH.mt U i.2.2.2 3 1 (Ai i.2.1)/\Je la n i.1 i.2.1 i.2.2.1) (fun i=>la.length+2-i.1) (0,[],0,zN)
  ⟨⟨mV,fun _=>rfl⟩,Af.nil _ _ _,Je.start _ _⟩ ?_
 rintro J ⟨k,ys,c,D⟩ P V U A ⟨hk,C,e⟩;simp only at hk C e P;have a2:=e.carry;have a0:=F.getD k;have hp:la.getD k 0*n<=999999999*999999999:=A25 oV oV;obtain⟨Z,co,rfl⟩:=C.shape;obtain⟨D,E⟩:∃ D,D=Value.slice Z (Ai ys).length co:=⟨_,rfl⟩;rw[<-E]at C⊢;obtain⟨t,Q⟩:∃ t,t=c+la.getD k 0*n:=⟨_,rfl⟩;have h:=e.step F hn Q;by_cases m:k<la.length
 ·refine G.lT k la.length<|G.lT k la.length ?_;obtain⟨ba,oa,rfl,ea⟩:=(T.mono A).at (j:=k) m;refine G.N la.length R m ea<|G.mul (la.getD k 0:Nat) (n:Int) ((la.getD k 0*n:Nat):Int) kV (A4d _ _).symm oV oV<|G.p c (la.getD k 0*n:Nat) t<|G.rem (t:Int) 1000000000 ((t%1000000000:Nat):Int) kV oV oV oV oV<|G.B 3 1 8 zO [zI (t%1000000000:Nat)] (Av [t%1000000000]) ?_;intro g W H K;refine G.append 3 1 8 zO PH.mt (Ai ys) [zI (t%1000000000:Nat)] D g 0 1 1 kV rfl rfl oV C K (Av [t%1000000000]) rfl oV (by rw[Ak,e.len];omega) (by rw[Ak,e.len];omega) ?_;intro I m2 f;rw[Di]at f;exact G.quo (t:Int) 1000000000 ((t/1000000000:Nat):Int) kV oV oV oV oV<|G.i k<|G.b (P (k+1,ys++[t%1000000000],t/1000000000,I) _ _ _ cV (A.trans H) ⟨⟨oV,dV⟩,f,h⟩ dV)
 have hz:=Fs m;rw[hz,A58,A3s]at Q;subst Q;refine G.lF k la.length ?_;by_cases a1:0<t
 ·refine G.gT t 0<|G.lF k la.length<|G.rem (t:Int) 1000000000 ((t%1000000000:Nat):Int) kV oV oV oV oV<|G.B 3 1 8 zO [zI (t%1000000000:Nat)] (Av [t%1000000000]) ?_;intro g W H K;refine G.append 3 1 8 zO PH.mt (Ai ys) [zI (t%1000000000:Nat)] D g 0 1 1 kV rfl rfl oV C K (Av [t%1000000000]) rfl oV (by rw[Ak,e.len];omega) (by rw[Ak,e.len];omega) ?_;intro I m2 f;rw[Di]at f;exact G.quo (t:Int) 1000000000 ((t/1000000000:Nat):Int) kV oV oV oV oV<|G.i k<|G.b (P (k+1,ys++[t%1000000000],t/1000000000,I) _ _ _ cV (A.trans H) ⟨⟨oV,dV⟩,f,h⟩ dV)
 refine G.gF t 0<|G.give PH.mt (Ai ys) D kV C (fun _=>.inl rfl) ?_;intro W H hL;have a4:=e.len;subst E;refine G.c call149 (Ec (b:=false) hL e.low oV) ?_;intro I u2 l2 L;rw[e.over m oV]at L;obtain⟨b5,Y,n5,c5,rfl,_,_⟩:=L.opn;exact G.r (.slice Y n5 c5) ⟨rfl,L.lim⟩
end
section
variable {R Y hi lo mid:Nat}{z:Int}
def Nu (m n:Nat):((m:Int)).tdiv n=((m/n:Nat):Int):=rfl
def Ri (m n:Nat):((m:Int)).tmod n=((m%n:Nat):Int):=rfl
theorem Amz (y z:Int):Cd (!(decide (y<0)==decide (z<0))) (y.natAbs/z.natAbs)=y.tdiv z:=by
 unfold Cd;rcases A5q y 0 with e|e<;>rcases A5q z 0 with f|f
 ·rw[decide_eq_true e,decide_eq_true f];obtain⟨m,rfl⟩:∃ m:Nat,y = -(m:Int):=⟨y.natAbs,oV⟩;obtain⟨n,rfl⟩:∃ n:Nat,z = -(n:Int):=⟨z.natAbs,oV⟩;rw[A7k,Int.tdiv_neg,Ba1,Nu,A3l,A3l];rfl
 ·rw[decide_eq_true e,decide_eq_false (show ¬ z<0 by omega)];obtain⟨m,rfl⟩:∃ m:Nat,y = -(m:Int):=⟨y.natAbs,oV⟩;obtain⟨n,rfl⟩:∃ n:Nat,z=(n:Int):=⟨z.natAbs,oV⟩;rw[A7k,Nu,A3l];rfl
 ·rw[decide_eq_false (show ¬ y<0 by omega),decide_eq_true f];obtain⟨m,rfl⟩:∃ m:Nat,y=(m:Int):=⟨y.natAbs,oV⟩;obtain⟨n,rfl⟩:∃ n:Nat,z = -(n:Int):=⟨z.natAbs,oV⟩;rw[Int.tdiv_neg,Nu,A3l];rfl
 grind
theorem Aok (y z:Int):Cd (decide (y<0)) (y.natAbs%z.natAbs)=y.tmod z:=by
 unfold Cd;have f:∀ m:Nat,((m:Int)).tmod z=((m%z.natAbs:Nat):Int):=by
  intro m;rcases A5q z 0 with h|h
  ·obtain⟨n,rfl⟩:∃ n:Nat,z = -(n:Int):=⟨z.natAbs,oV⟩;rw[Int.tmod_neg,Ri,A3l];rfl
  grind
 rcases A5q y 0 with e|e
 ·rw[decide_eq_true e];obtain⟨m,rfl⟩:∃ m:Nat,y = -(m:Int):=⟨y.natAbs,oV⟩;rw[Int.neg_tmod,f,A3l];rfl
 grind
def Aw5 {n:Nat}(h:n≠0):0<(Aa n).getD ((Aa n).length-1) 0:=by
 have e:=Ke (Ao n);rw[Am]at e;have f:=congrArg List.length e;rw[A1e]at f;have hp:0<(Aa n).length:=Df.2 oV;have m:=Mi (Aa n) (Aa n).length;have j:=Uz (Aa n) (Aa n).length oV;rw[show Bz (Aa n) (Aa n).length=(Aa n).length by omega]at j;omega
def Ajt (h:z<=0):sgn z<=0:=by
 rcases A4q z 0 with e|e|e
 ·rw[Ep e];decide
 ·rw[e];decide
 omega
def Axq (h:0<=z):0<=sgn z:=by
 rcases A4q z 0 with e|e|e
 ·omega
 ·rw[e];decide
 rw[C5 e];decide
def Au8 (g:Nat)(u:PH)(x:Nat)(e:Hc u g 0 1 [zI x]):Ac u (zG g 1 1) 1 (Ai [x]):=⟨_,1,rfl,by simp[Ai],fun j v f=>⟨g,0,rfl,e j v f⟩⟩
def Ah7 (x:Nat)(l:zK):Ai [x]++Ai l=Ai (x::l):=rfl
structure Yw (Y R lo hi:Nat):Prop where
 a:lo<=R/Y
 b:R/Y<=hi
 c:hi<=999999999
def Yw.up (h:Yw Y R lo hi)(e:0<Y)(f:Y*mid<=R):Yw Y R mid hi:=⟨by rw[A4u e,A19];exact f,h.b,h.c⟩
def Yw.down (h:Yw Y R lo hi)(e:0<Y)(j:¬ Y*mid<=R)(h0:0<mid)(f:mid<=hi):Yw Y R lo (mid-1):=by
 have:R/Y<mid:=by rw[A3b e,A19];omega
 exact⟨h.a,oV,by have:=h.c;omega⟩
def Q5 {u:PH}{x x':Value}{y z:Int}(hx:Do u x y)(be:Do u x' z)(sy:nl y.natAbs<=100000000000)(sz:nl z.natAbs<=100000000000)(bw:z≠0) :
 zF 147 [x,x'] u fun v u'=>∃ a b,v=.tuple #[a,b]/\Do u' a (y.tdiv z)/\Do u' b (y.tmod z):=by
 obtain⟨b,a,n,c,rfl,hb,hi⟩:=hx.opn;obtain⟨b',a',n',c',rfl,au,b1⟩:=be.opn;obtain⟨rfl,_⟩:=hi.len;obtain⟨rfl,_⟩:=b1.len;have b5:=Ao y.natAbs;have bx:(Aa y.natAbs).length<=100000000000:=sy;have bz:(Aa z.natAbs).length<=100000000000:=sz;have T:0<z.natAbs:=oV;have bi:0<(Aa z.natAbs).length:=Df.2 T;have ag:Cd (!(b==b')) (y.natAbs/z.natAbs)=y.tdiv z:=by rw[hb,au];exact Amz y z
 have ah:Cd b (y.natAbs%z.natAbs)=y.tmod z:=by rw[hb];exact Aok y z
 have bl:=Am y.natAbs;rw[<-bl]at ag ah;generalize Aa y.natAbs=lx at *
 have hY:=Am z.natAbs;have a1:=Ao z.natAbs;have ab:=Aw5 (n:=z.natAbs) oV;generalize z.natAbs=Y at *
 clear hb au hx be sy sz;refine Fn0.o func147<|G.make 3 1 8 zO lx.length kV rfl rfl oV oV oV ?_;rintro vq m1 E ⟨aq,rfl⟩;rw[Ut]at E;refine G.sub (lx.length:Int) 1 ((lx.length:Int)-1) kV rfl oV oV<|G.l (ι:=Int×Nat×zK×Value) (fun i=>[(2,.p 0 0),(3,.p 1 0),(4,.p 2 0),(5,.p 3 0),(6,.v i.2.2.2),(7,sV (some aq) lx.length lx.length),(8,iV i.1)])
  (fun _=>[(0,⟨67,[bV b,sV a lx.length c]⟩),(1,⟨67,[bV b',sV a' (Aa Y).length c']⟩),(2,⟨67,[bF,sN]⟩),(3,⟨67,[bF,sN]⟩)])
  (fun i u' m'=>(-1<=i.1/\i.1<lx.length)/\Uv lx Y (i.1+1).toNat i.2.2.1 i.2.1/\Cy u' i.2.2.2 (Aa i.2.1)/\Af PH.mt m' (.slice (some aq) lx.length lx.length) 3 1 (Ai i.2.2.1)) (fun i=>(i.1+1).toNat) ((lx.length:Int)-1,0,List.replicate lx.length 0,zN)
  ⟨⟨gV,gV⟩,by rw[show (((lx.length:Int)-1)+1).toNat=lx.length by omega];exact Uv.start _ _,by rw[A7];exact Ac.nil _ _ _ _,E⟩ ?_
 clear E m1;rintro J ⟨zi,R,qs,vr⟩ hJ u' m' al ⟨bn,D,hR,E⟩;simp only at bn D hR E hJ;obtain⟨ar,cr,rfl,bu⟩:=hR.opn;by_cases b9:0<=zi
 ·obtain⟨k,rfl⟩:=A6d b9;rw[show ((k:Int)+1).toNat=k+1 by omega]at D;have hk:k<lx.length:=oV;have ap:R<Y:=by rw[D.rest];exact A29 _ T
  have bf:=b5.getD k;have t:=D.step b5 hk T;have aw:=Z9 ap bf;obtain⟨I,bq,e⟩:=E.ptr (by intro e;have:=congrArg List.length e;rw[Ak,D.len,A30]at this;omega);simp only[Value.slice.injEq,A1f]at e;obtain⟨rfl,_,_⟩:=e;obtain⟨ba,oa,rfl,ea⟩:=(hi.mono al).at (j:=k) hk;refine G.hT k 0<|G.N lx.length c hk ea<|G.B 3 1 8 zO [zI (lx.getD k 0:Nat)] (Av [lx.getD k 0]) ?_;intro g u1 l1 e1;have ak:(Aa R).length<=(Aa Y).length:=Fi oV;refine G.appendV 3 1 8 zO (Ai [lx.getD k 0]) (Ai (Aa R)) (zA g) 1 ar (Aa R).length cr kV oV (Au8 g u1 _ e1) (Av _) (hR.mono l1) (Av _) (by rw[Ak,Ak];simp;omega) (by rw[Ak,Ak];simp;omega) ?_;intro v2 u2 l2 h2;rw[Ah7]at h2;obtain⟨a2,c2,rfl,bs⟩:=Cy.opn h2;refine G.c call149 (Ec (b:=false) (l:=lx.getD k 0::Aa R) h2 (Low.cons bf (Ao R)) gV) ?_;intro v3 u3 l3 h3;rw[show val (lx.getD k 0::Aa R)=lx.getD k 0+1000000000*R by simp only[val];rw[Am]]at h3;generalize lx.getD k 0+1000000000*R=f at *
  obtain⟨b3,a3,n3,c3,rfl,_,_⟩:=h3.opn;have aj:=h3.lim;obtain⟨rfl,bt⟩:=aj.len;have ad:(Aa f).length<=(Aa Y).length+1:=by
   have h5:=aw;rw[A3b T]at h5;refine A4 ?_;have K:=Dd Y;rw[A2d];have h7:1000000000*Y<1000000000*1000000000^nl Y:=Nat.mul_lt_mul_of_pos_left K oV;have h8:(1000000000:Nat)^(Aa Y).length=1000000000^nl Y:=rfl;rw[h8,A19 (1000000000^nl Y)];omega
  have b4:=b1.mono (((al.trans l1).trans l2).trans l3);refine G.c call151 (Lx aj b4 (by show (Aa f).length<=_;omega) (by show (Aa Y).length<=_;omega)) ?_;rintro v4 u4 l4 rfl;have Q:=aj.mono l4;have U:=b4.mono l4;have W:PH.le u u4:=(((al.trans l1).trans l2).trans l3).trans l4;by_cases bh:Y<=f
  ·refine G.hT' (sgn ((f:Int)-Y)) 0 (Axq oV) ?_;have am:(Aa Y).length<=(Aa f).length:=Fi bh;obtain⟨rl,bj,bk⟩:=Ayr f (Aa Y).length bi ad am;obtain⟨br,ae,rfl,er⟩:=Q.at (j:=(Aa Y).length-1) oV;have bo:=(Ao f).getD ((Aa Y).length-1);have bp:=(Ao f).getD (Aa Y).length;have ai:=a1.getD ((Aa Y).length-1);obtain⟨ao,oy,rfl,ey⟩:=U.at (j:=(Aa Y).length-1) oV;have a4:Y=(Aa Y).getD ((Aa Y).length-1) 0*1000000000^((Aa Y).length-1)+val ((Aa Y).take ((Aa Y).length-1)):=by
    have h5:=Gz (Aa Y) ((Aa Y).length-1) oV;rw[hY,Cs _ _ (show (Aa Y).length-1<(Aa Y).length by omega),A2b oV]at h5;simp only[val,A3z,A3s]at h5;rw[A19];omega
   have bm:val ((Aa Y).take ((Aa Y).length-1))<1000000000^((Aa Y).length-1):=by
    have:=K8 (a1.take ((Aa Y).length-1));rwa[A1e,A4a oV]at this
   have ax:=Auz a4 bm ab bj bk;refine G.s ((Aa Y).length:Int) 1 (((Aa Y).length-1:Nat):Int)<|G.n (Aa f).length c3 er ?_;obtain⟨A,an⟩:∃ A,A=(Aa f).getD ((Aa Y).length-1) 0+(Aa f).getD (Aa Y).length 0*1000000000:=⟨_,rfl⟩;rw[<-an]at ax;have b7:∀ k:Nat,((min (999999999:Int) (k:Int)))=((min 999999999 k:Nat):Int):=fun k=>oV;obtain⟨h1,Z⟩:∃ h1,h1=min 999999999 (A/(Aa Y).getD ((Aa Y).length-1) 0):=⟨_,rfl⟩;obtain⟨l0,a0⟩:∃ l0,l0=min h1 (A/((Aa Y).getD ((Aa Y).length-1) 0+1)):=⟨_,rfl⟩;have C:Yw Y f l0 h1:=⟨oV,oV,oV⟩;by_cases a9:(Aa Y).length<(Aa f).length
   ·refine G.gT ((Aa f).length:Int) ((Aa Y).length:Int) ?_;obtain⟨_,_,e9,bg⟩:=Q.at (j:=(Aa Y).length) a9;simp only[A1f,Addr.mk.injEq,and_true]at e9;obtain⟨rfl,rfl⟩:=e9;refine G.N (Aa f).length c3 a9 bg<|G.mul ((Aa f).getD (Aa Y).length 0:Nat) 1000000000 (((Aa f).getD (Aa Y).length 0*1000000000:Nat):Int) kV oV oV oV<|G.p ((Aa f).getD ((Aa Y).length-1) 0:Nat) (((Aa f).getD (Aa Y).length 0*1000000000:Nat):Int) (A:Int) ?_;obtain⟨y1,ac⟩:∃ y1,y1=(Aa Y).getD ((Aa Y).length-1) 0:=⟨_,rfl⟩;rw[<-ac]at ey Z a0 ab ai;refine G.s ((Aa Y).length:Int) 1 (((Aa Y).length-1:Nat):Int)<|G.n (Aa Y).length c' ey<|G.quo (A:Int) (y1:Int) ((A/y1:Nat):Int) kV oV oV oV (A5k _ _).symm<|G.minI [3,3] 999999999 ((A/y1:Nat):Int) (h1:Int) kV (by rw[b7,Z])<|G.s ((Aa Y).length:Int) 1 (((Aa Y).length-1:Nat):Int)<|G.n (Aa Y).length c' ey<|G.i y1<|G.quo (A:Int) ((y1+1:Nat):Int) ((A/(y1+1):Nat):Int) kV oV oV oV (A5k _ _).symm<|G.minI [3,3] (h1:Int) ((A/(y1+1):Nat):Int) (l0:Int) kV (by rw[a0];omega)<|G.l (ι:=Nat×Nat) (fun i=>[(2,.p 0 0),(3,.p 1 0),(4,.p 2 0),(5,.p 3 0),(6,sV (some ⟨br,ae,none⟩) (Aa f).length c3),(7,sV (zA I) lx.length lx.length),(8,iV k),(9,iV i.1),(10,iV i.2)])
     (fun _=>[(0,⟨67,[bV b,sV (some ⟨ba,oa,none⟩) lx.length c]⟩),(1,⟨67,[bV b',sV (some ⟨ao,oy,none⟩) (Aa Y).length c']⟩),(2,⟨67,[bF,sN]⟩),(3,⟨67,[bF,sN]⟩)])
     (fun i _ m'=>Yw Y f i.1 i.2/\Af PH.mt m' (zG I lx.length lx.length) 3 1 (Ai qs)) (fun i=>i.2-i.1) (l0,h1) ⟨C,E⟩ ?_
    clear C E a0 Z;rintro J2 ⟨lo,m⟩ P u5 m' h ⟨V,E⟩;simp only at V E P;have ay:=V.a;have az:=V.b;have b0:=V.c;by_cases b6:lo<m
    ·refine G.lT lo m<|G.p lo m (lo+m:Nat)<|G.p (lo+m:Nat) 1 (lo+m+1:Nat) ?_;obtain⟨mid,af⟩:∃ mid,mid=(lo+m+1)/2:=⟨_,rfl⟩;refine G.quo ((lo+m+1:Nat):Int) 2 (mid:Int) kV oV oV oV oV<|G.c call212 (Jj (n:=mid) (U.mono h) a1 oV oV) ?_;intro v6 u6 X K;rw[hY]at K;obtain⟨a6,c6,rfl,a5⟩:=K.opn;have bd:(Aa (Y*mid)).length<=200000000002:=by
      have h5:=G7 Y mid;have h7:nl mid<=1:=A4 oV;have h8:nl Y=(Aa Y).length:=rfl;have h9:nl (Y*mid)=(Aa (Y*mid)).length:=rfl;omega
     refine G.c call151 (Lx K ((Q.mono h).mono X) (by show (Aa (Y*mid)).length<=_;omega) (by show (Aa f).length<=_;omega)) ?_;rintro v7 u7 l7 rfl;by_cases F:Y*mid<=f
     ·exact G.kT' (sgn (((Y*mid:Nat):Int)-f)) 0 (Ajt oV)<|G.b (P (mid,m) _ _ _ cV ((h.trans X).trans l7) ⟨V.up T F,E⟩ dV)
     exact G.kF' (sgn (((Y*mid:Nat):Int)-f)) 0 (by rw[C5 oV];decide)<|G.s mid 1 (mid-1:Nat)<|G.b (P (lo,mid-1) _ _ _ cV ((h.trans X).trans l7) ⟨V.down T F oV oV,E⟩ dV)
    obtain rfl:lo=f / Y:=oV;refine G.lF (f / Y:Nat) m<|G.a I 0 lx.length lx.length k 1 hk<|G.storeA 1 PH.mt _ I lx.length lx.length k (zI (f / Y:Nat)) kV E (by rw[Ak,D.len];exact hk) rfl rfl ?_;intro m2 L;rw[Lj]at L;by_cases bb:0<f / Y
    ·refine G.gT (f / Y:Nat) 0<|G.c call212 (Jj (n:=f / Y) (U.mono h) a1 oV oV) ?_;intro v6 u6 X K;rw[hY]at K;have H:Y*(f / Y)<=f:=A9r f Y;obtain⟨a6,c6,rfl,a5⟩:=K.opn;refine G.c call152 (Ly ((Q.mono h).mono X) K (Ao _) (Ao _) oV (Fi H) (by rw[Am,Am];exact H)) ?_;rintro v7 u7 l7 ⟨l,g1,g2,g3,g4⟩;obtain⟨a7,c7,rfl,av⟩:=g1.opn;refine G.c call149 (Ec (b:=false) g1 g2 oV) ?_;intro v8 u8 l8 h8;rw[g3,Am,Am,show f - Y*(f / Y)=f % Y by have:=A3h f Y;omega]at h8;obtain⟨b8,a8,n8,c8,rfl,_,_⟩:=h8.opn;refine G.sub (k:Int) 1 ((k:Int)-1) kV rfl oV oV<|G.b (hJ ((k:Int)-1,f % Y,qs.set k (f / Y),.slice a8 n8 c8) _ _ _ cV ((((W.trans h).trans X).trans l7).trans l8) ⟨⟨dV,dV⟩,?_,h8.lim,L⟩ dV);rw[show (((k:Int)-1)+1).toNat=k by omega];exact t
    refine G.gF (f / Y:Nat) 0<|G.sub (k:Int) 1 ((k:Int)-1) kV rfl oV oV ?_;have aa:f % Y=f:=by have:=A3h f Y;rw[show f / Y=0 by omega,A3z]at this;omega
    rw[aa]at t;refine G.b (hJ ((k:Int)-1,f,qs.set k (f / Y),.slice (some ⟨br,ae,none⟩) (Aa f).length c3) _ _ _ cV (W.trans h) ⟨⟨dV,dV⟩,?_,Q.mono h,L⟩ dV);rw[show (((k:Int)-1)+1).toNat=k by omega];exact t
   refine G.gF ((Aa f).length:Int) ((Aa Y).length:Int) ?_;have h0:=Fs (l:=Aa f) (k:=(Aa Y).length) oV;rw[h0,A58,A3s]at an;rw[<-an];obtain⟨y1,ac⟩:∃ y1,y1=(Aa Y).getD ((Aa Y).length-1) 0:=⟨_,rfl⟩;rw[<-ac]at ey Z a0 ab ai;refine G.s ((Aa Y).length:Int) 1 (((Aa Y).length-1:Nat):Int)<|G.n (Aa Y).length c' ey<|G.quo (A:Int) (y1:Int) ((A/y1:Nat):Int) kV oV oV oV (A5k _ _).symm<|G.minI [3,3] 999999999 ((A/y1:Nat):Int) (h1:Int) kV (by rw[b7,Z])<|G.s ((Aa Y).length:Int) 1 (((Aa Y).length-1:Nat):Int)<|G.n (Aa Y).length c' ey<|G.i y1<|G.quo (A:Int) ((y1+1:Nat):Int) ((A/(y1+1):Nat):Int) kV oV oV oV (A5k _ _).symm<|G.minI [3,3] (h1:Int) ((A/(y1+1):Nat):Int) (l0:Int) kV (by rw[a0];omega)<|G.l (ι:=Nat×Nat) (fun i=>[(2,.p 0 0),(3,.p 1 0),(4,.p 2 0),(5,.p 3 0),(6,sV (some ⟨br,ae,none⟩) (Aa f).length c3),(7,sV (zA I) lx.length lx.length),(8,iV k),(9,iV i.1),(10,iV i.2)])
    (fun _=>[(0,⟨67,[bV b,sV (some ⟨ba,oa,none⟩) lx.length c]⟩),(1,⟨67,[bV b',sV (some ⟨ao,oy,none⟩) (Aa Y).length c']⟩),(2,⟨67,[bF,sN]⟩),(3,⟨67,[bF,sN]⟩)])
    (fun i _ m'=>Yw Y f i.1 i.2/\Af PH.mt m' (zG I lx.length lx.length) 3 1 (Ai qs)) (fun i=>i.2-i.1) (l0,h1) ⟨C,E⟩ ?_
   clear C E a0 Z;rintro J2 ⟨lo,m⟩ P u5 m' h ⟨V,E⟩;simp only at V E P;have ay:=V.a;have az:=V.b;have b0:=V.c;by_cases b6:lo<m
   ·refine G.lT lo m<|G.p lo m (lo+m:Nat)<|G.p (lo+m:Nat) 1 (lo+m+1:Nat) ?_;obtain⟨mid,af⟩:∃ mid,mid=(lo+m+1)/2:=⟨_,rfl⟩;refine G.quo ((lo+m+1:Nat):Int) 2 (mid:Int) kV oV oV oV oV<|G.c call212 (Jj (n:=mid) (U.mono h) a1 oV oV) ?_;intro v6 u6 X K;rw[hY]at K;obtain⟨a6,c6,rfl,a5⟩:=K.opn;have bd:(Aa (Y*mid)).length<=200000000002:=by
     have h5:=G7 Y mid;have h7:nl mid<=1:=A4 oV;have h8:nl Y=(Aa Y).length:=rfl;have h9:nl (Y*mid)=(Aa (Y*mid)).length:=rfl;omega
    refine G.c call151 (Lx K ((Q.mono h).mono X) (by show (Aa (Y*mid)).length<=_;omega) (by show (Aa f).length<=_;omega)) ?_;rintro v7 u7 l7 rfl;by_cases F:Y*mid<=f
    ·exact G.kT' (sgn (((Y*mid:Nat):Int)-f)) 0 (Ajt oV)<|G.b (P (mid,m) _ _ _ cV ((h.trans X).trans l7) ⟨V.up T F,E⟩ dV)
    exact G.kF' (sgn (((Y*mid:Nat):Int)-f)) 0 (by rw[C5 oV];decide)<|G.s mid 1 (mid-1:Nat)<|G.b (P (lo,mid-1) _ _ _ cV ((h.trans X).trans l7) ⟨V.down T F oV oV,E⟩ dV)
   obtain rfl:lo=f / Y:=oV;refine G.lF (f / Y:Nat) m<|G.a I 0 lx.length lx.length k 1 hk<|G.storeA 1 PH.mt _ I lx.length lx.length k (zI (f / Y:Nat)) kV E (by rw[Ak,D.len];exact hk) rfl rfl ?_;intro m2 L;rw[Lj]at L;by_cases bb:0<f / Y
   ·refine G.gT (f / Y:Nat) 0<|G.c call212 (Jj (n:=f / Y) (U.mono h) a1 oV oV) ?_;intro v6 u6 X K;rw[hY]at K;have H:Y*(f / Y)<=f:=A9r f Y;obtain⟨a6,c6,rfl,a5⟩:=K.opn;refine G.c call152 (Ly ((Q.mono h).mono X) K (Ao _) (Ao _) oV (Fi H) (by rw[Am,Am];exact H)) ?_;rintro v7 u7 l7 ⟨l,g1,g2,g3,g4⟩;obtain⟨a7,c7,rfl,av⟩:=g1.opn;refine G.c call149 (Ec (b:=false) g1 g2 oV) ?_;intro v8 u8 l8 h8;rw[g3,Am,Am,show f - Y*(f / Y)=f % Y by have:=A3h f Y;omega]at h8;obtain⟨b8,a8,n8,c8,rfl,_,_⟩:=h8.opn;refine G.sub (k:Int) 1 ((k:Int)-1) kV rfl oV oV<|G.b (hJ ((k:Int)-1,f % Y,qs.set k (f / Y),.slice a8 n8 c8) _ _ _ cV ((((W.trans h).trans X).trans l7).trans l8) ⟨⟨dV,dV⟩,?_,h8.lim,L⟩ dV);rw[show (((k:Int)-1)+1).toNat=k by omega];exact t
   refine G.gF (f / Y:Nat) 0<|G.sub (k:Int) 1 ((k:Int)-1) kV rfl oV oV ?_;have aa:f % Y=f:=by have:=A3h f Y;rw[show f / Y=0 by omega,A3z]at this;omega
   rw[aa]at t;refine G.b (hJ ((k:Int)-1,f,qs.set k (f / Y),.slice (some ⟨br,ae,none⟩) (Aa f).length c3) _ _ _ cV (W.trans h) ⟨⟨dV,dV⟩,?_,Q.mono h,L⟩ dV);rw[show (((k:Int)-1)+1).toNat=k by omega];exact t
  refine G.hF' (sgn ((f:Int)-Y)) 0 (by rw[Ep oV];decide) ?_;obtain⟨l0,a0⟩:∃ l0:Nat,l0=0:=⟨_,rfl⟩;obtain⟨h1,Z⟩:∃ h1:Nat,h1=0:=⟨_,rfl⟩;have C:Yw Y f 0 0:=by
   have:f / Y=0:=A49 oV;exact⟨oV,oV,oV⟩
  refine G.l (ι:=Nat×Nat) (fun i=>[(2,.p 0 0),(3,.p 1 0),(4,.p 2 0),(5,.p 3 0),(6,sV a3 (Aa f).length c3),(7,sV (zA I) lx.length lx.length),(8,iV k),(9,iV i.1),(10,iV i.2)])
   (fun _=>[(0,⟨67,[bV b,sV (some ⟨ba,oa,none⟩) lx.length c]⟩),(1,⟨67,[bV b',sV a' (Aa Y).length c']⟩),(2,⟨67,[bF,sN]⟩),(3,⟨67,[bF,sN]⟩)])
   (fun i _ m'=>Yw Y f i.1 i.2/\Af PH.mt m' (zG I lx.length lx.length) 3 1 (Ai qs)) (fun i=>i.2-i.1) (0,0) ⟨C,E⟩ ?_
  clear C E a0 Z;rintro J2 ⟨lo,m⟩ P u5 m' h ⟨V,E⟩;simp only at V E P;have ay:=V.a;have az:=V.b;have b0:=V.c;by_cases b6:lo<m
  ·refine G.lT lo m<|G.p lo m (lo+m:Nat)<|G.p (lo+m:Nat) 1 (lo+m+1:Nat) ?_;obtain⟨mid,af⟩:∃ mid,mid=(lo+m+1)/2:=⟨_,rfl⟩;refine G.quo ((lo+m+1:Nat):Int) 2 (mid:Int) kV oV oV oV oV<|G.c call212 (Jj (n:=mid) (U.mono h) a1 oV oV) ?_;intro v6 u6 X K;rw[hY]at K;obtain⟨a6,c6,rfl,a5⟩:=K.opn;have bd:(Aa (Y*mid)).length<=200000000002:=by
    have h5:=G7 Y mid;have h7:nl mid<=1:=A4 oV;have h8:nl Y=(Aa Y).length:=rfl;have h9:nl (Y*mid)=(Aa (Y*mid)).length:=rfl;omega
   refine G.c call151 (Lx K ((Q.mono h).mono X) (by show (Aa (Y*mid)).length<=_;omega) (by show (Aa f).length<=_;omega)) ?_;rintro v7 u7 l7 rfl;by_cases F:Y*mid<=f
   ·exact G.kT' (sgn (((Y*mid:Nat):Int)-f)) 0 (Ajt oV)<|G.b (P (mid,m) _ _ _ cV ((h.trans X).trans l7) ⟨V.up T F,E⟩ dV)
   exact G.kF' (sgn (((Y*mid:Nat):Int)-f)) 0 (by rw[C5 oV];decide)<|G.s mid 1 (mid-1:Nat)<|G.b (P (lo,mid-1) _ _ _ cV ((h.trans X).trans l7) ⟨V.down T F oV oV,E⟩ dV)
  obtain rfl:lo=f / Y:=oV;refine G.lF (f / Y:Nat) m<|G.a I 0 lx.length lx.length k 1 hk<|G.storeA 1 PH.mt _ I lx.length lx.length k (zI (f / Y:Nat)) kV E (by rw[Ak,D.len];exact hk) rfl rfl ?_;intro m2 L;rw[Lj]at L;by_cases bb:0<f / Y
  ·refine G.gT (f / Y:Nat) 0<|G.c call212 (Jj (n:=f / Y) (U.mono h) a1 oV oV) ?_;intro v6 u6 X K;rw[hY]at K;have H:Y*(f / Y)<=f:=A9r f Y;obtain⟨a6,c6,rfl,a5⟩:=K.opn;refine G.c call152 (Ly ((Q.mono h).mono X) K (Ao _) (Ao _) oV (Fi H) (by rw[Am,Am];exact H)) ?_;rintro v7 u7 l7 ⟨l,g1,g2,g3,g4⟩;obtain⟨a7,c7,rfl,av⟩:=g1.opn;refine G.c call149 (Ec (b:=false) g1 g2 oV) ?_;intro v8 u8 l8 h8;rw[g3,Am,Am,show f - Y*(f / Y)=f % Y by have:=A3h f Y;omega]at h8;obtain⟨b8,a8,n8,c8,rfl,_,_⟩:=h8.opn;refine G.sub (k:Int) 1 ((k:Int)-1) kV rfl oV oV<|G.b (hJ ((k:Int)-1,f % Y,qs.set k (f / Y),.slice a8 n8 c8) _ _ _ cV ((((W.trans h).trans X).trans l7).trans l8) ⟨⟨dV,dV⟩,?_,h8.lim,L⟩ dV);rw[show (((k:Int)-1)+1).toNat=k by omega];exact t
  refine G.gF (f / Y:Nat) 0<|G.sub (k:Int) 1 ((k:Int)-1) kV rfl oV oV ?_;have aa:f % Y=f:=by have:=A3h f Y;rw[show f / Y=0 by omega,A3z]at this;omega
  rw[aa]at t;refine G.b (hJ ((k:Int)-1,f,qs.set k (f / Y),.slice a3 (Aa f).length c3) _ _ _ cV (W.trans h) ⟨⟨dV,dV⟩,?_,Q.mono h,L⟩ dV);rw[show (((k:Int)-1)+1).toNat=k by omega];exact t
 obtain rfl:zi = -1:=oV;refine G.hF (-1) 0<|G.give PH.mt (Ai qs) _ kV E (fun _=>.inl rfl) ?_;intro u1 l1 hL;have D:Uv lx Y 0 qs R:=D;have hq:=D.quo;have hr:=D.rest;rw[A5a,A5a]at hq;rw[A5a]at hr;have ap:R<Y:=by rw[hr];exact A29 _ T
 have ak:(Aa R).length<=(Aa Y).length:=Fi oV;refine G.neB b b' kV<|G.c call149 (Ec (b:=!(b==b')) hL D.low (by rw[D.len];omega)) ?_;intro v2 u2 l2 h2;rw[hq,ag]at h2;obtain⟨b2,a2,n2,c2,rfl,_,_⟩:=h2.opn;refine G.c call149 (Ec (b:=b) (hR.mono (l1.trans l2)) (Ao R) oV) ?_;intro v3 u3 l3 h3;rw[Am,hr,ah]at h3;obtain⟨b3,a3,n3,c3,rfl,_,_⟩:=h3.opn;exact G.r (.tuple #[.agg #[.bool b2,.slice a2 n2 c2],.agg #[.bool b3,.slice a3 n3 c3]]) ⟨rfl,_,_,rfl,h2.mono l3,h3⟩
end
section
variable {k n:Nat}{y z:Int}{ys:zK}
section rules
variable {P:Program} [A6 P] {fn:Func} {Post:Ce} {st:List KI×S} {u m:PH}
def Auc {x y z:Int}(A:-9223372036854775807<=x)(j:x<=9223372036854775807)(C:0<y)(t:x.tdiv y=z):-9223372036854775808<=z/\z<=9223372036854775807:=by
 rw[<-t];rcases A5q x 0 with h|h
 ·obtain⟨k,rfl⟩:∃ k:Int,x = -k:=⟨-x,oV⟩;rw[A7k,A32 oV];have e:=A8m (a:=k) (b:=y) oV oV;have f:=A9b (a:=k) y oV;omega
 rw[A32 h];have e:=A8m (a:=x) (b:=y) h oV;have f:=A9b (a:=x) y h;omega
def G.quoT (x y z:Int)(h:Aj P (adv P st)=.bin .quo (zI x) (zI y))(C:-9223372036854775807<=x)(e:x<=9223372036854775807)(D:0<y)(j:x.tdiv y=z)
 (k:G P fn Post (nx (adv P st) (zI z)) u m):G P fn Post st u m:=by
 refine G.bin _ h C0 (fun t w=>?_) k;have f:=Auc C e D j;have A:¬ y=0:=oV
 simp[binOp,Op.intDiv,A,j,Fk f.1 f.2]
def G.remT (x y z:Int)(h:Aj P (adv P st)=.bin .rem (zI x) (zI y))(C:0<y)(A:x.tmod y=z)(e:-9223372036854775808<=z)(f:z<=9223372036854775807)
 (k:G P fn Post (nx (adv P st) (zI z)) u m):G P fn Post st u m:=by
 refine G.bin _ h C0 (fun t w=>?_) k;have j:¬ y=0:=oV
 simp[binOp,Op.intDiv,j,A,Fk e f]
end rules
def Do.nonneg {u:PH}{v:Value}(h:Do u v (k:Int)):∃ a n c,v=.agg #[zL,.slice a n c]/\Cy u (.slice a n c) (Aa k):=by
 obtain⟨a,n,c,e,f⟩:=h;rw[decide_eq_false oV]at e;exact⟨a,n,c,e,f⟩
def Abo {u:PH}{x U:Value}(L:Do u x y)(j:Do u U z)(sy:nl y.natAbs<=100000000000)(sz:nl z.natAbs<=100000000000) :
 zF 145 [x,U] u fun v f=>Do f v (Nat.gcd y.natAbs z.natAbs:Nat):=by
 obtain⟨b,a,n,c,rfl,hb,hi⟩:=L.opn;obtain⟨b',A,T,C,rfl,Z,e⟩:=j.opn;refine Fn0.o func145<|G.l (ι:=(Nat×Nat)×(zP×Nat×Nat)×(zP×Nat×Nat)) (fun _=>[(2,.p 0 0),(3,.p 1 0),(4,.p 2 0)])
  (fun i=>[(0,⟨67,[bF,sV i.2.1.1 i.2.1.2.1 i.2.1.2.2]⟩),(1,⟨67,[bF,sV i.2.2.1 i.2.2.2.1 i.2.2.2.2]⟩),(2,⟨67,[bF,sN]⟩)])
  (fun i f R=>(Nat.gcd i.1.1 i.1.2=Nat.gcd y.natAbs z.natAbs/\nl i.1.1<=100000000000/\nl i.1.2<=100000000000)/\Cy f (.slice i.2.1.1 i.2.1.2.1 i.2.1.2.2) (Aa i.1.1)/\Cy f (.slice i.2.2.1 i.2.2.2.1 i.2.2.2.2) (Aa i.1.2)/\R=PH.mt) (fun i=>i.1.2)
  ((y.natAbs,z.natAbs),(a,n,c),(A,T,C)) ⟨⟨rfl,sy,sz⟩,hi,e,rfl⟩ ?_
 clear hi e L j;rintro J ⟨⟨p,q⟩,⟨a,n,c⟩,⟨A,T,C⟩⟩ K f R F ⟨⟨D,H,t⟩,hi,e,rfl⟩;simp only at D H t hi e K;obtain⟨rfl,_⟩:=hi.len;obtain⟨rfl,_⟩:=e.len;have a0:(Aa p).length<=100000000000:=H;have a3:(Aa q).length<=100000000000:=t;by_cases h0:0<(Aa q).length
 ·have E:=Df.1 h0;refine G.gT ((Aa q).length:Int) 0 ?_;have X:Do f (.agg #[zL,.slice a (Aa p).length c]) (p:Int):=⟨_,_,_,by rw[decide_eq_false oV],hi⟩;have Y:Do f (.agg #[zL,.slice A (Aa q).length C]) (q:Int):=⟨_,_,_,by rw[decide_eq_false oV],e⟩;refine G.c call147 (Q5 X Y H t oV) ?_;rintro v1 u1 Q ⟨va,vb,rfl,V,I⟩;rw[Ri]at I;obtain⟨b1,a1,n1,c1,rfl,_,_⟩:=V.opn;obtain⟨a2,n2,c2,rfl,W⟩:=I.nonneg;exact G.b (K ((q,p%q),(A,(Aa q).length,C),(a2,n2,c2)) _ _ _ cV (F.trans Q) ⟨⟨by dsimp only;rw[A9a q,<-Nat.gcd_rec,A9a];exact D,t,A04 (C4 (A8i (A29 _ E))) t⟩,e.mono Q,W,rfl⟩ (A29 _ E))
 have E:q=0:=by
  rcases A2a q with h|h
  ·exact h
  exact absurd (Df.2 h) h0
 subst E;refine G.gF ((Aa 0).length:Int) 0 ?_;rw[A8x]at D;exact G.r (.agg #[zL,.slice a (Aa p).length c]) ⟨rfl,by rw[<-D];exact⟨_,_,_,by rw[decide_eq_false oV],hi⟩⟩
structure Acc (n k:Nat)(ys:zK):Prop where
 low:Low ys
 sum:n=val ys+1000000000^ys.length*k
 top:ys≠[]->k=0->0<ys.getD (ys.length-1) 0
def Acc.start (n:Nat):Acc n n []:=⟨Low.nil,by simp[val],fun h=>absurd rfl h⟩
def Acc.step (h:Acc n k ys)(e:k≠0):Acc n (k/1000000000) (ys++[k%1000000000]):=by
 refine⟨h.low.append (Low.cons oV Low.nil),?_,fun _ h0=>?_⟩
 ·have:=h.sum;rw[Ki,A1d,A20,A2d,A3p,Is];exact this
 rw[A1d,A20,A5p,A02,A18 (A08 _)];simp;omega
def Ask {l:zK}(h:l = []\/0<l.getD (l.length-1) 0):Bz l l.length=l.length:=by
 rcases h with rfl|h
 ·rfl
 cases hl:l.length with
 |zero=>rfl
 |succ n=>rw[hl]at h;simp only[A5p]at h;simp only[Bz];rw[if_neg oV]
def Acc.done (h:Acc n 0 ys):ys=Aa n:=by
 have f:=h.sum;rw[A3z,A3s]at f;rw[f,Ke h.low,Ask,A15];by_cases e:ys = []
 ·exact .inl e
 exact .inr (h.top e rfl)
def Zw (b:Bool)(k:Nat):(Cd b k).tmod 1000000000=Cd b (k%1000000000):=by
 unfold Cd;cases b
 ·exact Ri k 1000000000
 show (-(k:Int)).tmod 1000000000 = -((k%1000000000:Nat):Int);rw[Int.neg_tmod];exact congrArg _ (Ri k 1000000000)
def Aaf (b:Bool)(k:Nat):(Cd b k).tdiv 1000000000=Cd b (k/1000000000):=by
 unfold Cd;cases b
 ·exact Nu k 1000000000
 show (-(k:Int)).tdiv 1000000000 = -((k/1000000000:Nat):Int);rw[A7k];exact congrArg _ (Nu k 1000000000)
def Ac6 {u:PH}{n:Int}(h1:-9223372036854775807<=n)(h2:n<=9223372036854775807) :
 zF 67 [zI n] u fun v F=>Do F v n:=by
 refine Fn0.o func67 ?_;have key:∀ b:Bool,b=decide (n<0)->G prog Tryz.f67 ⟨fun v F I=>I=PH.mt/\Do F v n,PH.mt⟩ (nx (adv prog (st0 Tryz.f67 [zI n])) (.bool b)) u PH.mt:=by
  intro b X;have Z:=Uc n;rw[<-X]at Z;refine G.loop (ι:=Nat×zK×(zP×Nat×Nat)) (fun i=>[(2,.p 0 0),(3,.p 1003 0),(0,iV (Cd b i.1))])
   (fun i=>[(0,⟨67,[bF,sN]⟩),(1003,⟨67,[bV b,sV i.2.2.1 i.2.2.2.1 i.2.2.2.2]⟩)])
   (fun i F I=>(i.1<=9223372036854775807/\(i.1≠0->i.2.1.length<=3)/\i.2.1.length<=4/\i.1*1000000000^i.2.1.length<=9223372036854775807)/\Acc n.natAbs i.1 i.2.1/\Af PH.mt I (.slice i.2.2.1 i.2.2.2.1 i.2.2.2.2) 3 1 (Ai i.2.1)) (fun i=>i.1) (n.natAbs,[],(none,0,0)) kV (fun _=>kV) ⟨kV,by rw[Z];kernel_rfl,kV⟩ ⟨⟨dV,mV,mV,gV⟩,Acc.start _,Af.nil _ _ _⟩ ?_
  rintro J ⟨k,ys,⟨a,K,c⟩⟩ Q F I E ⟨⟨hk,C,U,D⟩,t,A⟩;simp only at hk C U D t A Q;have V:=A.len;rw[Ak]at V;have a1:-9223372036854775807<=Cd b k/\Cd b k<=9223372036854775807:=by unfold Cd;split<;>omega
  by_cases h0:k=0
  ·subst h0;refine G.nF' (Cd b 0) 0 (by unfold Cd;split<;>simp) ?_
   refine G.give PH.mt (Ai ys) _ kV A (fun _=>.inl rfl) ?_;intro u1 H hL;refine G.r (.agg #[.bool b,.slice a K c]) ⟨rfl,a,K,c,by rw[X],?_⟩;rw[<-t.done];exact hL
  have Y:=C h0;refine G.nT' (Cd b k) 0 (by unfold Cd;split<;>omega) ?_
  have j:(k/1000000000<=9223372036854775807/\(k/1000000000≠0->(ys++[k%1000000000]).length<=3)/\(ys++[k%1000000000]).length<=4/\k/1000000000*1000000000^(ys++[k%1000000000]).length<=9223372036854775807):=by
   have W:k/1000000000*1000000000^(ys.length+1)<=9223372036854775807:=by
    rw[A2d,A19 (1000000000^ys.length),<-A17];exact A04 (A13 _ (A69 _ _)) D
   refine⟨oV,fun a0=>?_,gV,by simpa using W⟩;rcases A2e ys.length 3 with h|h
   ·simp;omega
   exfalso;have:ys.length=3:=oV;rw[this]at W;have h1:1*1000000000^(3+1)<=k/1000000000*1000000000^(3+1):=A13 _ oV;have h2:(9223372036854775807:Nat)<1*1000000000^(3+1):=fV;omega
  by_cases R:b=true/\k%1000000000≠0
  ·obtain⟨T,hm⟩:=R;refine G.remT (Cd b k) 1000000000 (-((k%1000000000:Nat):Int)) kV oV (by rw[Zw,T];rfl) oV oV<|G.lT (-((k%1000000000:Nat):Int)) 0<|G.neg (-((k%1000000000:Nat):Int)) ((k%1000000000:Nat):Int) kV oV oV oV<|G.B 3 1 8 zO [zI (k%1000000000:Nat)] (Av [k%1000000000]) ?_;intro g u1 H L;refine G.append 3 1 8 zO PH.mt (Ai ys) [zI (k%1000000000:Nat)] (.slice a K c) g 0 1 1 kV rfl rfl oV A L (Av [k%1000000000]) rfl oV (by rw[Ak];omega) (by rw[Ak];omega) ?_;intro v2 m2 e;rw[Di]at e;obtain⟨a2,c2,rfl⟩:=e.shape;exact G.quoT (Cd b k) 1000000000 (Cd b (k/1000000000)) kV oV oV oV (Aaf b k)<|G.b (Q (k/1000000000,ys++[k%1000000000],(a2,(Ai (ys++[k%1000000000])).length,c2)) _ _ _ cV (E.trans H) ⟨j,t.step h0,e⟩ dV)
  refine G.remT (Cd b k) 1000000000 ((k%1000000000:Nat):Int) kV oV (by rw[Zw];unfold Cd;split<;>simp_all) oV oV ?_
  refine G.lF (k%1000000000:Nat) 0<|G.B 3 1 8 zO [zI (k%1000000000:Nat)] (Av [k%1000000000]) ?_;intro g u1 H L;refine G.append 3 1 8 zO PH.mt (Ai ys) [zI (k%1000000000:Nat)] (.slice a K c) g 0 1 1 kV rfl rfl oV A L (Av [k%1000000000]) rfl oV (by rw[Ak];omega) (by rw[Ak];omega) ?_;intro v2 m2 e;rw[Di]at e;obtain⟨a2,c2,rfl⟩:=e.shape;exact G.quoT (Cd b k) 1000000000 (Cd b (k/1000000000)) kV oV oV oV (Aaf b k)<|G.b (Q (k/1000000000,ys++[k%1000000000],(a2,(Ai (ys++[k%1000000000])).length,c2)) _ _ _ cV (E.trans H) ⟨j,t.step h0,e⟩ dV)
 by_cases f:n<0
 ·exact G.lssT n 0 kV f (key true (by simpa using f))
 exact G.lssF n 0 kV f (key false (by simpa using f))
end
section
variable {k:Nat}{q r:Rat}{u:PH}{x x':Value}{y z:Int}
def QP (u:PH)(v:Value)(q:Rat):Prop :=
 ∃ a n c a' n' c',v=.agg #[.bool (decide (q.num<0)),.slice a n c,zL,.slice a' n' c']/\Cy u (.slice a n c) (Aa q.num.natAbs)/\Cy u (.slice a' n' c') (Aa q.den)
def QP.mono {u f:PH}{v:Value}{q:Rat}(h:QP u v q)(e:PH.le u f):QP f v q:=by
 obtain⟨a,n,c,j,D,m,t,A,C⟩:=h;exact⟨a,n,c,j,D,m,t,A.mono e,C.mono e⟩
def QP.opn {v:Value}(h:QP u v q):∃ b a n c e j f,v=.agg #[.bool b,.slice a n c,zL,.slice e j f]/\b=decide (q.num<0)/\Do u (.agg #[.bool b,.slice a n c]) q.num/\Do u (.agg #[zL,.slice e j f]) (q.den:Int):=by
 obtain⟨a,n,c,e,j,f,rfl,m,t⟩:=h;exact⟨_,a,n,c,e,j,f,rfl,rfl,⟨a,n,c,rfl,m⟩,⟨e,j,f,by rw[decide_eq_false oV],t⟩⟩
def QP.mk {u:PH}{q:Rat}{y z:Int}{b b':Bool}{a e:zP}{n c h f:Nat}(t:Do u (.agg #[.bool b,.slice a n c]) y)(A:Do u (.agg #[.bool b',.slice e h f]) z)(C:q.num=y)(D:(q.den:Int)=z) :
 QP u (.agg #[.bool b,.slice a n c,.bool b',.slice e h f]) q:=by
 obtain⟨_,_,_,j,E⟩:=t;obtain⟨_,_,_,m,F⟩:=A;subst C D;obtain⟨rfl,rfl,rfl,rfl⟩:=j;obtain⟨rfl,rfl,rfl,rfl⟩:=m;exact⟨_,_,_,_,_,_,rfl,E,F⟩
def Ai3 (y:Int)(z:Nat):y.tdiv (Nat.gcd y.natAbs z:Nat)=y/(Nat.gcd y.natAbs z:Nat):=by
 apply Int.tdiv_eq_ediv_of_dvd;exact Int.ofNat_dvd_left.2 (Nat.gcd_dvd_left _ _)
theorem O7 (f:0<z):(Rat.divInt y z).num=y.tdiv (Nat.gcd y.natAbs z.natAbs:Nat)/\((Rat.divInt y z).den:Int)=z.tdiv (Nat.gcd y.natAbs z.natAbs:Nat)/\0<z.tdiv (Nat.gcd y.natAbs z.natAbs:Nat):=by
 have h:=W5 (y:=y) f rfl;have e:((Rat.divInt y z).den:Int)=z.tdiv (Nat.gcd y.natAbs z.natAbs:Nat):=by grind
 refine⟨by rw[h.1,Ai3],e,?_⟩;rw[<-e];have:=(Rat.divInt y z).den_pos;omega
def Ave (e:z<0):(Rat.divInt y z).num = -(y.tdiv (Nat.gcd y.natAbs z.natAbs:Nat))/\((Rat.divInt y z).den:Int) = -(z.tdiv (Nat.gcd y.natAbs z.natAbs:Nat))/\z.tdiv (Nat.gcd y.natAbs z.natAbs:Nat)<0:=by
 have h:=O7 (y:=-y) (z:=-z) oV;rw[Oz,A3l,A3l,A7k,A7k]at h;exact⟨h.1,h.2.1,oV⟩
def V2 {g k:Nat}(h:nl y.natAbs<=k):nl (y.tdiv g).natAbs<=k:=by
 refine A04 (C4 ?_) h;rw[A8o];exact A3u _ _
def P6 (m:-9223372036854775807<=z)(t:z<=9223372036854775807):zF 22 [zI z] u fun v A=>QP A v (z:Rat):=by
 refine Fn0.o func22<|G.c call67 (Ac6 m t) ?_;intro F D C e;obtain⟨h,a1,n1,c1,rfl,_,_⟩:=e.opn;refine G.c call67 (Ac6 (n:=1) oV oV) ?_;intro H E l2 f;obtain⟨j,a2,n2,c2,rfl,_,_⟩:=f.opn;exact G.r (.agg #[.bool h,.slice a1 n1 c1,.bool j,.slice a2 n2 c2]) ⟨rfl,QP.mk (e.mono l2) f rfl rfl⟩
def V8 (C:Do u x y)(f:Do u x' z)(I:nl y.natAbs<=100000000000)(sz:nl z.natAbs<=100000000000)(hz:z≠0) :
 zF 73 [x,x'] u fun v u'=>QP u' v (Rat.divInt y z):=by
 obtain⟨b,a,n,c,rfl,_,_⟩:=C.opn;obtain⟨b',a',n',c',rfl,_,A⟩:=f.opn;obtain⟨rfl,_⟩:=A.len;have a8:0<(Aa z.natAbs).length:=Df.2 oV;have a0:0<Nat.gcd y.natAbs z.natAbs:=A7j _ oV;have h:nl (Nat.gcd y.natAbs z.natAbs)<=100000000000:=A04 (C4 (Nat.gcd_le_right _ oV)) sz;refine Fn0.o func73<|G.eF ((Aa z.natAbs).length:Int) 0<|G.c call145 (Abo C f I sz) ?_;intro v1 u1 P D;obtain⟨b1,a1,n1,c1,rfl,_,_⟩:=D.opn;refine G.c call147 (Q5 (C.mono P) D I (by simpa using h) oV) ?_;rintro v2 u2 l2 ⟨va,vb,rfl,j,E⟩;obtain⟨U,a2,n2,c2,rfl,_,_⟩:=j.opn;obtain⟨b3,a3,n3,c3,rfl,_,_⟩:=E.opn;refine G.c call147 (Q5 (f.mono (P.trans l2)) (D.mono l2) sz (by simpa using h) oV) ?_;rintro v4 u4 l4 ⟨va,vb,rfl,F,H⟩;obtain⟨b4,Q,n4,X,rfl,e,_⟩:=F.opn;obtain⟨b5,a5,n5,c5,rfl,_,_⟩:=H.opn;have j:=j.mono l4;rcases Bac hz with hn|hp
 ·obtain⟨m,t,J⟩:=Ave (y:=y) hn;rw[decide_eq_true J]at e;subst e;refine G.c call148 (Ts j (A04 (V2 I) oV)) ?_;intro v6 u6 l6 K;obtain⟨V,R,n6,Y,rfl,_,_⟩:=K.opn;refine G.c call148 (Ts (F.mono l6) (A04 (V2 sz) oV)) ?_;intro v7 u7 l7 L;obtain⟨W,T,n7,Z,rfl,_,_⟩:=L.opn;exact G.r (.agg #[.bool V,.slice R n6 Y,.bool W,.slice T n7 Z]) ⟨rfl,QP.mk (K.mono l7) L m t⟩
 obtain⟨m,t,J⟩:=O7 (y:=y) hp;rw[decide_eq_false oV]at e;subst e;exact G.r (.agg #[.bool U,.slice a2 n2 c2,zL,.slice Q n4 X]) ⟨rfl,QP.mk j F m t⟩
def Nt (h:QP u x q)(D:nl q.num.natAbs<=100000000000):zF 81 [x] u fun v F=>v=.bool (decide (q.num=0)):=by
 obtain⟨b,a,n,c,j,E,m,rfl,C,f,t⟩:=h.opn;obtain⟨_,_,_,e,hi⟩:=f;obtain⟨_,rfl,rfl,rfl⟩:=e;obtain⟨rfl,_⟩:=hi.len;have hp:=Df (n:=q.num.natAbs);refine Fn0.o func81 ?_;by_cases h0:q.num=0
 ·exact G.eT' ((Aa q.num.natAbs).length:Int) 0 (by rw[h0];simp[A7])<|G.r zT ⟨rfl,by simp[h0]⟩
 have A:0<(Aa q.num.natAbs).length:=hp.2 oV;exact G.eF ((Aa q.num.natAbs).length:Int) 0<|G.r zL ⟨rfl,by simp[h0]⟩
def Aef (h:QP u x q)(j:nl q.num.natAbs<=100000000000):zF 33 [x] u fun v F=>v=zI (sgn q.num):=by
 obtain⟨b,a,n,c,m,E,t,rfl,e,A,C⟩:=h.opn;refine Fn0.o func33 ?_;by_cases f:q.num<0
 ·rw[decide_eq_true f]at e;subst e;exact G.r (zI (-1)) ⟨rfl,by simp[sgn,f]⟩
 rw[decide_eq_false f]at e;subst e;refine G.c call81 (Nt h j) ?_;rintro I H D rfl;by_cases h0:q.num=0
 ·rw[decide_eq_true h0];exact G.r zO ⟨rfl,by simp[sgn,h0]⟩
 rw[decide_eq_false h0];exact G.r (zI 1) ⟨rfl,by simp[sgn];omega⟩
def Akr (q r:Rat):Rat.divInt (q.num*(r.den:Int)-r.num*(q.den:Int)) ((q.den:Int)*(r.den:Int))=q-r:=by
 have h:=Rq q (-r);rw[Ba3,Ba4,A8u,<-A7i]at h;rw[h,Bae]
def Ab3 (e:nl y.natAbs<=k)(f:nl z.natAbs<=k):nl (y-z).natAbs<=k+1:=by
 rw[A7i];exact Sb e (by rw[A3l];exact f)
def Gh (Q:QP u x q)(A:QP u x' r)(e:Sz q 10000000000)(f:Sz r 10000000000) :
 zF 28 [x,x'] u fun v X=>QP X v (q*r):=by
 obtain⟨b,a,n,c,Y,n',c',rfl,_,P,L⟩:=Q.opn;obtain⟨Z,a2,n2,c2,F,V,J,rfl,_,t,m⟩:=A.opn;refine Fn0.o func28<|G.c call74 (Gg P t (A04 e.1 oV) (A04 f.1 oV)) ?_;intro v3 u3 E R;refine G.c call74 (Gg (L.mono E) (m.mono E) (A04 e.2 oV) (A04 f.2 oV)) ?_;intro v4 u4 U T;refine G.c call73 (V8 (R.mono U) T (A04 (Bx e.1 f.1) oV) (A04 (Bx (k:=10000000000) (by simpa using e.2) (by simpa using f.2)) oV) (Yl q r)) ?_;intro v5 u5 l5 C;rw[Ac8]at C;obtain⟨I,H,W,K,h,D,j,rfl,_⟩:=C.opn;exact G.r (.agg #[.bool I,.slice H W K,zL,.slice h D j]) ⟨rfl,C⟩
def Pd (V:QP u x q)(E:QP u x' r)(m:Sz q 10000000000)(t:Sz r 10000000000) :
 zF 26 [x,x'] u fun v u'=>QP u' v (q+r):=by
 obtain⟨b,a,n,c,a',n',c',rfl,_,U,J⟩:=V.opn;obtain⟨b2,a2,n2,c2,L,a0,R,rfl,_,D,h⟩:=E.opn;have e:nl ((q.den:Int)).natAbs<=10000000000:=by simpa using m.2
 have f:nl ((r.den:Int)).natAbs<=10000000000:=by simpa using t.2
 refine Fn0.o func26<|G.c call74 (Gg U h (A04 m.1 oV) (A04 f oV)) ?_;intro v3 u3 j W;refine G.c call74 (Gg (D.mono j) (J.mono j) (A04 t.1 oV) (A04 e oV)) ?_;intro v4 u4 H X;refine G.c call75 (Al8 (W.mono H) X (A04 (Bx m.1 f) oV) (A04 (Bx t.1 e) oV)) ?_;intro v6 u6 K Y;refine G.c call74 (Gg (J.mono ((j.trans H).trans K)) (h.mono ((j.trans H).trans K)) (A04 e oV) (A04 f oV)) ?_;intro v7 u7 l7 Z;refine G.c call73 (V8 (Y.mono l7) Z (A04 (Sb (Bx m.1 f) (Bx t.1 e)) oV) (A04 (Bx e f) oV) (Yl q r)) ?_;intro v5 u5 l5 F;rw[Rq]at F;obtain⟨Q,P,n5,T,A,I,C,rfl,_⟩:=F.opn;exact G.r (.agg #[.bool Q,.slice P n5 T,zL,.slice A I C]) ⟨rfl,F⟩
def Adl (V:QP u x q)(E:QP u x' r)(m:Sz q 10000000000)(t:Sz r 10000000000) :
 zF 32 [x,x'] u fun v u'=>QP u' v (q-r):=by
 obtain⟨b,a,n,c,a',n',c',rfl,_,U,J⟩:=V.opn;obtain⟨b2,a2,n2,c2,L,a0,R,rfl,_,D,h⟩:=E.opn;have e:nl ((q.den:Int)).natAbs<=10000000000:=by simpa using m.2
 have f:nl ((r.den:Int)).natAbs<=10000000000:=by simpa using t.2
 refine Fn0.o func32<|G.c call74 (Gg U h (A04 m.1 oV) (A04 f oV)) ?_;intro v3 u3 j W;refine G.c call74 (Gg (D.mono j) (J.mono j) (A04 t.1 oV) (A04 e oV)) ?_;intro v4 u4 H X;refine G.c call85 (Awi (W.mono H) X (A04 (Bx m.1 f) oV) (A04 (Bx t.1 e) oV)) ?_;intro v6 u6 K Y;refine G.c call74 (Gg (J.mono ((j.trans H).trans K)) (h.mono ((j.trans H).trans K)) (A04 e oV) (A04 f oV)) ?_;intro v7 u7 l7 Z;refine G.c call73 (V8 (Y.mono l7) Z (A04 (Ab3 (Bx m.1 f) (Bx t.1 e)) oV) (A04 (Bx e f) oV) (Yl q r)) ?_;intro v5 u5 l5 F;rw[Akr]at F;obtain⟨Q,P,n5,T,A,I,C,rfl,_⟩:=F.opn;exact G.r (.agg #[.bool Q,.slice P n5 T,zL,.slice A I C]) ⟨rfl,F⟩
def At6 (V:QP u x q)(t:QP u x' r)(D:Sz q 10000000000)(E:Sz r 10000000000)(U:r≠0) :
 zF 82 [x,x'] u fun v u'=>QP u' v (q/r):=by
 obtain⟨b,a,n,c,a',n',c',rfl,_,T,R⟩:=V.opn;obtain⟨b2,a2,n2,c2,J,a0,P,rfl,_,m,j⟩:=t.opn;have F:nl ((q.den:Int)).natAbs<=10000000000:=by simpa using D.2
 have H:nl ((r.den:Int)).natAbs<=10000000000:=by simpa using E.2
 have W:(q.den:Int)*r.num≠0:=A8l (by have:=q.den_nz;omega) (fun h=>U (A4r.1 h));refine Fn0.o func82<|G.c call74 (Gg T j (A04 D.1 oV) (A04 H oV)) ?_;intro v3 u3 I X;refine G.c call74 (Gg (R.mono I) (m.mono I) (A04 F oV) (A04 E.1 oV)) ?_;intro v4 u4 Z Y;refine G.c call73 (V8 (X.mono Z) Y (A04 (Bx D.1 H) oV) (A04 (Bx F E.1) oV) W) ?_;intro v5 u5 l5 A;rw[Abt]at A;obtain⟨L,K,n5,Q,e,C,f,rfl,_⟩:=A.opn;exact G.r (.agg #[.bool L,.slice K n5 Q,zL,.slice e C f]) ⟨rfl,A⟩
end
section
open Go.Lib
variable {j k n:Nat}
def ld (n k:Nat):zB:=(List.range k).map (dg n)
def V5 (n k:Nat):ld n (k+1)=ld n k++[dg n k]:=by simp[ld,A5d]
def Dg (n k:Nat):(ld n k).length=k:=by simp[ld]
def Ab8 (h:j<k):(ld n k)[j]?=some (dg n j):=by simp[ld,h]
def Au2 (h:j<=k):(ld n k).take j=ld n j:=by
 apply A4g;intro i;rw[A3y];split
 ·rw[Ab8 oV,Ab8 oV]
 rw[A1v (by rw[Dg];omega)]
def Ac2 (n:Nat):(ld n (nDigits n)).reverse=decDigits n:=by
 rw[decDigits_eq];apply A4g;intro i;by_cases h:i<nDigits n
 ·rw[A9s (by rw[Dg];exact h),Dg,Ab8 oV];simp[h]
 rw[A1v (by simp[Dg];omega),A1v gV]
def Qw (n i:Nat):(Aa n).getD i 0=n/1000000000^i%1000000000:=by
 induction i generalizing n with
 |zero =>
  by_cases h:n=0
  ·subst h;simp[A7]
  rw[Dz h];simp
 |succ i ih =>
  by_cases h:n=0
  ·subst h;simp[A7]
  rw[Dz h,A6b,ih,A2d,A19,A45]
def Ajo (i:Nat):(1000000000:Nat)^i=10^(9*i):=by rw[Nat.pow_mul]
def As7 (n i t:Nat)(f:t<9):dg n (9*i+t)=UInt8.ofNat (48+(Aa n).getD i 0/10^t%10):=by
 rw[Qw,Ajo];have e:(1000000000:Nat)=10^t*10^(9-t):=by rw[<-A4k,show t+(9-t)=9 by omega]
 rw[e,Nat.mod_mul_right_div_self,Nat.mod_mod_of_dvd _ (by rw[show 9-t=(8-t)+1 by omega,A2d];exact Nat.dvd_mul_left _ _),A45,<-A4k];rfl
def R6 (h:k<256):(UInt8.ofNat k).toNat=k:=gV
def Rn (n j:Nat):(dg n j).toNat=48+n/10^j%10:=by
 unfold dg;have:n/10^j%10<10:=A29 _ oV;exact R6 oV
def Ae3 (h:n<10^(k+1)):n/10^k%10=0↔n<10^k:=by
 have hp:0<10^k:=A66 oV;have e:n/10^k<10:=by rw[A3b hp,A19,<-A2d];exact h
 rw[A5i e,Nat.div_eq_zero_iff];constructor
 ·rintro (h|h)
  ·omega
  exact h
 exact .inr
def Rv (n:Nat):n<10^(9*(Aa n).length):=by rw[<-Ajo];exact Dd n
def Pz (h:10^j<=n):nDigits n=j+nDigits (n/10^j):=by
 induction j generalizing n with
 |zero=>simp
 |succ j ih =>
  have hp:0<10^j:=A66 oV;rw[A2d]at h;rw[nDigits_big oV,ih (n:=n/10) (by rw[A4u oV];exact h),A2d,A19 (10^j),<-A45];omega
def U4 (h:n≠0):nDigits n=9*((Aa n).length-1)+nDigits ((Aa n).getD ((Aa n).length-1) 0):=by
 have m:=Rw h;rw[Ajo]at m;rw[Qw,Pz m,Ajo,A5i];rfl;rw[A3b (A66 oV)];have f:=Dd n;have t:0<nl n:=by
  rcases A2a (nl n) with h0|h0
  ·rw[h0]at f;simp at f;omega
  exact h0
 have e:(1000000000:Nat)*10^(9*((Aa n).length-1))=1000000000^nl n:=by
  rw[<-Ajo,A19,<-A2d];congr 1;show nl n-1+1=nl n;omega
 rw[e];exact f
def Il (l:zB):Prop:=∀ b∈l,48<=b.toNat/\b.toNat<=57
def rdA (a:Nat)(l:zB):Nat:=l.foldl (fun a b=>10*a+(b.toNat-48)) a
def rd (l:zB):Nat:=rdA 0 l
def Ajk (a:Nat)(l l':zB):rdA a (l++l')=rdA (rdA a l) l':=by simp[rdA]
def Ajz (a:Nat)(l:zB):rdA a l=a*10^l.length+rd l:=by
 induction l generalizing a with
 |nil=>simp[rdA,rd]
 |cons b l ih =>
  have e:rdA a (b::l)=rdA (10*a+(b.toNat-48)) l:=rfl;have f:rd (b::l)=rdA (10*0+(b.toNat-48)) l:=rfl;rw[e,f,ih,ih (10*0+(b.toNat-48)),A3f,A2d,A3z,A2w,<-A3p]
  congr 1
  rw[A16];congr 1;rw[A19 10 a,A17,A19 10]
def Zv (l l':zB):rd (l++l')=rd l*10^l'.length+rd l':=by rw[rd,Ajk,Ajz];rfl
def Aat {l:zB}(h:Il l):rd l<10^l.length:=by
 induction l with
 |nil=>simp[rd,rdA]
 |cons b l ih =>
  have e:rd (b::l)=rdA (10*0+(b.toNat-48)) l:=rfl;have t:=h b mV;have:=ih fun x f=>h x (by simp[f]);rw[e,Ajz,A3f,A2d];have m:(10*0+(b.toNat-48))*10^l.length<=9*10^l.length:=A13 _ oV;omega
def O8 (n:Nat):Il (decDigits n):=by
 rw[decDigits_eq];intro b e;simp only[A1b]at e;obtain⟨t,_,rfl⟩:=e;rw[Rn];have:=A29 (n/10^(nDigits n-1-t)) (show 0<10 by omega);omega
def Aiu (n:Nat):rd (decDigits n)=n:=by
 induction n using Nat.strongRecOn with
 |ind n ih =>
  rw[decDigits];by_cases h:n<10
  ·rw[dif_pos h];have:(UInt8.ofNat (48+n)).toNat=48+n:=R6 oV;show 10*0+((UInt8.ofNat (48+n)).toNat-48)=n;omega
  rw[dif_neg h,Zv,ih _ oV];have:(UInt8.ofNat (48+n%10)).toNat=48+n%10:=R6 oV;show n/10*10^1+(10*0+((UInt8.ofNat (48+n%10)).toNat-48))=n;omega
def Gk (n:Nat):decDigits n≠[]:=by
 intro h;have:=decDigits_length n;rw[h]at this;have:=nDigits_pos n;simp at *;omega
def Afj (n:Nat):(decDigits n)[0]?=some (dg n (nDigits n-1)):=by
 rw[decDigits_eq];have h:0<nDigits n:=nDigits_pos n;simp[h]
def Hd (h:n≠0):10^(nDigits n-1)<=n:=by
 induction n using Nat.strongRecOn with
 |ind n ih =>
  by_cases e:n<10
  ·rw[nDigits_small e];simp;omega
  rw[nDigits_big e];have f:=ih (n/10) oV oV;have m:=nDigits_pos (n/10);rw[show nDigits (n/10)+1-1=(nDigits (n/10)-1)+1 by omega,A2d];omega
def Aof (h:n≠0):49<=(dg n (nDigits n-1)).toNat:=by
 rw[Rn];have f:=nDigits_pos n;have e:=lt_pow_nDigits n;rw[show nDigits n=(nDigits n-1)+1 by omega]at e;have m:¬ _:=fun h0=>absurd ((Ae3 e).1 h0) (by have:=Hd h;omega);omega
end
section
variable {R l:zB}{i:Nat}{u:PH}{x:Value}{z:Int}
def Q0 (h:Do u x z)(t:nl z.natAbs<=100000000000):zF 206 [x] u fun v _=>v=zI (Lib.nDigits z.natAbs:Nat):=by
 obtain⟨b,a,n,c,rfl,W,hi⟩:=h.opn;obtain⟨rfl,_⟩:=hi.len;have P:(Aa z.natAbs).length<=100000000000:=t;refine Fn0.o func206 ?_;by_cases h0:z.natAbs=0
 ·exact G.eT' ((Aa z.natAbs).length:Int) 0 (by rw[h0,A7];rfl)<|G.r (zI 1) ⟨rfl,by rw[h0,Lib.nDigits_small oV];rfl⟩
 have hp:0<(Aa z.natAbs).length:=Df.2 oV;have H:=U4 h0;have E:=Pn h0;have e:=(Ao z.natAbs).getD ((Aa z.natAbs).length-1);generalize Aa z.natAbs=l at *
 generalize V:Lib.nDigits z.natAbs=N at *
 have m:∀ k,k<1000000000->Lib.nDigits k<=9:=by
  intro k C;rcases A2a k with h|h
  ·subst h;rw[Lib.nDigits_small oV];omega
  have f:=Hd (n:=k) oV;have F:10^(Lib.nDigits k-1)<10^9:=A22 f oV;have T:=(A7l (by omega:1<10)).1 F;omega
 refine G.eF l.length 0<|G.s l.length 1 (l.length-1:Nat)<|G.mul 9 ((l.length-1:Nat):Int) ((9*(l.length-1):Nat):Int) kV oV oV oV<|G.s l.length 1 (l.length-1:Nat) ?_;obtain⟨Q,off,rfl,L⟩:=hi.at (j:=l.length-1) oV;refine G.n l.length c L ?_;have U:=m _ e;refine G.l (ι:=Nat×Nat) (fun i=>[(3,iV i.1),(4,iV i.2)]) (fun _=>[])
  (fun i _ I=>(i.1+(if i.2=0 then 0 else Lib.nDigits i.2)=N/\i.2<1000000000)/\I=PH.mt) (fun i=>i.2) (9*(l.length-1),l.getD (l.length-1) 0) ⟨⟨by dsimp only;rw[if_neg E];omega,e⟩,rfl⟩ ?_
 rintro J ⟨A,k⟩ K X I D ⟨⟨f,F⟩,rfl⟩;by_cases C:k=0
 ·subst C;exact G.gF (0:Nat) 0<|G.r (zI A) ⟨rfl,by simp at f;rw[f]⟩
 rw[if_neg C]at f;refine G.gT k 0<|G.i A<|G.quo (k:Int) 10 ((k/10:Nat):Int) kV oV oV oV oV<|G.b (K (A+1,k/10) _ _ _ cV D ⟨⟨?_,dV⟩,rfl⟩ dV);dsimp only;by_cases t:k<10
 ·rw[Lib.nDigits_small t]at f;rw[if_pos oV];omega
 rw[Lib.nDigits_big t]at f;rw[if_neg oV];omega
structure Of (R l:zB)(i:Nat):Prop where
 len:l.length=R.length
 at_:∀ k,k<R.length->l[k]?=if k<i\/R.length-i<=k then R[R.length-1-k]? else R[k]?
def Of.start (R:zB):Of R R 0:=⟨rfl,fun k e=>by rw[if_neg oV]⟩
theorem Of.step (h:Of R l i)(hi:i<R.length-1-i):Of R ((l.set i (l.getD (R.length-1-i) 0)).set (R.length-1-i) (l.getD i 0)) (i+1):=by
 have f:=h.len;have j:l.getD (R.length-1-i) 0=R.getD (R.length-1-i) 0:=by
  rw[A02,h.at_ _ oV,if_neg oV,A02]
 have m:l.getD i 0=R.getD i 0:=by
  rw[A02,h.at_ _ oV,if_neg oV,A02]
 refine⟨by simp[f],fun k e=>?_⟩;rw[A1z];split
 ·grind
 rw[A1z];split
 ·grind
 rw[h.at_ k e];by_cases t:k<i\/R.length-i<=k
 ·grind
 grind
theorem Of.done (h:Of R l i)(hi:¬ i<R.length-1-i):l=R.reverse:=by
 apply A4g;intro k;by_cases e:k<R.length
 ·rw[h.at_ k e,A9s e];split
  ·rfl
  grind
 rw[A1v (by rw[h.len];omega),A1v gV]
def Ht {j:Nat}(h:j<l.length):(Bm l)[j]?=some (.int .u8 ((l.getD j 0).toNat:Int)):=by
 rw[Bm,A1a,A01 h,A02,A01 h];rfl
def Mw (l:zB)(j:Nat)(b:UInt8):(Bm l).set j (.int .u8 (b.toNat:Int))=Bm (l.set j b):=by simp[Bm,A2g]
def N2 (h:z<0):Lib.itoa z=45::Lib.decDigits z.natAbs:=by rw[Lib.itoa,if_pos h]
def Em (h:¬ z<0):Lib.itoa z=Lib.decDigits z.natAbs:=by rw[Lib.itoa,if_neg h];congr 1;omega
def Ago (h:Do u x z)(hs:nl z.natAbs<=100000000000):zF 146 [x] u fun v _=>v=zS (Lib.itoa z):=by
 obtain⟨b,a,n,c,rfl,hb,hi⟩:=h.opn;obtain⟨rfl,_⟩:=hi.len;have aq:(Aa z.natAbs).length<=100000000000:=hs;refine Fn0.o func146 ?_;by_cases h0:z.natAbs=0
 ·exact G.eT' ((Aa z.natAbs).length:Int) 0 (by rw[h0,A7];rfl)<|G.r (zS [48]) ⟨rfl,by rw[Em oV,h0,Lib.decDigits_one oV];rfl⟩
 have hp:0<(Aa z.natAbs).length:=Df.2 oV;refine G.eF ((Aa z.natAbs).length:Int) 0 ?_;have ab:=Rv z.natAbs;generalize hN:z.natAbs=N at *
 generalize hL:Aa N=l at *
 refine G.l (ι:=Nat×(zP×Nat×Nat)) (fun i=>[(1,.p 0 0),(3,sV i.2.1 i.2.2.1 i.2.2.2),(4,iV i.1)]) (fun _=>[(0,⟨67,[bV b,sV a l.length c]⟩)])
  (fun i _ V=>i.1<=l.length/\Af PH.mt V (.slice i.2.1 i.2.2.1 i.2.2.2) 5 1 (Bm (ld N (9*i.1)))) (fun i=>l.length-i.1) (0,(none,0,0)) ⟨mV,Af.nil _ _ _⟩ ?_
 rintro J ⟨i,a1,n1,c1⟩ hJ u1 m1 a7 ⟨ae,f⟩;simp only at ae f hJ;by_cases ap:i<l.length
 ·refine G.lT i l.length ?_;obtain⟨bb,off,rfl,he⟩:=(hi.mono a7).at (j:=i) oV;refine G.n (b:=bb) (off:=off) (j:=i) (e:=(zI (l.getD i 0:Nat))) l.length c he ?_;have a9:l.getD i 0<1000000000:=by rw[<-hL];exact (Ao N).getD i
  refine G.loop (ι:=Nat×(zP×Nat×Nat)) (fun q=>[(1,.p 0 0),(3,sV q.2.1 q.2.2.1 q.2.2.2),(4,iV i),(5,iV (l.getD i 0/10^q.1:Nat)),(6,iV q.1)]) (fun _=>[(0,⟨67,[bV b,sV (some ⟨bb,off,none⟩) l.length c]⟩)])
   (fun q _ V=>q.1<=9/\Af PH.mt V (.slice q.2.1 q.2.2.1 q.2.2.2) 5 1 (Bm (ld N (9*i+q.1)))) (fun q=>9-q.1) (0,(a1,n1,c1)) kV (fun _=>kV) ⟨kV,by rw[A8j,Ba5];kernel_rfl,kV⟩ ⟨mV,f⟩ ?_
  clear f;rintro J2 ⟨t,a2,n2,c2⟩ a5 u2 m2 W ⟨ht,f⟩;simp only at ht f a5;have ag:=f.len;rw[Au,Dg]at ag;by_cases al:t<9
  ·refine G.lT t 9 ?_;have ad:l.getD i 0/10^t<1000000000:=A22 (A3u _ _) a9;have ac:(Lib.dg N (9*i+t)).toNat=48+l.getD i 0/10^t%10:=by
    rw[As7 N i t al,hL];exact R6 oV
   generalize hD:l.getD i 0/10^t=D at ad ac⊢;refine G.rem ((D:Nat):Int) 10 ((D%10:Nat):Int) kV oV oV oV oV<|G.p 48 (D%10:Nat) ((Lib.dg N (9*i+t)).toNat:Int)<|G.convI .i64 .u8 .i64 ((Lib.dg N (9*i+t)).toNat:Int) ((Lib.dg N (9*i+t)).toNat:Int) kV (Aj9 oV oV)<|G.B 5 1 1 (.int .u8 0) [.int .u8 ((Lib.dg N (9*i+t)).toNat:Int)] (Mj [Lib.dg N (9*i+t)]) ?_;intro g u3 l3 e3;refine G.append 5 1 1 (.int .u8 0) PH.mt (Bm (ld N (9*i+t))) [.int .u8 ((Lib.dg N (9*i+t)).toNat:Int)] (.slice a2 n2 c2) g 0 1 1 kV rfl rfl oV f e3 (Mj [Lib.dg N (9*i+t)]) rfl oV (by rw[Au,Dg];omega) (by rw[Au,Dg];omega) ?_;intro v4 m4 X;rw[show Bm (ld N (9*i+t))++[.int .u8 ((Lib.dg N (9*i+t)).toNat:Int)]=Bm (ld N (9*i+(t+1))) by rw[show 9*i+(t+1)=9*i+t+1 by omega,V5,P0];rfl]at X;obtain⟨a4,c4,rfl⟩:=X.shape;exact G.quo ((D:Nat):Int) 10 ((l.getD i 0/10^(t+1):Nat):Int) kV oV oV oV (by rw[A2d,<-A45,hD];omega)<|G.i t<|G.b (a5 (t+1,(a4,(Bm (ld N (9*i+(t+1)))).length,c4)) _ _ _ cV (W.trans l3) ⟨dV,X⟩ dV)
  have:t=9:=oV;subst this;exact G.lF (9:Nat) 9<|G.i i<|G.b (hJ (i+1,(a2,n2,c2)) _ _ _ cV (a7.trans W) ⟨dV,f⟩ dV)
 have:i=l.length:=oV;subst this;refine G.lF l.length l.length ?_;obtain⟨A,co,e⟩:=f.ptr (by intro e;have:=congrArg List.length e;rw[Au,Dg,A30]at this;omega);rw[Au,Dg]at e;simp only[Value.slice.injEq]at e;obtain⟨rfl,rfl,rfl⟩:=e;refine G.loop (ι:=Nat) (fun k=>[(1,.p 0 0),(3,sV (zA A) (k+1) c1)]) (fun _=>[(0,⟨67,[bV b,sV a l.length c]⟩)])
  (fun k _ V=>(N<10^(k+1)/\k+1<=9*l.length)/\Af PH.mt V (zG A (k+1) c1) 5 1 (Bm (ld N (k+1)))) (fun k=>k) (9*l.length-1) kV (fun _=>kV) ⟨kV,by rw[show 9*l.length-1+1=9*l.length by omega];kernel_rfl,kV⟩ (by rw[show 9*l.length-1+1=9*l.length by omega];exact⟨⟨ab,A08 _⟩,f⟩) ?_
 clear f hJ;rintro J3 k a6 u3 m3 a8 ⟨⟨hk,ao⟩,f⟩;refine G.s (k+1:Nat) 1 k<|G.a A 0 (k+1) c1 k 1 oV<|G.lM none A (0+k*1) (.int .u8 ((Lib.dg N k).toNat:Int)) (f.el (by rw[Bm,A1a,Ab8 oV];rfl)) ?_;have aa:=Ae3 hk;have an:=Rn N k;by_cases hz:N<10^k
 ·refine G.cmpG .eql .u8 ((Lib.dg N k).toNat:Int) 48 true kV rfl (by simp only[Db,decide_eq_true_eq];have:=aa.2 hz;omega)<|G.s (k+1:Nat) 1 k ?_;have am:k+1<=c1:=f.cap;refine G.sliceTo 1 (zA A) (k+1) c1 k kV oV ?_;have a3:=f.take (k:=k) (by rw[Au,Dg];omega);rw[show (Bm (ld N (k+1))).take k=Bm (ld N k) by rw[Bm,<-A5g,Au2 oV];rfl]at a3;rcases k with _|k
  ·simp at hz;omega
  exact G.b (a6 k _ _ _ cV a8 ⟨⟨hz,oV⟩,a3⟩ oV)
 refine G.cmpG .eql .u8 ((Lib.dg N k).toNat:Int) 48 false kV rfl (by simp only[Db,decide_eq_false_iff_not];intro h;exact hz (aa.1 oV)) ?_;have af:Lib.nDigits N=k+1:=Lib.nDigits_unique k N oV hk;clear a6;have Y:=Ac2 N;rw[af]at Y;cases b
 ·have a0:¬ z<0:=by simpa using hb.symm
  have P:(ld N (k+1)).reverse=Lib.itoa z:=by rw[Y,Em a0,hN]
  generalize hR:ld N (k+1)=R at *
  generalize aj:k+1=nR at *
  have ak:nR<=1000000000000:=oV;have ai:1<=nR:=oV;have C:=f.len;rw[Au]at C;refine G.s nR 1 (nR-1:Nat)<|G.l (ι:=Nat×zB) (fun i=>[(3,sV (zA A) nR c1),(7,iV i.1),(8,iV (nR-1-i.1:Nat))]) (fun _=>[])
   (fun i _ V=>i.1<=nR-1/\Of R i.2 i.1/\Af PH.mt V (zG A nR c1) 5 1 (Bm i.2)) (fun i=>nR-i.1) (0,R) ⟨mV,Of.start R,f⟩ ?_
  clear f;rintro J5 ⟨i,l⟩ K u5 m5 L ⟨Z,m,f⟩;simp only at Z m f K;have ah:=m.len;by_cases E:i<nR-1-i
  ·refine G.lT i (nR-1-i:Nat)<|G.o (b:=A) (off:=0) (j:=(nR-1-i)) (e:=(.int .u8 ((l.getD (nR-1-i) 0).toNat:Int))) nR c1 (f.el (Ht oV))<|G.o (b:=A) (off:=0) (j:=i) (e:=(.int .u8 ((l.getD i 0).toNat:Int))) nR c1 (f.el (Ht oV))<|G.a A 0 nR c1 i 1 oV<|G.storeA 1 PH.mt (Bm l) A nR c1 i (.int .u8 ((l.getD (nR-1-i) 0).toNat:Int)) kV f (by rw[Au];omega) rfl rfl ?_;intro m6 H;rw[Mw]at H;refine G.a A 0 nR c1 (nR-1-i) 1 oV<|G.storeA 1 PH.mt _ A nR c1 (nR-1-i) (.int .u8 ((l.getD i 0).toNat:Int)) kV H (by rw[Au,A21];omega) rfl rfl ?_;intro m7 I;rw[Mw]at I;exact G.i i<|G.s (nR-1-i:Nat) 1 ((nR-1-(i+1):Nat):Int)<|G.b (K (i+1,(l.set i (l.getD (nR-1-i) 0)).set (nR-1-i) (l.getD i 0)) _ _ _ cV L ⟨dV,by dsimp only;rw[C]at E⊢;exact m.step E,I⟩ dV)
  refine G.lF i (nR-1-i:Nat) ?_;have U:=m.done (by rw[<-C];exact E);refine G.convB PH.mt 5 5 l A nR c1 kV kV f<|G.give PH.mt (Bm l) _ kV f (fun _=>.inl rfl) ?_;intro u8 l8 _;refine G.r (zS l) ⟨rfl,?_⟩;rw[U,P]
 have a0:z<0:=by simpa using hb.symm
 refine G.B 5 1 1 (.int .u8 0) [.int .u8 45] (Mj [45]) ?_;intro g u4 l4 e4;refine G.append 5 1 1 (.int .u8 0) PH.mt (Bm (ld N (k+1))) [.int .u8 45] (zG A (k+1) c1) g 0 1 1 kV rfl rfl oV f e4 (Mj [45]) rfl oV (by rw[Au,Dg];omega) (by rw[Au,Dg];omega) ?_;intro v5 m5 F;rw[show Bm (ld N (k+1))++[.int .u8 45]=Bm (ld N (k+1)++[45]) by rw[P0];rfl]at F;obtain⟨Q,T,rfl⟩:=F.ptr (by simp[Bm]);rw[Au,A1d,Dg,A20]at F⊢;have P:(ld N (k+1)++[45]).reverse=Lib.itoa z:=by rw[A8q,Y,N2 a0,hN];rfl
 clear f;have f:=F;clear F;have U:(ld N (k+1)++[45]).length=k+1+1:=by rw[A1d,Dg];rfl
 generalize hR:ld N (k+1)++[45]=R at *
 generalize aj:k+1+1=nR at *
 have ak:nR<=1000000000000:=oV;have ai:1<=nR:=oV;have C:=f.len;rw[Au]at C;refine G.s nR 1 (nR-1:Nat)<|G.l (ι:=Nat×zB) (fun i=>[(3,sV (zA Q) nR T),(7,iV i.1),(8,iV (nR-1-i.1:Nat))]) (fun _=>[])
  (fun i _ V=>i.1<=nR-1/\Of R i.2 i.1/\Af PH.mt V (zG Q nR T) 5 1 (Bm i.2)) (fun i=>nR-i.1) (0,R) ⟨mV,Of.start R,f⟩ ?_
 clear f;rintro J5 ⟨i,l⟩ K u5 m5 L ⟨Z,m,f⟩;simp only at Z m f K;have ah:=m.len;by_cases E:i<nR-1-i
 ·refine G.lT i (nR-1-i:Nat)<|G.o (b:=Q) (off:=0) (j:=(nR-1-i)) (e:=(.int .u8 ((l.getD (nR-1-i) 0).toNat:Int))) nR T (f.el (Ht oV))<|G.o (b:=Q) (off:=0) (j:=i) (e:=(.int .u8 ((l.getD i 0).toNat:Int))) nR T (f.el (Ht oV))<|G.a Q 0 nR T i 1 oV<|G.storeA 1 PH.mt (Bm l) Q nR T i (.int .u8 ((l.getD (nR-1-i) 0).toNat:Int)) kV f (by rw[Au];omega) rfl rfl ?_;intro m6 H;rw[Mw]at H;refine G.a Q 0 nR T (nR-1-i) 1 oV<|G.storeA 1 PH.mt _ Q nR T (nR-1-i) (.int .u8 ((l.getD i 0).toNat:Int)) kV H (by rw[Au,A21];omega) rfl rfl ?_;intro m7 I;rw[Mw]at I;exact G.i i<|G.s (nR-1-i:Nat) 1 ((nR-1-(i+1):Nat):Int)<|G.b (K (i+1,(l.set i (l.getD (nR-1-i) 0)).set (nR-1-i) (l.getD i 0)) _ _ _ cV L ⟨dV,by dsimp only;rw[C]at E⊢;exact m.step E,I⟩ dV)
 refine G.lF i (nR-1-i:Nat) ?_;have U:=m.done (by rw[<-C];exact E);refine G.convB PH.mt 5 5 l Q nR T kV kV f<|G.give PH.mt (Bm l) _ kV f (fun _=>.inl rfl) ?_;intro u8 l8 _;refine G.r (zS l) ⟨rfl,?_⟩;rw[U,P]
def Aen (h:Do u x z)(e:nl z.natAbs<=100000000000)(m:Lib.nDigits z.natAbs<=400):zF 154 [x] u fun v _=>v=.tuple #[zS (Lib.itoa z),zO]:=by
 obtain⟨b,a,n,c,rfl,j,hi⟩:=h.opn;refine Fn0.o func154<|G.c call206 (Q0 h e) ?_;rintro C t f rfl;refine G.gF (Lib.nDigits z.natAbs:Nat) 400<|G.c call146 (Ago (h.mono f) e) ?_;rintro D A l2 rfl;exact G.z _
end
section
variable {k:Nat}{l:zB}
def Il.drop (h:Il l)(k:Nat):Il (l.drop k):=fun b e=>h b (A3x e)
def Il.take (h:Il l)(k:Nat):Il (l.take k):=fun b e=>h b (A27 e)
def Ei {k j:Nat}(h:k+j<l.length):(l.drop k).take (j+1)=(l.drop k).take j++[l.getD (k+j) 0]:=by
 rw[A1n];rw[A39,A01 h,A02,A01 h];rfl
def Pb (l:zB)(b:UInt8):rd (l++[b])=10*rd l+(b.toNat-48):=by simp[rd,rdA]
def Mh (h:Il l)(e:k<l.length):48<=(l.getD k 0).toNat/\(l.getD k 0).toNat<=57:=by
 rw[A02,A01 e];exact h _ (A09 e)
theorem D1 (e:k<l.length):l[k]?=some (l.getD k 0):=by grind
def Bj (b:Bool)(l:zB):zB:=if b then 45::l else l
structure Ty (N:Nat)(s:zB)(ys:zK):Prop where
 low:Low ys
 dig:Il s
 sum:N=val ys+1000000000^ys.length*rd s
theorem Ty.step {N:Nat}{s:zB}{ys:zK}(h:Ty N s ys):Ty N (s.take (s.length-9)) (ys++[rd (s.drop (s.length-9))]):=by
 have f:rd (s.drop (s.length-9))<1000000000:=by
  have:=Aat (h.dig.drop (s.length-9));rw[A4y]at this;exact A2s this (by rw[show (1000000000:Nat)=10^9 from rfl];exact A10 oV oV)
 refine⟨h.low.append (Low.cons f Low.nil),h.dig.take _,?_⟩;have e:rd s=rd (s.take (s.length-9))*1000000000+rd (s.drop (s.length-9)):=by
  have:=Zv (s.take (s.length-9)) (s.drop (s.length-9));rw[A4h]at this;by_cases j:9<=s.length
  ·grind
  rw[show s.length-9=0 by omega];simp[rd,rdA]
 rw[Ki,A1d,A20,A2d,h.sum,e,A2o,A17,A19 (rd _) 1000000000];omega
theorem Apc {b:Bool}(j:Il l)(m:l≠[])(h:¬ b=true):(Bj b l).getD 0 0≠45:=by
 cases b
 ·have f:0<l.length:=by cases l;exact absurd rfl m;simp
  have:=Mh j f;intro e;rw[show Bj false l=l from rfl]at e;rw[e]at this;simp at this
 grind
def Ar8 {u:PH}(b:Bool)(l:zB)(hd:Il l)(hl:l≠[])(a3:l.length<=1000000000):zF 77 [zS (Bj b l)] u fun v u'=>Do u' v (Cd b (rd l)):=by
 have a6:0<l.length:=by cases l;exact absurd rfl hl;simp
 refine Fn0.o func77 ?_;have L:Bj b l≠[]:=by cases b<;>simp[Bj,hl]
 refine G.x (Bj b l) [] L ?_;have a0:(Bj b l)[0]?=some ((Bj b l).getD 0 0):=D1 (by cases b<;>simp[Bj];omega)
 refine G.idxS (Bj b l) 0 _ kV a0 ?_;cases b
 ·have L:=Apc (b:=false) hd hl mV;refine G.cmpG .eql .u8 (((Bj false l).getD 0 0).toNat:Int) 45 false kV rfl (by simp only[Db,decide_eq_false_iff_not];intro h;exact L (A8p.1 (by simpa using (by omega:((Bj false l).getD 0 0).toNat=45))))<|G.l (ι:=zB×zK×(zP×Nat×Nat)) (fun i=>[(2,.p 0 0),(3,tV i.1),(4,.p 2001 0)])
   (fun i=>[(0,⟨67,[bF,sN]⟩),(2001,⟨67,[bF,sV i.2.2.1 i.2.2.2.1 i.2.2.2.2]⟩)])
   (fun i _ E=>i.1.length+i.2.1.length<=l.length/\Ty (rd l) i.1 i.2.1/\Af PH.mt E (.slice i.2.2.1 i.2.2.2.1 i.2.2.2.2) 3 1 (Ai i.2.1)) (fun i=>i.1.length) (l,[],(none,0,0)) ⟨mV,⟨Low.nil,hd,by simp[val]⟩,Af.nil _ _ _⟩ ?_
  rintro J ⟨s,ys,⟨a,F,c⟩⟩ V u' E K ⟨Q,f,m⟩;simp only at Q f m V;have T:=m.len;rw[Ak]at T;have C:=f.dig;have a2:(mkS s).size=s.length:=Go.Lib.size_mk s;by_cases h0:0<s.length
  ·refine G.gT s.length 0<|G.sub (s.length:Int) 9 ((s.length:Int)-9) kV rfl oV oV<|G.maxI [3,3] 0 ((s.length:Int)-9) ((s.length-9:Nat):Int) kV oV<|G.loop (ι:=Nat) (fun i=>[(2,.p 0 0),(3,tV s),(4,.p 2001 0),(5,iV (s.length-9:Nat)),(6,iV (rd ((s.drop (s.length-9)).take i):Nat)),(7,iV (s.length-9+i:Nat))])
    (fun _=>[(0,⟨67,[bF,sN]⟩),(2001,⟨67,[bF,sV a F c]⟩)])
    (fun i _ E=>s.length-9+i<=s.length/\Af PH.mt E (.slice a F c) 3 1 (Ai ys)) (fun i=>s.length-i) 0 kV (fun _=>kV) ⟨kV,by rw[A53];kernel_rfl,kV⟩ ⟨oV,m⟩ ?_
   clear m;rintro J2 i H u2 m2 t ⟨hi,m⟩;by_cases e:s.length-9+i<s.length
   ·refine G.lT (s.length-9+i:Nat) s.length ?_;have I:rd ((s.drop (s.length-9)).take (i+1))<1000000000:=by
     have:=Aat ((C.drop (s.length-9)).take (i+1));refine A2s this ?_;rw[show (1000000000:Nat)=10^9 from rfl];exact A10 oV gV
    have a1:=Mh C e;rw[Ei e,Pb]at I;exact G.mul 10 ((rd ((s.drop (s.length-9)).take i):Nat):Int) ((10*rd ((s.drop (s.length-9)).take i):Nat):Int) kV oV oV oV<|G.idxS s (s.length-9+i) _ kV (D1 e)<|G.sub8 ((s.getD (s.length-9+i) 0).toNat:Int) 48 (((s.getD (s.length-9+i) 0).toNat-48:Nat):Int) kV oV oV oV<|G.convI .u8 .i64 .u8 (((s.getD (s.length-9+i) 0).toNat-48:Nat):Int) (((s.getD (s.length-9+i) 0).toNat-48:Nat):Int) kV (Fk oV oV)<|G.add ((10*rd ((s.drop (s.length-9)).take i):Nat):Int) (((s.getD (s.length-9+i) 0).toNat-48:Nat):Int) ((rd ((s.drop (s.length-9)).take (i+1)):Nat):Int) kV (by rw[Ei e,Pb];omega) oV (by rw[Ei e,Pb];omega)<|G.p (s.length-9+i:Nat) 1 ((s.length-9+(i+1):Nat):Int)<|G.b (H (i+1) _ _ _ cV t ⟨oV,m⟩ oV)
   refine G.lF (s.length-9+i:Nat) s.length ?_;have R:(s.drop (s.length-9)).take i=s.drop (s.length-9):=A1j gV;rw[R];have j:=f.step;have D:(s.take (s.length-9)).length=s.length-9:=mV;generalize rd (s.drop (s.length-9))=d at j⊢;refine G.B 3 1 8 zO [zI d] (Av [d]) ?_;intro g u3 W e3;refine G.append 3 1 8 zO PH.mt (Ai ys) [zI d] (.slice a F c) g 0 1 1 kV rfl rfl oV m e3 (Av [d]) rfl oV (by rw[Ak];omega) (by rw[Ak];omega) ?_;intro v4 m4 A;rw[Di]at A;obtain⟨X,c4,rfl⟩:=A.shape;exact G.sliceSTo s (s.length-9) kV kV oV<|G.b (V (s.take (s.length-9),ys++[d],(X,(Ai (ys++[d])).length,c4)) _ _ _ cV ((K.trans t).trans W) ⟨by dsimp only;rw[D,A1d,A20];omega,j,A⟩ (by dsimp only;rw[D];omega))
  have P:s = []:=A2l oV;subst P;refine G.gF (0:Nat) 0<|G.give PH.mt (Ai ys) _ kV m (fun _=>.inl rfl) ?_;intro u3 W hL;refine G.c call149 (Ec (b:=false) (a:=a) (n:=F) (c:=c) (l:=ys) hL f.low oV) ?_;intro v5 u5 l5 U;have hv:val ys=rd l:=by have:=f.sum;simpa[rd,rdA] using this.symm
  rw[hv]at U;obtain⟨Z,Y,n5,c5,rfl,_,_⟩:=U.opn;exact G.r (.agg #[.bool Z,.slice Y n5 c5]) ⟨rfl,U⟩
 refine G.cmpG .eql .u8 (((Bj true l).getD 0 0).toNat:Int) 45 true kV rfl (by simp[Db,Bj])<|G.sliceSFrom (Bj true l) 1 kV kV (by simp[Bj]) ?_;rw[show (Bj true l).drop 1=l from rfl];refine G.l (ι:=zB×zK×(zP×Nat×Nat)) (fun i=>[(2,.p 0 0),(3,tV i.1),(4,.p 2001 0)])
  (fun i=>[(0,⟨67,[bF,sN]⟩),(2001,⟨67,[bT,sV i.2.2.1 i.2.2.2.1 i.2.2.2.2]⟩)])
  (fun i _ E=>i.1.length+i.2.1.length<=l.length/\Ty (rd l) i.1 i.2.1/\Af PH.mt E (.slice i.2.2.1 i.2.2.2.1 i.2.2.2.2) 3 1 (Ai i.2.1)) (fun i=>i.1.length) (l,[],(none,0,0)) ⟨mV,⟨Low.nil,hd,by simp[val]⟩,Af.nil _ _ _⟩ ?_
 rintro J ⟨s,ys,⟨a,F,c⟩⟩ V u' E K ⟨Q,f,m⟩;simp only at Q f m V;have T:=m.len;rw[Ak]at T;have C:=f.dig;have a2:(mkS s).size=s.length:=Go.Lib.size_mk s;by_cases h0:0<s.length
 ·refine G.gT s.length 0<|G.sub (s.length:Int) 9 ((s.length:Int)-9) kV rfl oV oV<|G.maxI [3,3] 0 ((s.length:Int)-9) ((s.length-9:Nat):Int) kV oV<|G.loop (ι:=Nat) (fun i=>[(2,.p 0 0),(3,tV s),(4,.p 2001 0),(5,iV (s.length-9:Nat)),(6,iV (rd ((s.drop (s.length-9)).take i):Nat)),(7,iV (s.length-9+i:Nat))])
   (fun _=>[(0,⟨67,[bF,sN]⟩),(2001,⟨67,[bT,sV a F c]⟩)])
   (fun i _ E=>s.length-9+i<=s.length/\Af PH.mt E (.slice a F c) 3 1 (Ai ys)) (fun i=>s.length-i) 0 kV (fun _=>kV) ⟨kV,by rw[A53];kernel_rfl,kV⟩ ⟨oV,m⟩ ?_
  clear m;rintro J2 i H u2 m2 t ⟨hi,m⟩;by_cases e:s.length-9+i<s.length
  ·refine G.lT (s.length-9+i:Nat) s.length ?_;have I:rd ((s.drop (s.length-9)).take (i+1))<1000000000:=by
    have:=Aat ((C.drop (s.length-9)).take (i+1));refine A2s this ?_;rw[show (1000000000:Nat)=10^9 from rfl];exact A10 oV gV
   have a1:=Mh C e;rw[Ei e,Pb]at I;exact G.mul 10 ((rd ((s.drop (s.length-9)).take i):Nat):Int) ((10*rd ((s.drop (s.length-9)).take i):Nat):Int) kV oV oV oV<|G.idxS s (s.length-9+i) _ kV (D1 e)<|G.sub8 ((s.getD (s.length-9+i) 0).toNat:Int) 48 (((s.getD (s.length-9+i) 0).toNat-48:Nat):Int) kV oV oV oV<|G.convI .u8 .i64 .u8 (((s.getD (s.length-9+i) 0).toNat-48:Nat):Int) (((s.getD (s.length-9+i) 0).toNat-48:Nat):Int) kV (Fk oV oV)<|G.add ((10*rd ((s.drop (s.length-9)).take i):Nat):Int) (((s.getD (s.length-9+i) 0).toNat-48:Nat):Int) ((rd ((s.drop (s.length-9)).take (i+1)):Nat):Int) kV (by rw[Ei e,Pb];omega) oV (by rw[Ei e,Pb];omega)<|G.p (s.length-9+i:Nat) 1 ((s.length-9+(i+1):Nat):Int)<|G.b (H (i+1) _ _ _ cV t ⟨oV,m⟩ oV)
  refine G.lF (s.length-9+i:Nat) s.length ?_;have R:(s.drop (s.length-9)).take i=s.drop (s.length-9):=A1j gV;rw[R];have j:=f.step;have D:(s.take (s.length-9)).length=s.length-9:=mV;generalize rd (s.drop (s.length-9))=d at j⊢;refine G.B 3 1 8 zO [zI d] (Av [d]) ?_;intro g u3 W e3;refine G.append 3 1 8 zO PH.mt (Ai ys) [zI d] (.slice a F c) g 0 1 1 kV rfl rfl oV m e3 (Av [d]) rfl oV (by rw[Ak];omega) (by rw[Ak];omega) ?_;intro v4 m4 A;rw[Di]at A;obtain⟨X,c4,rfl⟩:=A.shape;exact G.sliceSTo s (s.length-9) kV kV oV<|G.b (V (s.take (s.length-9),ys++[d],(X,(Ai (ys++[d])).length,c4)) _ _ _ cV ((K.trans t).trans W) ⟨by dsimp only;rw[D,A1d,A20];omega,j,A⟩ (by dsimp only;rw[D];omega))
 have P:s = []:=A2l oV;subst P;refine G.gF (0:Nat) 0<|G.give PH.mt (Ai ys) _ kV m (fun _=>.inl rfl) ?_;intro u3 W hL;refine G.c call149 (Ec (b:=true) (a:=a) (n:=F) (c:=c) (l:=ys) hL f.low oV) ?_;intro v5 u5 l5 U;have hv:val ys=rd l:=by have:=f.sum;simpa[rd,rdA] using this.symm
 rw[hv]at U;obtain⟨Z,Y,n5,c5,rfl,_,_⟩:=U.opn;exact G.r (.agg #[.bool Z,.slice Y n5 c5]) ⟨rfl,U⟩
end
section
variable {j k n:Nat}{q r:Rat}{u:PH}{y z:Int}
def D5 (z:Int):Lib.itoa z=Bj (decide (z<0)) (Lib.decDigits z.natAbs):=by
 by_cases h:z<0
 ·rw[N2 h,decide_eq_true h];rfl
 rw[Em h,decide_eq_false h];rfl
def Z8 (z:Int):Cd (decide (z<0)) (rd (Lib.decDigits z.natAbs))=z:=by rw[Aiu];exact Uc z
def Yp (h:Lib.nDigits n<=k):nl n<=k:=by
 refine A4 (A2s (Lib.lt_pow_nDigits n) ?_);rw[Ajo];exact A10 oV oV
def Bd (h:Lib.nDigits n<=400):nl n<=400:=Yp h
def Hh (h:Lib.nDigits z.natAbs<=400):(Lib.itoa z).length<=401:=by
 rw[D5];unfold Bj;split<;>simp[Lib.decDigits_length]<;>omega
def Oh (h:Lib.nDigits z.natAbs<=400):zF 77 [zS (Lib.itoa z)] u fun v e=>Do e v z:=by
 have:=Ar8 (u:=u) (decide (z<0)) (Lib.decDigits z.natAbs) (O8 _) (Gk _) (by rw[Lib.decDigits_length];omega);rw[Z8,<-D5]at this;exact this
def Jg (m:0<z)(f:nl y.natAbs<=j)(h:nl z.natAbs<=k):nl (Rat.divInt y z).num.natAbs<=j/\nl (Rat.divInt y z).den<=k:=by
 obtain⟨e,t,_⟩:=O7 (y:=y) m;refine⟨by rw[e];exact V2 f,?_⟩;have:(Rat.divInt y z).den=(z.tdiv (Nat.gcd y.natAbs z.natAbs:Nat)).natAbs:=oV
 rw[this];exact V2 h
def Rs (q r:Rat):0<(q.den:Int)*(r.den:Int):=Int.mul_pos (by have:=q.den_pos;omega) (by have:=r.den_pos;omega)
def Sz.d (h:Sz q k):nl ((q.den:Int)).natAbs<=k:=by simpa using h.2
def A0z (h:Sz q k)(e:Sz r k):Sz (q+r) (2*k+1):=by
 rw[<-Rq];obtain⟨a,b⟩:=Jg (Rs q r) (Sb (Bx h.1 e.d) (Bx e.1 h.d)) (Bx h.d e.d);exact⟨a,A04 b oV⟩
def Ayh (h:Sz q k)(e:Sz r k):Sz (q-r) (2*k+1):=by
 rw[<-Akr];obtain⟨a,b⟩:=Jg (Rs q r) (Ab3 (Bx h.1 e.d) (Bx e.1 h.d)) (Bx h.d e.d);exact⟨a,A04 b oV⟩
def Aq9:Lib.decDigits 0 = [48]:=Lib.decDigits_one oV
def Aqx:Lib.decDigits 1 = [49]:=Lib.decDigits_one oV
def E5:Lib.itoa 0 = [48]:=by rw[Em oV];exact Aq9
def Hf:Lib.itoa 1 = [49]:=by rw[Em oV];exact Aqx
def Yc (n:Nat):Lib.itoa (n:Int)=Lib.decDigits n:=by rw[Em oV];congr 1
def rdZ (t:zB):Int:=match t with
 |45::l=>-(rd l:Int)
 |l=>rd l
theorem Adu (z:Int):rdZ (Lib.itoa z)=z:=by
 by_cases h:z<0
 ·rw[N2 h];simp only[rdZ,Aiu];omega
 rw[Em h];have m:=Afj z.natAbs;have A:=Aiu z.natAbs;have t:=O8 z.natAbs;generalize Lib.decDigits z.natAbs=l at *
 cases l with
 |nil=>simp at m
 |cons b l =>
  have f:=t b mV;unfold rdZ;split
  ·rename_i e;simp at e;rw[e.1]at f;simp at f
  grind
def Im (h:Lib.itoa y=Lib.itoa z):y=z:=by rw[<-Adu y,h,Adu]
def Qv (e:0<=z)(h0:z≠0):∃ b,(Lib.itoa z)[0]?=some b/\49<=b.toNat/\b.toNat<=57:=by
 rw[Em oV];refine⟨_,Afj _,Aof oV,?_⟩;rw[Rn];have:=A29 (z.natAbs/10^(Lib.nDigits z.natAbs-1)) (show 0<10 by omega);omega
def Tl (h:Lib.nDigits z.natAbs<=400):zF 144 [zS (Lib.itoa z)] u fun v _=>v=zT:=by
 refine Fn0.o func144 ?_;by_cases h0:z=0
 ·subst h0;exact G.q (Lib.itoa 0) [48] E5<|G.z zT
 refine G.w (Lib.itoa z) [48] (fun e=>h0 (Im (e.trans E5.symm))) ?_;have R:=Lib.decDigits_length z.natAbs;have U:=Lib.nDigits_pos z.natAbs;have D:=O8 z.natAbs;obtain⟨A,m,P,Q⟩:=Qv (z:=(z.natAbs:Int)) oV oV;rw[Yc]at m;have C:=D5 z;generalize X:Lib.decDigits z.natAbs=L at *
 generalize hT:Lib.itoa z=T at *
 have K:0<T.length:=by rw[C];unfold Bj;split;simp;omega
 refine G.gT T.length 0 ?_;by_cases I:z<0
 ·rw[decide_eq_true I]at C;refine G.idxS T 0 45 kV (by rw[C];rfl)<|G.cmpG .eql .u8 45 45 true kV rfl rfl<|G.sliceSFrom T 1 kV kV oV ?_;rw[show T.drop 1=L by rw[C];rfl];refine G.eF L.length 0<|G.gF L.length 400<|G.idxS L 0 A kV m<|G.cmpG .eql .u8 (A.toNat:Int) 48 false kV rfl (by simp only[Db,decide_eq_false_iff_not];omega)<|G.l (ι:=Nat) (fun i=>[(3,tV L),(4,iV i)]) (fun _=>[]) (fun i _ E=>i<=L.length/\E=PH.mt) (fun i=>L.length-i) 0 ⟨oV,rfl⟩ ?_;rintro J i F W E t ⟨hi,rfl⟩;by_cases f:i<L.length
  ·refine G.lT i L.length ?_;have V:=Mh D f;exact G.idxS L i _ kV (D1 f)<|G.cmpG .lss .u8 ((L.getD i 0).toNat:Int) 48 false kV rfl (by simp only[Db,decide_eq_false_iff_not];omega)<|G.idxS L i _ kV (D1 f)<|G.cmpG .gtr .u8 ((L.getD i 0).toNat:Int) 57 false kV rfl (by simp only[Db,decide_eq_false_iff_not];omega)<|G.i i<|G.b (F (i+1) _ _ _ cV t ⟨oV,rfl⟩ oV)
  exact G.lF i L.length<|G.z zT
 rw[decide_eq_false I]at C;have H:T=L:=C;subst H;refine G.idxS T 0 A kV m<|G.cmpG .eql .u8 (A.toNat:Int) 45 false kV rfl (by simp only[Db,decide_eq_false_iff_not];omega)<|G.eF T.length 0<|G.gF T.length 400<|G.idxS T 0 A kV m<|G.cmpG .eql .u8 (A.toNat:Int) 48 false kV rfl (by simp only[Db,decide_eq_false_iff_not];omega)<|G.l (ι:=Nat) (fun i=>[(3,tV T),(4,iV i)]) (fun _=>[]) (fun i _ E=>i<=T.length/\E=PH.mt) (fun i=>T.length-i) 0 ⟨oV,rfl⟩ ?_;rintro J i F W E t ⟨hi,rfl⟩;by_cases f:i<T.length
 ·refine G.lT i T.length ?_;have V:=Mh D f;exact G.idxS T i _ kV (D1 f)<|G.cmpG .lss .u8 ((T.getD i 0).toNat:Int) 48 false kV rfl (by simp only[Db,decide_eq_false_iff_not];omega)<|G.idxS T i _ kV (D1 f)<|G.cmpG .gtr .u8 ((T.getD i 0).toNat:Int) 57 false kV rfl (by simp only[Db,decide_eq_false_iff_not];omega)<|G.i i<|G.b (F (i+1) _ _ _ cV t ⟨oV,rfl⟩ oV)
 exact G.lF i T.length<|G.z zT
theorem Amg {T:zB}(h:∀ b∈T,b≠47)(C:T.length<=1000000):zF 76 [zS T] u fun v _=>v=.tuple #[zS T,zS [49],zL]:=by
 refine Fn0.o func76<|G.l (ι:=Nat) (fun i=>[(0,tV T),(5,iV i)]) (fun _=>[]) (fun i _ t=>i<=T.length/\t=PH.mt) (fun i=>T.length-i) 0 ⟨oV,rfl⟩ ?_;rintro J i A D t e ⟨hi,rfl⟩;by_cases f:i<T.length
 ·refine G.lT i T.length<|G.idxS T i _ kV (D1 f) ?_;have m:T.getD i 0≠47:=by grind
  exact G.cmpG .eql .u8 ((T.getD i 0).toNat:Int) 47 false kV rfl (by simp only[Db,decide_eq_false_iff_not];intro h;exact m (A8p.1 (by simpa using (by omega:(T.getD i 0).toNat=47))))<|G.i i<|G.b (A (i+1) _ _ _ cV e ⟨oV,rfl⟩ oV)
 exact G.lF i T.length<|G.z (.tuple #[zS T,zS [49],zL])
theorem Amq {A B:zB}(h:∀ b∈A,b≠47)(I:(A++47::B).length<=1000000):zF 76 [zS (A++47::B)] u fun v _=>v=.tuple #[zS A,zS B,zT]:=by
 have hT:∀ i,i<A.length->(A++47::B).getD i 0≠47:=by grind
 have F:(A++47::B)[A.length]?=some 47:=by grind
 have D:(A++47::B).length=A.length+1+B.length:=by grind
 have C:(A++47::B).take A.length=A:=mV;have e:(A++47::B).drop (A.length+1)=B:=mV;generalize A++47::B=T at *
 refine Fn0.o func76<|G.l (ι:=Nat) (fun i=>[(0,tV T),(5,iV i)]) (fun _=>[]) (fun i _ E=>i<=A.length/\E=PH.mt) (fun i=>T.length-i) 0 ⟨oV,rfl⟩ ?_;rintro J i H K E f ⟨hi,rfl⟩;refine G.lT i T.length ?_;by_cases m:i<A.length
 ·refine G.idxS T i _ kV (D1 oV) ?_;have t:=hT i m;exact G.cmpG .eql .u8 ((T.getD i 0).toNat:Int) 47 false kV rfl (by simp only[Db,decide_eq_false_iff_not];intro h;exact t (A8p.1 (by simpa using (by omega:(T.getD i 0).toNat=47))))<|G.i i<|G.b (H (i+1) _ _ _ cV f ⟨oV,rfl⟩ oV)
 have:i=A.length:=oV;subst this;refine G.idxS T A.length 47 kV F<|G.cmpG .eql .u8 47 47 true kV rfl rfl<|G.sliceSTo T A.length kV kV oV ?_;rw[C];refine G.p A.length 1 (A.length+1:Nat)<|G.sliceSFrom T (A.length+1) kV kV oV ?_;rw[e];exact G.z (.tuple #[zS A,zS B,zT])
def Ae (q:Rat):zB:=if q.den=1 then Lib.itoa q.num else Lib.itoa q.num++47::Lib.itoa (q.den:Int)
def Tx (q:Rat):Prop:=Lib.nDigits q.num.natAbs<=400/\Lib.nDigits q.den<=400
def Tx.den (h:Tx q):Lib.nDigits ((q.den:Int)).natAbs<=400:=by simpa using h.2
def Tx.sz (h:Tx q):Sz q 400:=⟨Bd h.1,Bd h.2⟩
def Sz.mono (h:Sz q j)(e:j<=k):Sz q k:=⟨A04 h.1 e,A04 h.2 e⟩
def O0 (z:Int):∀ b∈Lib.itoa z,b≠47:=by
 have h:=O8 z.natAbs;intro b f e;subst e;rw[D5]at f;unfold Bj at f;split at f
 ·simp at f;have:=h _ f;simp at this
 have:=h _ f;simp at this
def Aac (h:Tx q):zF 76 [zS (Ae q)] u fun v _=>v=.tuple #[zS (Lib.itoa q.num),zS (Lib.itoa (q.den:Int)),.bool (decide (q.den≠1))]:=by
 have f:=Hh h.1;have l2:=Hh h.den;unfold Ae;by_cases e:q.den=1
 ·rw[if_pos e,e,show ((1:Nat):Int)=1 from rfl,Hf];exact Amg (O0 _) oV
 rw[if_neg e,decide_eq_true e];exact Amq (O0 _) gV
def G8 (h:Tx q):zF 27 [zS (Ae q)] u fun v C=>QP C v q:=by
 refine Fn0.o func27<|G.c call76 (Aac h) ?_;rintro I E D rfl;refine G.c call77 (Oh h.1) ?_;intro J F l2 e;obtain⟨m,a2,n2,c2,rfl,_,_⟩:=e.opn;refine G.c call77 (Oh h.den) ?_;intro K H A f;obtain⟨t,a3,n3,c3,rfl,_,_⟩:=f.opn;exact G.r (.agg #[.bool m,.slice a2 n2 c2,.bool t,.slice a3 n3 c3]) ⟨rfl,QP.mk (e.mono A) f rfl rfl⟩
def Ao1 (h:Tx q):(Ae q).length<=802:=by
 have e:=Hh h.1;have l2:=Lib.decDigits_length q.den;have f:=h.2;unfold Ae;split
 ·omega
 rw[Yc];simp;omega
def Ao0 (h:q.den≠1):q.num≠0:=fun h0=>h (by have:=A4r.1 h0;subst this;rfl)
def Ua (h:Tx q):zF 72 [zS (Ae q)] u fun v _=>v=.tuple #[zS (Lib.itoa q.num),zS (Lib.itoa (q.den:Int)),zT]:=by
 have A:=Ao1 h;refine Fn0.o func72<|G.gF ((Ae q).length:Int) 802<|G.c call76 (Aac h) ?_;rintro v1 U L rfl;refine G.c call144 (Tl h.1) ?_;rintro v2 V l2 rfl;refine G.c call144 (Tl h.den) ?_;rintro v3 W P rfl;by_cases m:q.den=1
 ·rw[show decide (q.den≠1)=false by simp[m]];exact G.z (.tuple #[zS (Lib.itoa q.num),zS (Lib.itoa (q.den:Int)),zT])
 rw[show decide (q.den≠1)=true by simp[m]];have H:=Ao0 m;have F:=q.den_nz;refine G.w (Lib.itoa q.num) [48] (fun e=>H (Im (e.trans E5.symm)))<|G.w (Lib.itoa (q.den:Int)) [49] (fun e=>by have:=Im (e.trans Hf.symm);omega)<|G.w (Lib.itoa (q.den:Int)) [48] (fun e=>by have:=Im (e.trans E5.symm);omega) ?_;obtain⟨t,f,D,E⟩:=Qv (z:=(q.den:Int)) oV oV;refine G.idxS (Lib.itoa (q.den:Int)) 0 t kV f<|G.cmpG .eql .u8 (t.toNat:Int) 45 false kV rfl (by simp only[Db,decide_eq_false_iff_not];omega)<|G.c call77 (Oh h.1) ?_;intro v4 X Q I;refine G.c call77 (Oh h.den) ?_;intro v5 Y K J;refine G.c call145 (Abo (I.mono K) J (A04 (Bd h.1) oV) (A04 (Bd h.den) oV)) ?_;intro v6 Z R C;rw[show Nat.gcd q.num.natAbs ((q.den:Int)).natAbs=1 from q.reduced]at C;refine G.c call146 (Ago C (A04 Tm oV)) ?_;rintro v7 u7 T rfl;exact G.y (Lib.itoa ((1:Nat):Int)) [49] Hf<|G.z (.tuple #[zS (Lib.itoa q.num),zS (Lib.itoa (q.den:Int)),zT])
def Ee (h:Tx q):zF 24 [zS (Ae q)] u fun v _=>v=zT:=by
 refine Fn0.o func24<|G.c call72 (Ua h) ?_;rintro m f e rfl;exact G.z zT
def Ox {x:Value}(A:QP u x q)(h:Tx q):zF 84 [x] u fun v _=>v=.tuple #[zS (Ae q),zO]:=by
 obtain⟨b,a,n,c,D,I,E,rfl,_,t,m⟩:=A.opn;refine Fn0.o func84<|G.c call154 (Aen t (A04 (Bd h.1) oV) h.1) ?_;rintro L J C rfl;refine G.c call154 (Aen (m.mono C) (A04 (Bd h.den) oV) h.den) ?_;rintro P K l2 rfl;refine G.nF 0 0<|G.nF 0 0 ?_;by_cases f:q.den=1
 ·exact G.q (Lib.itoa (q.den:Int)) [49] (by rw[f];exact Hf)<|G.r (.tuple #[zS (Lib.itoa q.num),zO]) ⟨rfl,by rw[Ae,if_pos f]⟩
 refine G.w (Lib.itoa (q.den:Int)) [49] (fun e=>by have:=Im (e.trans Hf.symm);omega) ?_;have F:=Hh h.1;have H:=Hh h.den;exact G.addS (Lib.itoa q.num) [47] kV gV<|G.addS (Lib.itoa q.num++[47]) (Lib.itoa (q.den:Int)) kV gV<|G.r (.tuple #[zS (Lib.itoa q.num++[47]++Lib.itoa (q.den:Int)),zO]) ⟨rfl,by rw[Ae,if_neg f];simp⟩
def Awr (h:Tx q)(e:Tx r):zF 31 [zS (Ae q),zS (Ae r)] u fun v _=>v=zI (sgn (q-r).num):=by
 refine Fn0.o func31<|G.c call24 (Ee h) ?_;rintro Q H C rfl;refine G.c call24 (Ee e) ?_;rintro R I l2 rfl;refine G.c call27 (G8 h) ?_;intro T J D f;refine G.c call27 (G8 e) ?_;intro U K A m;refine G.c call32 (Adl (f.mono A) m (h.sz.mono oV) (e.sz.mono oV)) ?_;intro V L E t;refine G.c call33 (Aef t (A04 (Ayh h.sz e.sz).1 oV)) ?_;rintro W P F rfl;exact G.z _
def Aug (h:Tx q)(e:Tx r)(f:Tx (q+r)):zF 60 [zS (Ae q),zS (Ae r)] u fun v _=>v=.tuple #[zS (Ae (q+r)),zO]:=by
 refine Fn0.o func60<|G.c call24 (Ee h) ?_;rintro R I D rfl;refine G.c call24 (Ee e) ?_;rintro T J l2 rfl;refine G.c call27 (G8 h) ?_;intro U K E m;refine G.c call27 (G8 e) ?_;intro V L C t;refine G.c call26 (Pd (m.mono C) t (h.sz.mono oV) (e.sz.mono oV)) ?_;intro W P F A;refine G.c call84 (Ox A f) ?_;rintro X Q H rfl;exact G.z _
end
end Go.Proofs.YtemmheaocgmebaaGreatDoor
section
namespace Go.Proofs
open Go.Shelf
theorem Tryz.tS {α:Type}{x:Option α}{a b:α}(h:x=some a)(e:a=b:=by kernel_rfl):x=some b:=h.trans (congrArg some e)
theorem Tryz.kW.{v} {α:Sort v}{a b:α}(h:a=b:=by kernel_rfl):a=b:=h
open Tryz
def Tryz.lays169_ren:Go.Shelf.Ren:=⟨fun|169=>255|n=>n,fun|70=>292|9=>9|0=>0|72=>294|37=>263|127=>326|3=>3|5=>5|n=>n,fun|n=>n⟩
theorem Tryz.lays169:Go.Proofs.Lays.n169 prog lays169_ren:=⟨kW,tS func255,underlying0,isAgg0,sizeOf0,zeroValue0,underlying3,isAgg3,sizeOf3,zeroValue3,underlying9,isAgg9,sizeOf9,zeroValue9,underlying263,isAgg263,sizeOf263,zeroValue263,underlying292,isAgg292,sizeOf292,zeroValue292,underlying294,isAgg294,sizeOf294,zeroValue294,underlying326,isAgg326,sizeOf326,zeroValue326⟩
theorem Tryz.Builder_Extra_169:Builder.Extra prog lays169_ren:={
 sizeBuilder:=by kernel_rfl
 liesBuilder:=by kernel_rfl
 t5:=underlying5
 a5:=isAgg5
 z5:=sizeOf5
 v5:=zeroValue5
 infoByte:=by kernel_rfl
 cellsByte:=by kernel_rfl
 sizeByte:=by kernel_rfl
 neB5:=by decide }
open Go.RowKit in
theorem Tryz.Builder_String (B b:Nat)(l:List UInt8)(w:World)(h:Lib.IsBuilder 294 5 B b (Lib.byteCells l) w)(h0:l≠[]) :
 Calls prog 255 #[.pointer (some ⟨b,0,none⟩)] w fun e w'=>e=.returned (.string ⟨l.toArray⟩)/\Below B w w':=Any.Builder_String lays169 Builder_Extra_169 B b l w h h0
def Tryz.lays210_ren:Go.Shelf.Ren:=⟨fun|210=>277|206=>308|n=>n,fun|9=>9|4=>4|3=>3|n=>n,fun|n=>n⟩
def Tryz.lays103_ren:Go.Shelf.Ren:=⟨fun|103=>248|210=>277|206=>308|n=>n,fun|9=>9|4=>4|24=>282|3=>3|n=>n,fun|n=>n⟩
theorem Tryz.lays103:Go.Proofs.Lays.n103 prog lays103_ren:=⟨kW,tS func248,tS func308,tS func277,underlying3,isAgg3,sizeOf3,zeroValue3,underlying4,isAgg4,sizeOf4,zeroValue4,underlying9,isAgg9,sizeOf9,zeroValue9,underlying282,isAgg282,sizeOf282,zeroValue282⟩
open Go.RowKit in
theorem Tryz.strings_CutPrefix (s p:ByteArray)(w:World) :
 Calls prog 248 #[.string s,.string p] w fun e w'=>e=.returned (.tuple #[.string ⟨(Lib.trimPrefix s.data.toList p.data.toList).toArray⟩,.bool (Lib.hasPrefix s.data.toList p.data.toList)])/\w'=w:=Any.strings_CutPrefix lays103 s p w
def Tryz.lays283_ren:Go.Shelf.Ren:=⟨fun|283=>282|n=>n,fun|3=>3|9=>9|4=>4|n=>n,fun|n=>n⟩
theorem Tryz.lays283:Go.Proofs.Lays.n283 prog lays283_ren:=⟨kW,tS func282,underlying3,isAgg3,sizeOf3,zeroValue3,underlying4,isAgg4,sizeOf4,zeroValue4,underlying9,isAgg9,sizeOf9,zeroValue9⟩
open Go.Lib in
theorem Tryz.internal_strconv_small (i:Nat)(h:i<100)(w:World) :
 Calls prog 282 #[.int .i64 i] w fun e w'=>e=.returned (.string ⟨(Lib.decDigits i).toArray⟩)/\w'=w:=Any.internal_strconv_small lays283 i h w
def Tryz.laysM284_ren:Go.Shelf.Ren:=⟨fun|284=>283|129=>316|317=>315|318=>317|n=>n,fun|53=>246|3=>3|212=>343|0=>0|4=>4|46=>288|5=>5|9=>9|n=>n,fun|17=>1|n=>n⟩
theorem Tryz.laysM284:Go.Proofs.LaysM.n284 prog laysM284_ren:=⟨⟨kW,tS func316,tS func283,tS func315,tS func317,underlying0,isAgg0,sizeOf0,zeroValue0,underlying3,isAgg3,sizeOf3,zeroValue3,underlying4,isAgg4,sizeOf4,zeroValue4,underlying5,isAgg5,sizeOf5,zeroValue5,underlying9,isAgg9,sizeOf9,zeroValue9,underlying288,isAgg288,sizeOf288,zeroValue288,underlying246,isAgg246,sizeOf246,zeroValue246,underlying343,isAgg343,sizeOf343,zeroValue343,kW⟩,kW,kW,kW,kW,kW,kW,kW,kW,kW⟩
open Go.Lib in
theorem Tryz.internal_strconv_numDigits (u:Nat)(h1:1<=u)(h2:u<18446744073709551616)(w:World)(htab:Lib.TabIs prog w "internal/strconv.uint64pow10" .u64 Lib.pow10Tab) :
 Calls prog 283 #[.int .u64 u] w fun e w'=>e=.returned (.int .i64 (Lib.nDigits u))/\w'=w:=Any.internal_strconv_numDigits laysM284 u h1 h2 w htab
def Tryz.lays285_ren:Go.Shelf.Ren:=⟨fun|285=>284|n=>n,fun|37=>263|53=>246|3=>3|4=>4|51=>314|9=>9|5=>5|0=>0|n=>n,fun|n=>n⟩
theorem Tryz.lays285:Go.Proofs.Lays.n285 prog lays285_ren:=⟨kW,tS func284,underlying0,isAgg0,sizeOf0,zeroValue0,underlying3,isAgg3,sizeOf3,zeroValue3,underlying4,isAgg4,sizeOf4,zeroValue4,underlying5,isAgg5,sizeOf5,zeroValue5,underlying9,isAgg9,sizeOf9,zeroValue9,underlying263,isAgg263,sizeOf263,zeroValue263,underlying314,isAgg314,sizeOf314,zeroValue314,underlying246,isAgg246,sizeOf246,zeroValue246⟩
open Go.RowKit Go.Sort Go.Lib in
theorem Tryz.internal_strconv_formatBase10 (blk off cap:Nat)(u:Nat)(d:Array UInt8)(w:World)(hH:Holds (fun (b:UInt8)=>Value.int .u8 (b.toNat:Int)) w blk off d)(hu:u<10^d.size)(hu64:u<18446744073709551616)(hsz:d.size<4611686018427387904) :
 Calls prog 284 #[.slice (some ⟨blk,off,none⟩) d.size cap,.int .u64 u] w fun e w' =>
  e=.returned (.tuple #[])/\∃ (n v':Nat) (dk:Array UInt8),w'=(putRow (fun (b:UInt8)=>Value.int .u8 (b.toNat:Int)) w blk off dk).drewN n/\FmtInv d.size u 0 v' dk:=Any.internal_strconv_formatBase10 lays285 blk off cap u d w hH hu hu64 hsz
def Tryz.laysPu14_ren:Go.Shelf.Ren:=⟨fun|14=>249|16=>278|17=>279|19=>309|20=>310|21=>311|22=>312|23=>313|24=>314|25=>334|27=>336|26=>335|28=>345|29=>347|30=>282|31=>283|32=>284|33=>285|35=>316|34=>315|36=>317|37=>318|38=>319|39=>337|40=>338|n=>n,fun|9=>9|3=>3|22=>246|24=>285|25=>286|4=>4|34=>337|5=>5|36=>288|37=>263|0=>0|39=>339|21=>21|44=>359|47=>326|50=>369|48=>367|2=>2|52=>320|55=>323|59=>343|60=>314|20=>20|61=>344|65=>370|66=>371|67=>212|n=>n,fun|0=>2|1=>3|2=>1|3=>4|4=>5|n=>n⟩
theorem Tryz.laysPu14:Go.Proofs.LaysPu.n14 prog laysPu14_ren:=⟨kW,tS func249,tS func278,tS func279,tS func309,tS func310,tS func311,tS func312,tS func313,tS func314,tS func334,tS func335,tS func336,tS func345,tS func347,tS func282,tS func283,tS func284,tS func285,tS func315,tS func316,tS func317,tS func318,tS func319,tS func337,tS func338,underlying0,isAgg0,sizeOf0,zeroValue0,kW,underlying2,isAgg2,sizeOf2,zeroValue2,kW,underlying3,isAgg3,sizeOf3,zeroValue3,kW,underlying4,isAgg4,sizeOf4,zeroValue4,kW,underlying5,isAgg5,sizeOf5,zeroValue5,kW,underlying9,isAgg9,sizeOf9,zeroValue9,kW,underlying20,isAgg20,sizeOf20,zeroValue20,kW,underlying21,isAgg21,sizeOf21,zeroValue21,kW,underlying246,isAgg246,sizeOf246,zeroValue246,kW,underlying285,isAgg285,sizeOf285,zeroValue285,kW,underlying286,isAgg286,sizeOf286,zeroValue286,kW,underlying337,isAgg337,sizeOf337,zeroValue337,kW,kW,underlying288,isAgg288,sizeOf288,zeroValue288,kW,underlying263,isAgg263,sizeOf263,zeroValue263,kW,underlying339,isAgg339,sizeOf339,zeroValue339,kW,underlying359,isAgg359,sizeOf359,zeroValue359,kW,underlying326,isAgg326,sizeOf326,zeroValue326,kW,underlying367,isAgg367,sizeOf367,zeroValue367,kW,underlying369,isAgg369,sizeOf369,zeroValue369,kW,underlying320,isAgg320,sizeOf320,zeroValue320,kW,underlying323,isAgg323,sizeOf323,zeroValue323,kW,underlying343,isAgg343,sizeOf343,zeroValue343,kW,underlying314,isAgg314,sizeOf314,zeroValue314,kW,underlying344,isAgg344,sizeOf344,underlying370,isAgg370,sizeOf370,zeroValue370,kW,underlying371,isAgg371,sizeOf371,zeroValue371,kW,underlying212,isAgg212,sizeOf212,zeroValue212,kW,kW,kW,kW,kW,kW,kW,kW,kW,kW,kW⟩
open Go.RowKit in
theorem Tryz.strconv_ParseUint_10_at64_ok (s:ByteArray)(hmax:s.size<=9223372036854775806)(u:Nat)(h:Lib.parseUintB 64 s.data.toList=.ok u)(w:World) :
 Calls prog 249 #[.string s,.int .i64 10,.int .i64 64] w fun e w'=>e=.returned (.tuple #[.int .u64 u,.nilIface])/\(w'=w\/w'=Lib.bytesWorld w 5 s):=Any.strconv_ParseUint_10_at64_ok laysPu14 s hmax u h w
def Tryz.lays219_ren:Go.Shelf.Ren:=⟨fun|219=>276|217=>304|225=>305|224=>306|267=>307|266=>332|314=>333|n=>n,fun|9=>9|3=>3|4=>4|5=>5|46=>288|146=>315|51=>314|n=>n,fun|1=>0|n=>n⟩
theorem Tryz.lays219:Go.Proofs.Lays.n219 prog lays219_ren:=⟨kW,tS func304,tS func276,tS func306,tS func305,tS func332,tS func307,tS func333,underlying3,isAgg3,sizeOf3,zeroValue3,underlying4,isAgg4,sizeOf4,zeroValue4,underlying5,isAgg5,sizeOf5,zeroValue5,underlying9,isAgg9,sizeOf9,zeroValue9,underlying288,isAgg288,sizeOf288,zeroValue288,underlying314,isAgg314,sizeOf314,zeroValue314,underlying315,isAgg315,sizeOf315,zeroValue315,kW⟩
open Go.RowKit Go.Lib in
theorem Tryz.stringslite_Index_one (s:ByteArray)(c:UInt8)(w:World) :
 Calls prog 276 #[.string s,.string ⟨#[c]⟩] w fun e w'=>e=.returned (.int .i64 (Lib.indexByte s.data.toList c))/\w'=w:=Any.stringslite_Index_one lays219 s c w
def Tryz.lays101_ren:Go.Shelf.Ren:=⟨fun|101=>258|208=>290|206=>308|n=>n,fun|9=>9|4=>4|3=>3|n=>n,fun|n=>n⟩
theorem Tryz.lays101:Go.Proofs.Lays.n101 prog lays101_ren:=⟨kW,tS func258,tS func308,tS func290,underlying3,isAgg3,sizeOf3,zeroValue3,underlying4,isAgg4,sizeOf4,zeroValue4,underlying9,isAgg9,sizeOf9,zeroValue9⟩
open Go.RowKit Go.Lib in
theorem Tryz.strings_TrimPrefix (s p:ByteArray)(w:World) :
 Calls prog 258 #[.string s,.string p] w fun e w'=>e=.returned (.string ⟨(Lib.trimPrefix s.data.toList p.data.toList).toArray⟩)/\w'=w:=Any.strings_TrimPrefix lays101 s p w
def Tryz.lays212_ren:Go.Shelf.Ren:=⟨fun|212=>250|263=>280|264=>281|n=>n,fun|46=>288|51=>314|146=>315|53=>246|148=>317|n=>n,fun|n=>n⟩
theorem Tryz.lays212:Go.Proofs.Lays.n212 prog lays212_ren:=⟨kW,tS func250,tS func280,tS func281,underlying288,isAgg288,sizeOf288,zeroValue288,underlying314,isAgg314,sizeOf314,zeroValue314,underlying246,isAgg246,sizeOf246,zeroValue246,underlying315,isAgg315,sizeOf315,zeroValue315,underlying317,isAgg317,sizeOf317,zeroValue317⟩
open Go.RowKit Go.Lib in
theorem Tryz.bits_Mul (x y:Nat)(hx:x<18446744073709551616)(hy:y<18446744073709551616)(w:World) :
 Calls prog 250 #[.int .u64 x,.int .u64 y] w fun e w'=>e=.returned (.tuple #[.int .u64 ((x*y/18446744073709551616:Nat):Int),.int .u64 ((x*y%18446744073709551616:Nat):Int)])/\w'=w:=Any.bits_Mul lays212 x y hx hy w
def Tryz.lays105_ren:Go.Shelf.Ren:=⟨fun|105=>254|212=>250|99=>287|165=>288|166=>253|170=>289|169=>255|263=>280|264=>281|206=>308|240=>286|241=>321|276=>320|277=>339|n=>n,fun|9=>9|3=>3|4=>4|20=>20|0=>0|46=>288|109=>289|5=>5|72=>294|76=>295|51=>314|146=>315|53=>246|148=>317|70=>292|37=>263|75=>285|127=>326|164=>345|80=>212|n=>n,fun|n=>n⟩
theorem Tryz.lays105:Go.Proofs.Lays.n105 prog lays105_ren:=⟨kW,tS func287,tS func254,tS func288,tS func253,tS func255,tS func289,tS func308,tS func250,tS func286,tS func321,tS func280,tS func281,tS func320,tS func339,underlying0,isAgg0,sizeOf0,zeroValue0,underlying3,isAgg3,sizeOf3,zeroValue3,underlying4,isAgg4,sizeOf4,zeroValue4,underlying5,isAgg5,sizeOf5,zeroValue5,underlying9,isAgg9,sizeOf9,zeroValue9,underlying20,isAgg20,sizeOf20,zeroValue20,underlying263,isAgg263,sizeOf263,zeroValue263,underlying288,isAgg288,sizeOf288,zeroValue288,underlying314,isAgg314,sizeOf314,zeroValue314,underlying246,isAgg246,sizeOf246,zeroValue246,underlying292,isAgg292,sizeOf292,zeroValue292,underlying294,isAgg294,sizeOf294,zeroValue294,underlying285,isAgg285,sizeOf285,zeroValue285,underlying295,isAgg295,sizeOf295,zeroValue295,underlying289,isAgg289,sizeOf289,zeroValue289,underlying326,isAgg326,sizeOf326,zeroValue326,underlying315,isAgg315,sizeOf315,zeroValue315,underlying317,isAgg317,sizeOf317,zeroValue317,underlying345,isAgg345,sizeOf345,zeroValue345⟩
theorem Tryz.Builder_Extra_105:Builder.Extra prog lays105_ren:={
 sizeBuilder:=by kernel_rfl
 liesBuilder:=by kernel_rfl
 t5:=underlying5
 a5:=isAgg5
 z5:=sizeOf5
 v5:=zeroValue5
 infoByte:=by kernel_rfl
 cellsByte:=by kernel_rfl
 sizeByte:=by kernel_rfl
 neB5:=by decide }
open Go.RowKit Go.Lib in
theorem Tryz.strings_Repeat (s:ByteArray)(c:Nat)(w:World)(hc:c<=9223372036854775807)(hlen:s.size*c<=140737488355328) :
 Calls prog 254 #[.string s,.int .i64 c] w fun e w'=>e=.returned (.string ⟨(Lib.repeatL s.data.toList c).toArray⟩)/\Below w.heap.size w w':=Any.strings_Repeat lays105 Builder_Extra_105 s c w hc hlen
end Go.Proofs
end
namespace Go.Proofs.YtemmheaocgmebaaGreatDoor
open Go.Proofs.Tryz
open Go.RowKit
end Go.Proofs.YtemmheaocgmebaaGreatDoor
