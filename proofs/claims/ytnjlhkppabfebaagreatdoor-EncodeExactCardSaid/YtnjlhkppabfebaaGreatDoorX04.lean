/- Parts of one proof, joined by a program. -/
import Derived.Test.YtnjlhkppabfebaaGreatDoorX03
import Derived.Lib.ItoaNum
import Derived.Shelf.Strings.Builder1
import Derived.Shelf.Strings.Builder2
import Derived.Shelf.Small.Bits
import Derived.Shelf.Small.Wraps
import Derived.Shelf.Strings.BuilderF
import Derived.Shelf.Strings.BuilderK
import Derived.Shelf.Strings.Builder2Cap
import Derived.Shelf.Strconv.Itoa0
import Derived.Shelf.Strconv.Itoa1
import Derived.Shelf.LaysM
import Derived.Shelf.Strconv.Itoa2
import Derived.Shelf.Strconv.Itoa3
import Derived.Shelf.Strconv.Lower
import Derived.Shelf.Strconv.ParseUint10
import Derived.Shelf.Strconv.ParseUintEmpty
import Derived.Shelf.Strconv.ParseUint10b64
import Derived.Shelf.Strconv.ParseUint10b32
import Derived.Shelf.Strconv.ParseUint10b16
import Derived.Shelf.Strconv.ParseUint10b8
import Derived.Shelf.Strconv.ParseUint10At
import Derived.Ground.MpProg
import Derived.Shelf.Pu.ParseUintPublic10
import Derived.Shelf.Strings.Search1
import Derived.Shelf.Strings.Search2
import Derived.Shelf.Strings.Cut
import Derived.Shelf.Strings.Shaped
import Derived.Shelf.Strings.Prefix
import Derived.Shelf.Bits.Mul64
import Derived.Shelf.Strings.Repeat
import Derived.Shelf.Strings.BuilderCap
import Derived.Test.YtnjlhkppabfebaaGreatDoorProg
set_option linter.defProp false
set_option linter.unusedVariables false
set_option linter.unusedSimpArgs false
set_option linter.unusedSectionVars false
set_option maxHeartbeats 16000000
namespace Go.Proofs.YtnjlhkppabfebaaGreatDoor
open Go.Proofs.Tryz
open Go.RowKit
def A90:=@List.replicate_succ'
def A5q:=@Int.lt_or_le
def A7k:=@Int.neg_tdiv
def A5k:=@Int.natCast_ediv
def A9r:=@Nat.mul_div_le
def A8o:=@Int.natAbs_tdiv
def A5d:=@List.range_succ
def A9s:=@List.getElem?_reverse
def A45:=@Nat.div_div_eq_div_mul
def A66:=@Nat.pow_pos
def A7l:=@Nat.pow_lt_pow_iff_right
def A1z:=@List.getElem?_set
def A1a:=@List.getElem?_map
def Ba5:=@Nat.div_one
def A8q:=@List.reverse_append
def A8p:=@UInt8.toNat_inj
def A4r:=@Rat.num_eq_zero
section
variable {j:Nat}{l:List Nat}
def Lj (l:List Nat)(j n:Nat):(Ai l).set j (.int .i64 n)=Ai (l.set j n):=by simp[Ai,A2g]
def Abi (h:j<l.length):(Ai l)[j]?=some (.int .i64 (l.getD j 0:Nat)):=by simp[Ai,h]
def Ut (n:Nat):List.replicate n (Value.int .i64 0)=Ai (List.replicate n 0):=by simp[Ai]
def Afz (h:j<l.length)(r:List Nat):(l++r).getD j 0=l.getD j 0:=by
 rw[A02,A02,A1r h]
def Akg (h:j<l.length)(r:List Nat)(d:Nat):(l++r).set j d=l.set j d++r:=List.set_append_left _ _ h
def Apa (h:j<l.length)(h0:l.getD j 0=0):l.set j 0=l:=by
 refine A4g fun i=>?_;by_cases hi:j=i
 ·subst hi;rw[A44 h,A01 h];rw[A02,A01 h]at h0;simpa using h0.symm
 rw[A9z hi]
def Azs (la lb:List Nat)(i k:Nat)(o:List Nat)(c:Nat):Prop:=(k<=lb.length/\Gt la lb i k o c)\/(k=lb.length+1/\c=0/\Gt la lb (i+1) 0 o 0)
def Gg {u:PH}{x x':Value}{y z:Int}(hx:Do u x y)(a4:Do u x' z)(sy:nl y.natAbs<=1000000000000)(sz:nl z.natAbs<=1000000000000):Fn0 prog 176 [x,x'] u fun v u'=>Do u' v (y*z):=by
 obtain⟨b,a,n,c,rfl,hb,hi⟩:=hx.opn;obtain⟨b',a',n',Y,rfl,a0,T⟩:=a4.opn;obtain⟨rfl,_⟩:=hi.len;obtain⟨rfl,_⟩:=T.len;have U:=Ao y.natAbs;have L:=Ao z.natAbs;have ab:(Aa y.natAbs).length<=1000000000000:=sy;have ac:(Aa z.natAbs).length<=1000000000000:=sz;have K:∀ l:List Nat,Low l->val l=y.natAbs*z.natAbs->Cd (!(b==b')) (val l)=y*z:=by
  intro l _ hv;rw[hv,hb,a0];exact Adx y z
 have a2:=Am y.natAbs;have a3:=Am z.natAbs;rw[<-a2,<-a3]at K;generalize Aa y.natAbs=la at *
 generalize Aa z.natAbs=lb at *
 refine Fn0.o func176<|G.p la.length lb.length (la.length+lb.length:Nat)<|G.p (la.length+lb.length:Nat) 1 (la.length+lb.length+1:Nat)<|G.make 3 1 8 (.int .i64 0) (la.length+lb.length+1) kV rfl rfl oV oV oV ?_;intro vo m1 m _;rw[Ut]at m;obtain⟨E,I,rfl⟩:=m.ptr (by intro e;have:=congrArg List.length e;rw[Ak,A3k,A30]at this;omega);rw[Ak,A3k]at m⊢;rw[show List.replicate (la.length+lb.length+1) 0=List.replicate (la.length+lb.length) 0++[0] from A90 ..]at m;refine G.l (ι:=Nat×List Nat) (fun i=>[(2,.p 0 0),(3,.p 1 0),(4,.p 2 0),(5,sV (some ⟨E,0,none⟩) (la.length+lb.length+1) I),(6,iV i.1)])
  (fun _=>[(0,⟨88,[bV b,sV a la.length c]⟩),(1,⟨88,[bV b',sV a' lb.length Y]⟩),(2,⟨88,[bV false,sV none 0 0]⟩)])
  (fun i _ R=>i.1<=la.length/\Gt la lb i.1 0 i.2 0/\Af PH.mt R (.slice (some ⟨E,0,none⟩) (la.length+lb.length+1) I) 3 1 (Ai (i.2++[0]))) (fun i=>la.length-i.1) (0,List.replicate (la.length+lb.length) 0)
  ⟨mV,Gt.start _ _,m⟩ ?_
 clear m m1;rintro J ⟨i,o⟩ hJ u' R Q ⟨hk,d,m⟩;simp only at hk d m hJ;by_cases H:i<la.length
 ·refine G.lT i la.length ?_;obtain⟨X,oa,rfl,ea⟩:=(hi.mono Q).at (j:=i) H;have a6:=U.getD i;refine G.l (ι:=Nat×List Nat×Nat) (fun q=>[(2,.p 0 0),(3,.p 1 0),(4,.p 2 0),(5,sV (some ⟨E,0,none⟩) (la.length+lb.length+1) I),(6,iV i),(7,iV q.2.2),(8,iV q.1)])
   (fun _=>[(0,⟨88,[bV b,sV (some ⟨X,oa,none⟩) la.length c]⟩),(1,⟨88,[bV b',sV a' lb.length Y]⟩),(2,⟨88,[bV false,sV none 0 0]⟩)])
   (fun q _ R=>Azs la lb i q.1 q.2.1 q.2.2/\Af PH.mt R (.slice (some ⟨E,0,none⟩) (la.length+lb.length+1) I) 3 1 (Ai (q.2.1++[0]))) (fun q=>lb.length+1-q.1) (0,o,0)
   ⟨.inl ⟨mV,d⟩,m⟩ ?_
  clear m d R;rintro J2 ⟨k,o,g⟩ O u2 R C ⟨D,m⟩;simp only at D m O;have a1:o.length=la.length+lb.length:=by rcases D with ⟨_,h⟩|⟨_,_,h⟩<;>exact h.len
  have a9:g<1000000000:=by rcases D with ⟨_,h⟩|⟨_,h,_⟩;exact h.carry;omega
  have aa:=(show Low o by rcases D with ⟨_,h⟩|⟨_,_,h⟩<;>exact h.low).getD (i+k)
  by_cases P:k<lb.length
  ·have d:Gt la lb i k o g:=by rcases D with ⟨_,h⟩|⟨h,_⟩;exact h;omega
   obtain⟨bb,ob,rfl,eb⟩:=(T.mono (Q.trans C)).at (j:=k) P;have a7:=L.getD k;have A:i+k<(o++[0]).length:=gV;refine G.lT k lb.length<|G.p i k (i+k:Nat)<|G.a E 0 (la.length+lb.length+1) I (i+k) 1 oV<|G.lM none E (0+(i+k)*1) (.int .i64 ((o++[0]).getD (i+k) 0:Nat)) (m.el (Abi A)) ?_;rw[Afz oV];refine G.p g (o.getD (i+k) 0:Nat) ((g+o.getD (i+k) 0:Nat):Int)<|G.lT k lb.length<|G.a X oa la.length c i 1 H<|G.lU none X (oa+i*1) (.int .i64 (la.getD i 0:Nat)) (ea.mono C)<|G.a bb ob lb.length Y k 1 P<|G.lU none bb (ob+k*1) (.int .i64 (lb.getD k 0:Nat)) eb ?_;have hp:la.getD i 0*lb.getD k 0<=999999999*999999999:=A25 oV oV;refine G.mul (la.getD i 0:Nat) (lb.getD k 0:Nat) ((la.getD i 0*lb.getD k 0:Nat):Int) kV (A4d _ _).symm oV oV ?_;obtain⟨t,ht⟩:∃ t,t=o.getD (i+k) 0+la.getD i 0*lb.getD k 0+g:=⟨_,rfl⟩;refine G.p ((g+o.getD (i+k) 0:Nat):Int) ((la.getD i 0*lb.getD k 0:Nat):Int) (t:Int)<|G.p i k (i+k:Nat)<|G.rem (t:Int) 1000000000 ((t%1000000000:Nat):Int) kV oV oV oV oV<|G.a E 0 (la.length+lb.length+1) I (i+k) 1 oV<|G.storeA 1 PH.mt _ E (la.length+lb.length+1) I (i+k) (.int .i64 (t%1000000000:Nat)) kV m (by rw[Ak];exact A) rfl rfl ?_;intro m2 F;rw[Lj,Akg oV]at F;exact G.quo (t:Int) 1000000000 ((t/1000000000:Nat):Int) kV oV oV oV oV<|G.i k<|G.b (O (k+1,o.set (i+k) (t%1000000000),t/1000000000) _ _ _ cV C ⟨.inl ⟨oV,d.step U L P H rfl rfl rfl ht⟩,F⟩ dV)
  refine G.lF k lb.length ?_;by_cases a8:0<g
  ·have d:Gt la lb i lb.length o g/\k=lb.length:=by
    rcases D with ⟨h1,h⟩|⟨_,h,_⟩
    ·obtain rfl:k=lb.length:=oV;exact⟨h,rfl⟩
    omega
   obtain⟨d,rfl⟩:=d;obtain⟨W,f⟩:=d.next H;have A:i+lb.length<(o++[0]).length:=gV;refine G.gT g 0<|G.p i lb.length (i+lb.length:Nat)<|G.a E 0 (la.length+lb.length+1) I (i+lb.length) 1 oV<|G.lM none E (0+(i+lb.length)*1) (.int .i64 ((o++[0]).getD (i+lb.length) 0:Nat)) (m.el (Abi A)) ?_;rw[Afz oV];refine G.p g (o.getD (i+lb.length) 0:Nat) (g:Int)<|G.lF lb.length lb.length<|G.p i lb.length (i+lb.length:Nat)<|G.rem (g:Int) 1000000000 (g:Int) kV oV oV oV oV<|G.a E 0 (la.length+lb.length+1) I (i+lb.length) 1 oV<|G.storeA 1 PH.mt _ E (la.length+lb.length+1) I (i+lb.length) (.int .i64 g) kV m (by rw[Ak];exact A) rfl rfl ?_;intro m2 F;rw[Lj,Akg oV]at F;exact G.quo (g:Int) 1000000000 0 kV oV oV oV oV<|G.p lb.length 1 (lb.length+1:Nat)<|G.b (O (lb.length+1,o.set (i+lb.length) g,0) _ _ _ cV C ⟨.inr ⟨rfl,rfl,f⟩,F⟩ dV)
  refine G.gF g 0 ?_;have d:Gt la lb (i+1) 0 o 0:=by
   rcases D with ⟨h1,h⟩|⟨_,_,h⟩
   ·obtain rfl:k=lb.length:=oV;obtain rfl:g=0:=oV;obtain⟨W,f⟩:=h.next H;rw[Apa oV W]at f;exact f
   exact h
  exact G.i i<|G.b (hJ (i+1,o) _ _ _ cV (Q.trans C) ⟨oV,d,m⟩ dV)
 obtain rfl:i=la.length:=oV;refine G.lF la.length la.length<|G.give PH.mt (Ai (o++[0])) _ kV m (fun _=>.inl rfl) ?_;intro u1 l1 hL;have N:Low (o++[0]):=d.low.append (Low.cons oV Low.nil);have V:val (o++[0])=val la*val lb:=by rw[Ki,A3z,A3s];exact d.done
 have a1:=d.len;refine G.neB b b' kV<|G.c call179 (Ec (b:=!(b==b')) hL N gV) ?_;intro v2 u2 l2 Z;rw[K _ N V]at Z;obtain⟨b5,a5,n5,c5,rfl,_,_⟩:=Z.opn;exact G.r (.agg #[.bool b5,.slice a5 n5 c5]) ⟨rfl,Z⟩
end
section
variable {R Y c k n:Nat}{a ys:List Nat}
structure Je (a:List Nat)(n k:Nat)(ys:List Nat)(c:Nat):Prop where
 len:ys.length=k
 low:Low ys
 carry:c<1000000000
 sum:val ys+1000000000^k*c=val (a.take k)*n
def Je.start (a:List Nat)(n:Nat):Je a n 0 [] 0:=⟨rfl,Low.nil,oV,by simp[val]⟩
def Je.step {n k c t:Nat}(h:Je a n k ys c)(d:Low a)(j:n<1000000000)(e:t=c+a.getD k 0*n):Je a n (k+1) (ys++[t%1000000000]) (t/1000000000):=by
 have f:=d.getD k;have g:=h.carry;have hp:a.getD k 0*n<=999999999*999999999:=A25 oV oV;refine⟨by simp[h.len],h.low.append (Low.cons oV Low.nil),oV,?_⟩;rw[Ki,A5,h.len,A2d,A3p,Is,A16];have:=h.sum;rw[e,A2o,<-A3p,this,A17]
def Je.over (h:Je a n k ys c)(e:¬ k<a.length)(d:c=0):val ys=val a*n:=by
 have:=h.sum;rw[A1j oV,d]at this;simpa using this
structure Uv (lx:List Nat)(Y k:Nat)(qs:List Nat)(R:Nat):Prop where
 len:qs.length=lx.length
 low:Low qs
 quo:val (qs.drop k)=val (lx.drop k)/Y
 rest:R=val (lx.drop k)%Y
def Uv.start (d:List Nat)(Y:Nat):Uv d Y d.length (List.replicate d.length 0) 0:=by
 refine⟨mV,Low.zeros _,?_,?_⟩
 ·rw[A2b mV,A2b oV];simp[val]
 rw[A2b oV];simp[val]
def Z9 {R Y x:Nat}(d:R<Y)(e:x<1000000000):(x+1000000000*R)/Y<1000000000:=by
 rw[A3b oV];have:1000000000*(R+1)<=1000000000*Y:=A2h _ d;omega
def Uv.step {d e:List Nat}(h:Uv d Y (k+1) e R)(A:Low d)(v:k<d.length)(g:0<Y) :
 Uv d Y k (e.set k ((d.getD k 0+1000000000*R)/Y)) ((d.getD k 0+1000000000*R)%Y):=by
 have u:R<Y:=by rw[h.rest];exact A29 _ g
 have z:=h.len;have j:(e.set k ((d.getD k 0+1000000000*R)/Y)).drop k=(d.getD k 0+1000000000*R)/Y::e.drop (k+1):=by
  rw[Cs _ k gV,A67 oV]
  congr 1
  rw[A02,A44 oV];rfl
 have m:=Cs d k v;have f:val (d.drop k)=d.getD k 0+1000000000*R+Y*(1000000000*(val (d.drop (k+1))/Y)):=by
  rw[m];simp only[val];have:=A3h (val (d.drop (k+1))) Y;rw[<-h.rest]at this;have t:1000000000*val (d.drop (k+1))=1000000000*(Y*(val (d.drop (k+1))/Y))+1000000000*R:=by rw[<-A2o,this]
  rw[t,Nat.mul_left_comm Y 1000000000];omega
 refine⟨by simpa using z,h.low.set _ (Z9 u (A.getD k)),?_,?_⟩
 ·rw[j,f,Nat.add_mul_div_left _ _ g];simp only[val];rw[h.quo]
 rw[f,Nat.add_mul_mod_self_left]
def Auz {Y R y1 p m d j:Nat}(A:Y=y1*p+m)(v:m<p)(e:0<y1)(z:R=d*p+j)(u:j<p):d/(y1+1)<=R/Y/\R/Y<=d/y1:=by
 have hp:0<p:=oV;have f:0<Y:=by have:=A51 e hp;omega
 constructor
 ·rw[A4u f];have g:Y<=(y1+1)*p:=by rw[A16];omega
  have h:d/(y1+1)*(y1+1)<=d:=A69 _ _
  calc d/(y1+1)*Y<=d/(y1+1)*((y1+1)*p):=A2h _ g
   _=d/(y1+1)*(y1+1)*p:=by rw[A17]
   _<=d*p:=A13 _ h
   _<=R:=oV
 rw[A4u e];have g:R/Y*Y<=R:=A69 _ _;have h:R/Y*(y1*p)<=R/Y*Y:=A2h _ oV;have t:R/Y*y1*p<(d+1)*p:=by rw[A17,A16];omega
 exact Nat.le_of_lt_succ (A60 t)
def Ayr (R n:Nat)(t:0<n)(m:(Aa R).length<=n+1)(j:n<=(Aa R).length) :
 ∃ g,R=((Aa R).getD (n-1) 0+(Aa R).getD n 0*1000000000)*1000000000^(n-1)+g/\g<1000000000^(n-1):=by
 refine⟨val ((Aa R).take (n-1)),?_,?_⟩
 ·have h:=Gz (Aa R) (n-1) oV;rw[Am]at h;have f:=Cs (Aa R) (n-1) oV;rw[show n-1+1=n by omega]at f;rcases A2e n (Aa R).length with e|e
  ·have d:=Cs (Aa R) n e;rw[A2b (show (Aa R).length<=n+1 by omega)]at d;rw[f,d]at h;simp only[val,A3z,A3s]at h;rw[A19 _ (1000000000^(n-1)),A19 ((Aa R).getD n 0)];omega
  rw[A2b e]at f;rw[f]at h;simp only[val]at h;have h0:(Aa R).getD n 0=0:=by rw[A02,A1v e];rfl
  rw[h0,A19 _ (1000000000^(n-1))];simp only[A58,A3z,A3s]at h⊢;omega
 have:=K8 ((Ao R).take (n-1));rwa[A1e,A4a oV]at this
end
section
variable {n:Nat}{u:PH}
def Do.lim {b:Bool}{a:Option Addr}{n c k:Nat}(h:Do u (.agg #[.bool b,.slice a n c]) (Cd false k)):Cy u (.slice a n c) (Aa k):=by
 obtain⟨_,_,_,d,e⟩:=h;simp only[Value.agg.injEq,A5j,A3g,Value.bool.injEq,Value.slice.injEq,and_true]at d;obtain⟨_,rfl,rfl,rfl⟩:=d;rw[K5]at e;exact e
def Jj {V:Value}{la:List Nat}(P:Cy u V la)(D:Low la)(sa:la.length<=1000000000000)(hn:n<1000000000) :
 Fn0 prog 180 [V,.int .i64 n] u fun v T=>Cy T v (Aa (val la*n)):=by
 obtain⟨a,O,rfl,a3⟩:=P.opn;refine Fn0.o func180<|G.l (ι:=Nat×List Nat×Nat×Value) (fun i=>[(0,sV a la.length O),(1,iV n),(5,.v i.2.2.2),(6,iV i.2.2.1),(7,iV i.1)]) (fun _=>[])
  (fun i _ Q=>(i.1<=la.length+1/\(la.length+1<=i.1->i.2.2.1=0))/\Af PH.mt Q i.2.2.2 3 1 (Ai i.2.1)/\Je la n i.1 i.2.1 i.2.2.1) (fun i=>la.length+2-i.1) (0,[],0,.slice none 0 0)
  ⟨⟨mV,fun _=>rfl⟩,Af.nil _ _ _,Je.start _ _⟩ ?_
 rintro J ⟨k,ys,c,A⟩ K T Q m ⟨hk,z,d⟩;simp only at hk z d K;have a2:=d.carry;have a0:=D.getD k;have hp:la.getD k 0*n<=999999999*999999999:=A25 oV oV;obtain⟨X,Z,rfl⟩:=z.shape;obtain⟨A,C⟩:∃ A,A=Value.slice X (Ai ys).length Z:=⟨_,rfl⟩;rw[<-C]at z⊢;obtain⟨t,L⟩:∃ t,t=c+la.getD k 0*n:=⟨_,rfl⟩;have f:=d.step D hn L;by_cases h:k<la.length
 ·refine G.lT k la.length<|G.lT k la.length ?_;obtain⟨N,R,rfl,ea⟩:=(P.mono m).at (j:=k) h;refine G.a N R la.length O k 1 h<|G.lU none N (R+k*1) (.int .i64 (la.getD k 0:Nat)) ea<|G.mul (la.getD k 0:Nat) (n:Int) ((la.getD k 0*n:Nat):Int) kV (A4d _ _).symm oV oV<|G.p c (la.getD k 0*n:Nat) t<|G.rem (t:Int) 1000000000 ((t%1000000000:Nat):Int) kV oV oV oV oV<|G.B 3 1 8 (.int .i64 0) [.int .i64 (t%1000000000:Nat)] (Av [t%1000000000]) ?_;intro g U E H;refine G.append 3 1 8 (.int .i64 0) PH.mt (Ai ys) [.int .i64 (t%1000000000:Nat)] A g 0 1 1 kV rfl rfl oV z H (Av [t%1000000000]) rfl oV (by rw[Ak,d.len];omega) (by rw[Ak,d.len];omega) ?_;intro F m2 e;rw[Di]at e;exact G.quo (t:Int) 1000000000 ((t/1000000000:Nat):Int) kV oV oV oV oV<|G.i k<|G.b (K (k+1,ys++[t%1000000000],t/1000000000,F) _ _ _ cV (m.trans E) ⟨⟨oV,dV⟩,e,f⟩ dV)
 have hz:=Fs h;rw[hz,A58,A3s]at L;subst L;refine G.lF k la.length ?_;by_cases a1:0<t
 ·refine G.gT t 0<|G.lF k la.length<|G.rem (t:Int) 1000000000 ((t%1000000000:Nat):Int) kV oV oV oV oV<|G.B 3 1 8 (.int .i64 0) [.int .i64 (t%1000000000:Nat)] (Av [t%1000000000]) ?_;intro g U E H;refine G.append 3 1 8 (.int .i64 0) PH.mt (Ai ys) [.int .i64 (t%1000000000:Nat)] A g 0 1 1 kV rfl rfl oV z H (Av [t%1000000000]) rfl oV (by rw[Ak,d.len];omega) (by rw[Ak,d.len];omega) ?_;intro F m2 e;rw[Di]at e;exact G.quo (t:Int) 1000000000 ((t/1000000000:Nat):Int) kV oV oV oV oV<|G.i k<|G.b (K (k+1,ys++[t%1000000000],t/1000000000,F) _ _ _ cV (m.trans E) ⟨⟨oV,dV⟩,e,f⟩ dV)
 refine G.gF t 0<|G.give PH.mt (Ai ys) A kV z (fun _=>.inl rfl) ?_;intro U E hL;have a4:=d.len;subst C;refine G.c call179 (Ec (b:=false) hL d.low oV) ?_;intro F u2 l2 I;rw[d.over h oV]at I;obtain⟨b5,W,n5,Y,rfl,_,_⟩:=I.opn;exact G.r (.slice W n5 Y) ⟨rfl,I.lim⟩
end
section
variable {R Y hi lo mid:Nat}{z:Int}
def Nu (m n:Nat):((m:Int)).tdiv n=((m/n:Nat):Int):=rfl
def Ri (m n:Nat):((m:Int)).tmod n=((m%n:Nat):Int):=rfl
theorem Amz (y z:Int):Cd (!(decide (y<0)==decide (z<0))) (y.natAbs/z.natAbs)=y.tdiv z:=by
 unfold Cd;rcases A5q y 0 with d|d<;>rcases A5q z 0 with e|e
 ·rw[decide_eq_true d,decide_eq_true e];obtain⟨m,rfl⟩:∃ m:Nat,y = -(m:Int):=⟨y.natAbs,oV⟩;obtain⟨n,rfl⟩:∃ n:Nat,z = -(n:Int):=⟨z.natAbs,oV⟩;rw[A7k,Int.tdiv_neg,Ba1,Nu,A3l,A3l];rfl
 ·rw[decide_eq_true d,decide_eq_false (show ¬ z<0 by omega)];obtain⟨m,rfl⟩:∃ m:Nat,y = -(m:Int):=⟨y.natAbs,oV⟩;obtain⟨n,rfl⟩:∃ n:Nat,z=(n:Int):=⟨z.natAbs,oV⟩;rw[A7k,Nu,A3l];rfl
 ·rw[decide_eq_false (show ¬ y<0 by omega),decide_eq_true e];obtain⟨m,rfl⟩:∃ m:Nat,y=(m:Int):=⟨y.natAbs,oV⟩;obtain⟨n,rfl⟩:∃ n:Nat,z = -(n:Int):=⟨z.natAbs,oV⟩;rw[Int.tdiv_neg,Nu,A3l];rfl
 grind
theorem Aok (y z:Int):Cd (decide (y<0)) (y.natAbs%z.natAbs)=y.tmod z:=by
 unfold Cd;have e:∀ m:Nat,((m:Int)).tmod z=((m%z.natAbs:Nat):Int):=by
  intro m;rcases A5q z 0 with f|f
  ·obtain⟨n,rfl⟩:∃ n:Nat,z = -(n:Int):=⟨z.natAbs,oV⟩;rw[Int.tmod_neg,Ri,A3l];rfl
  grind
 rcases A5q y 0 with d|d
 ·rw[decide_eq_true d];obtain⟨m,rfl⟩:∃ m:Nat,y = -(m:Int):=⟨y.natAbs,oV⟩;rw[Int.neg_tmod,e,A3l];rfl
 grind
def Aw5 {n:Nat}(h:n≠0):0<(Aa n).getD ((Aa n).length-1) 0:=by
 have d:=Ke (Ao n);rw[Am]at d;have e:=congrArg List.length d;rw[A1e]at e;have hp:0<(Aa n).length:=Df.2 oV;have g:=Mi (Aa n) (Aa n).length;have f:=Uz (Aa n) (Aa n).length oV;rw[show Bz (Aa n) (Aa n).length=(Aa n).length by omega]at f;omega
def Ajt (h:z<=0):sgn z<=0:=by
 rcases A4q z 0 with d|d|d
 ·rw[Ep d];decide
 ·rw[d];decide
 omega
def Axq (h:0<=z):0<=sgn z:=by
 rcases A4q z 0 with d|d|d
 ·omega
 ·rw[d];decide
 rw[C5 d];decide
def Au8 (g:Nat)(u:PH)(x:Nat)(e:Hc u g 0 1 [.int .i64 x]):Ac u (.slice (some ⟨g,0,none⟩) 1 1) 1 (Ai [x]):=⟨_,1,rfl,by simp[Ai],fun j v d=>⟨g,0,rfl,e j v d⟩⟩
def Ah7 (x:Nat)(l:List Nat):Ai [x]++Ai l=Ai (x::l):=rfl
structure Yw (Y R lo hi:Nat):Prop where
 a:lo<=R/Y
 b:R/Y<=hi
 c:hi<=999999999
def Yw.up (h:Yw Y R lo hi)(d:0<Y)(e:Y*mid<=R):Yw Y R mid hi:=⟨by rw[A4u d,A19];exact e,h.b,h.c⟩
def Yw.down (h:Yw Y R lo hi)(d:0<Y)(f:¬ Y*mid<=R)(h0:0<mid)(e:mid<=hi):Yw Y R lo (mid-1):=by
 have:R/Y<mid:=by rw[A3b d,A19];omega
 exact⟨h.a,oV,by have:=h.c;omega⟩
def Q5 {u:PH}{x x':Value}{y z:Int}(hx:Do u x y)(b9:Do u x' z)(sy:nl y.natAbs<=100000000000)(sz:nl z.natAbs<=100000000000)(bq:z≠0) :
 Fn0 prog 128 [x,x'] u fun v u'=>∃ a b,v=.tuple #[a,b]/\Do u' a (y.tdiv z)/\Do u' b (y.tmod z):=by
 obtain⟨b,a,n,c,rfl,hb,hi⟩:=hx.opn;obtain⟨b',a',n',c',rfl,an,ay⟩:=b9.opn;obtain⟨rfl,_⟩:=hi.len;obtain⟨rfl,_⟩:=ay.len;have b0:=Ao y.natAbs;have bs:(Aa y.natAbs).length<=100000000000:=sy;have bt:(Aa z.natAbs).length<=100000000000:=sz;have O:0<z.natAbs:=oV;have be:0<(Aa z.natAbs).length:=Df.2 O;have ae:Cd (!(b==b')) (y.natAbs/z.natAbs)=y.tdiv z:=by rw[hb,an];exact Amz y z
 have af:Cd b (y.natAbs%z.natAbs)=y.tmod z:=by rw[hb];exact Aok y z
 have bh:=Am y.natAbs;rw[<-bh]at ae af;generalize Aa y.natAbs=lx at *
 have hY:=Am z.natAbs;have Z:=Ao z.natAbs;have aa:=Aw5 (n:=z.natAbs) oV;generalize z.natAbs=Y at *
 clear hb an hx b9 sy sz;refine Fn0.o func128<|G.make 3 1 8 (.int .i64 0) lx.length kV rfl rfl oV oV oV ?_;rintro vq m1 D ⟨aq,rfl⟩;rw[Ut]at D;refine G.sub (lx.length:Int) 1 ((lx.length:Int)-1) kV rfl oV oV<|G.l (ι:=Int×Nat×List Nat×Value) (fun i=>[(2,.p 0 0),(3,.p 1 0),(4,.p 2 0),(5,.p 3 0),(6,.v i.2.2.2),(7,sV (some aq) lx.length lx.length),(8,iV i.1)])
  (fun _=>[(0,⟨88,[bV b,sV a lx.length c]⟩),(1,⟨88,[bV b',sV a' (Aa Y).length c']⟩),(2,⟨88,[bV false,sV none 0 0]⟩),(3,⟨88,[bV false,sV none 0 0]⟩)])
  (fun i u' m'=>(-1<=i.1/\i.1<lx.length)/\Uv lx Y (i.1+1).toNat i.2.2.1 i.2.1/\Cy u' i.2.2.2 (Aa i.2.1)/\Af PH.mt m' (.slice (some aq) lx.length lx.length) 3 1 (Ai i.2.2.1)) (fun i=>(i.1+1).toNat) ((lx.length:Int)-1,0,List.replicate lx.length 0,.slice none 0 0)
  ⟨⟨gV,gV⟩,by rw[show (((lx.length:Int)-1)+1).toNat=lx.length by omega];exact Uv.start _ _,by rw[A7];exact Ac.nil _ _ _ _,D⟩ ?_
 clear D m1;rintro J ⟨zi,R,qs,vr⟩ hJ u' m' aj ⟨bj,C,hR,D⟩;simp only at bj C hR D hJ;obtain⟨ar,cr,rfl,bp⟩:=hR.opn;by_cases b5:0<=zi
 ·obtain⟨k,rfl⟩:=A6d b5;rw[show ((k:Int)+1).toNat=k+1 by omega]at C;have hk:k<lx.length:=oV;have am:R<Y:=by rw[C.rest];exact A29 _ O
  have bb:=b0.getD k;have m:=C.step b0 hk O;have ap:=Z9 am bb;obtain⟨H,bm,e⟩:=D.ptr (by intro e;have:=congrArg List.length e;rw[Ak,C.len,A30]at this;omega);simp only[Value.slice.injEq,A1f]at e;obtain⟨rfl,_,_⟩:=e;obtain⟨ba,oa,rfl,ea⟩:=(hi.mono aj).at (j:=k) hk;refine G.hT k 0<|G.a ba oa lx.length c k 1 hk<|G.lU none ba (oa+k*1) (.int .i64 (lx.getD k 0:Nat)) ea<|G.B 3 1 8 (.int .i64 0) [.int .i64 (lx.getD k 0:Nat)] (Av [lx.getD k 0]) ?_;intro g u1 l1 e1;have ai:(Aa R).length<=(Aa Y).length:=Fi oV;refine G.appendV 3 1 8 (.int .i64 0) (Ai [lx.getD k 0]) (Ai (Aa R)) (some ⟨g,0,none⟩) 1 ar (Aa R).length cr kV oV (Au8 g u1 _ e1) (Av _) (hR.mono l1) (Av _) (by rw[Ak,Ak];simp;omega) (by rw[Ak,Ak];simp;omega) ?_;intro v2 u2 l2 h2;rw[Ah7]at h2;obtain⟨a2,c2,rfl,bn⟩:=Cy.opn h2;refine G.c call179 (Ec (b:=false) (l:=lx.getD k 0::Aa R) h2 (Low.cons bb (Ao R)) gV) ?_;intro v3 u3 l3 h3;rw[show val (lx.getD k 0::Aa R)=lx.getD k 0+1000000000*R by simp only[val];rw[Am]]at h3;generalize lx.getD k 0+1000000000*R=d at *
  obtain⟨b3,a3,n3,c3,rfl,_,_⟩:=h3.opn;have ah:=h3.lim;obtain⟨rfl,bo⟩:=ah.len;have ac:(Aa d).length<=(Aa Y).length+1:=by
   have h5:=ap;rw[A3b O]at h5;refine A4 ?_;have I:=Dd Y;rw[A2d];have h7:1000000000*Y<1000000000*1000000000^nl Y:=Nat.mul_lt_mul_of_pos_left I oV;have h8:(1000000000:Nat)^(Aa Y).length=1000000000^nl Y:=rfl;rw[h8,A19 (1000000000^nl Y)];omega
  have az:=ay.mono (((aj.trans l1).trans l2).trans l3);refine G.c call175 (Lx ah az (by show (Aa d).length<=_;omega) (by show (Aa Y).length<=_;omega)) ?_;rintro v4 u4 l4 rfl;have N:=ah.mono l4;have P:=az.mono l4;have U:PH.le u u4:=(((aj.trans l1).trans l2).trans l3).trans l4;by_cases bd:Y<=d
  ·refine G.hT' (sgn ((d:Int)-Y)) 0 (Axq oV) ?_;have ak:(Aa Y).length<=(Aa d).length:=Fi bd;obtain⟨rl,bf,bg⟩:=Ayr d (Aa Y).length be ac ak;obtain⟨br,a0,rfl,er⟩:=N.at (j:=(Aa Y).length-1) oV;have bk:=(Ao d).getD ((Aa Y).length-1);have bl:=(Ao d).getD (Aa Y).length;have ag:=Z.getD ((Aa Y).length-1);obtain⟨Q,oy,rfl,ey⟩:=P.at (j:=(Aa Y).length-1) oV;have a1:Y=(Aa Y).getD ((Aa Y).length-1) 0*1000000000^((Aa Y).length-1)+val ((Aa Y).take ((Aa Y).length-1)):=by
    have h5:=Gz (Aa Y) ((Aa Y).length-1) oV;rw[hY,Cs _ _ (show (Aa Y).length-1<(Aa Y).length by omega),A2b oV]at h5;simp only[val,A3z,A3s]at h5;rw[A19];omega
   have bi:val ((Aa Y).take ((Aa Y).length-1))<1000000000^((Aa Y).length-1):=by
    have:=K8 (Z.take ((Aa Y).length-1));rwa[A1e,A4a oV]at this
   have au:=Auz a1 bi aa bf bg;refine G.s ((Aa Y).length:Int) 1 (((Aa Y).length-1:Nat):Int)<|G.a br a0 (Aa d).length c3 ((Aa Y).length-1) 1 oV<|G.lU none br (a0+((Aa Y).length-1)*1) (.int .i64 ((Aa d).getD ((Aa Y).length-1) 0:Nat)) er ?_;obtain⟨t,al⟩:∃ t,t=(Aa d).getD ((Aa Y).length-1) 0+(Aa d).getD (Aa Y).length 0*1000000000:=⟨_,rfl⟩;rw[<-al]at au;have b4:∀ k:Nat,((min (999999999:Int) (k:Int)))=((min 999999999 k:Nat):Int):=fun k=>oV;obtain⟨h1,W⟩:∃ h1,h1=min 999999999 (t/(Aa Y).getD ((Aa Y).length-1) 0):=⟨_,rfl⟩;obtain⟨l0,X⟩:∃ l0,l0=min h1 (t/((Aa Y).getD ((Aa Y).length-1) 0+1)):=⟨_,rfl⟩;have A:Yw Y d l0 h1:=⟨oV,oV,oV⟩;by_cases a5:(Aa Y).length<(Aa d).length
   ·refine G.gT ((Aa d).length:Int) ((Aa Y).length:Int) ?_;obtain⟨_,_,e9,bc⟩:=N.at (j:=(Aa Y).length) a5;simp only[A1f,Addr.mk.injEq,and_true]at e9;obtain⟨rfl,rfl⟩:=e9;refine G.a br a0 (Aa d).length c3 (Aa Y).length 1 a5<|G.lU none br (a0+(Aa Y).length*1) (.int .i64 ((Aa d).getD (Aa Y).length 0:Nat)) bc<|G.mul ((Aa d).getD (Aa Y).length 0:Nat) 1000000000 (((Aa d).getD (Aa Y).length 0*1000000000:Nat):Int) kV oV oV oV<|G.p ((Aa d).getD ((Aa Y).length-1) 0:Nat) (((Aa d).getD (Aa Y).length 0*1000000000:Nat):Int) (t:Int) ?_;obtain⟨y1,ab⟩:∃ y1,y1=(Aa Y).getD ((Aa Y).length-1) 0:=⟨_,rfl⟩;rw[<-ab]at ey W X aa ag;refine G.s ((Aa Y).length:Int) 1 (((Aa Y).length-1:Nat):Int)<|G.a Q oy (Aa Y).length c' ((Aa Y).length-1) 1 oV<|G.lU none Q (oy+((Aa Y).length-1)*1) (.int .i64 (y1:Nat)) ey<|G.quo (t:Int) (y1:Int) ((t/y1:Nat):Int) kV oV oV oV (A5k _ _).symm<|G.minI [3,3] 999999999 ((t/y1:Nat):Int) (h1:Int) kV (by rw[b4,W])<|G.s ((Aa Y).length:Int) 1 (((Aa Y).length-1:Nat):Int)<|G.a Q oy (Aa Y).length c' ((Aa Y).length-1) 1 oV<|G.lU none Q (oy+((Aa Y).length-1)*1) (.int .i64 (y1:Nat)) ey<|G.i y1<|G.quo (t:Int) ((y1+1:Nat):Int) ((t/(y1+1):Nat):Int) kV oV oV oV (A5k _ _).symm<|G.minI [3,3] (h1:Int) ((t/(y1+1):Nat):Int) (l0:Int) kV (by rw[X];omega)<|G.l (ι:=Nat×Nat) (fun i=>[(2,.p 0 0),(3,.p 1 0),(4,.p 2 0),(5,.p 3 0),(6,sV (some ⟨br,a0,none⟩) (Aa d).length c3),(7,sV (some ⟨H,0,none⟩) lx.length lx.length),(8,iV k),(9,iV i.1),(10,iV i.2)])
     (fun _=>[(0,⟨88,[bV b,sV (some ⟨ba,oa,none⟩) lx.length c]⟩),(1,⟨88,[bV b',sV (some ⟨Q,oy,none⟩) (Aa Y).length c']⟩),(2,⟨88,[bV false,sV none 0 0]⟩),(3,⟨88,[bV false,sV none 0 0]⟩)])
     (fun i _ m'=>Yw Y d i.1 i.2/\Af PH.mt m' (.slice (some ⟨H,0,none⟩) lx.length lx.length) 3 1 (Ai qs)) (fun i=>i.2-i.1) (l0,h1) ⟨A,D⟩ ?_
    clear A D X W;rintro J2 ⟨lo,h⟩ L u5 m' f ⟨T,D⟩;simp only at T D L;have av:=T.a;have aw:=T.b;have ax:=T.c;by_cases b1:lo<h
    ·refine G.lT lo h<|G.p lo h (lo+h:Nat)<|G.p (lo+h:Nat) 1 (lo+h+1:Nat) ?_;obtain⟨mid,ad⟩:∃ mid,mid=(lo+h+1)/2:=⟨_,rfl⟩;refine G.quo ((lo+h+1:Nat):Int) 2 (mid:Int) kV oV oV oV oV<|G.c call180 (Jj (n:=mid) (P.mono f) Z oV oV) ?_;intro v6 u6 V I;rw[hY]at I;obtain⟨a6,c6,rfl,a4⟩:=I.opn;have b7:(Aa (Y*mid)).length<=200000000002:=by
      have h5:=G7 Y mid;have h7:nl mid<=1:=A4 oV;have h8:nl Y=(Aa Y).length:=rfl;have h9:nl (Y*mid)=(Aa (Y*mid)).length:=rfl;omega
     refine G.c call175 (Lx I ((N.mono f).mono V) (by show (Aa (Y*mid)).length<=_;omega) (by show (Aa d).length<=_;omega)) ?_;rintro v7 u7 l7 rfl;by_cases E:Y*mid<=d
     ·exact G.kT' (sgn (((Y*mid:Nat):Int)-d)) 0 (Ajt oV)<|G.b (L (mid,h) _ _ _ cV ((f.trans V).trans l7) ⟨T.up O E,D⟩ dV)
     exact G.kF' (sgn (((Y*mid:Nat):Int)-d)) 0 (by rw[C5 oV];decide)<|G.s mid 1 (mid-1:Nat)<|G.b (L (lo,mid-1) _ _ _ cV ((f.trans V).trans l7) ⟨T.down O E oV oV,D⟩ dV)
    obtain rfl:lo=d / Y:=oV;refine G.lF (d / Y:Nat) h<|G.a H 0 lx.length lx.length k 1 hk<|G.storeA 1 PH.mt _ H lx.length lx.length k (.int .i64 (d / Y:Nat)) kV D (by rw[Ak,C.len];exact hk) rfl rfl ?_;intro m2 K;rw[Lj]at K;by_cases b6:0<d / Y
    ·refine G.gT (d / Y:Nat) 0<|G.c call180 (Jj (n:=d / Y) (P.mono f) Z oV oV) ?_;intro v6 u6 V I;rw[hY]at I;have F:Y*(d / Y)<=d:=A9r d Y;obtain⟨a6,c6,rfl,a4⟩:=I.opn;refine G.c call181 (Ly ((N.mono f).mono V) I (Ao _) (Ao _) oV (Fi F) (by rw[Am,Am];exact F)) ?_;rintro v7 u7 l7 ⟨l,g1,g2,g3,g4⟩;obtain⟨a7,c7,rfl,ao⟩:=g1.opn;refine G.c call179 (Ec (b:=false) g1 g2 oV) ?_;intro v8 u8 l8 h8;rw[g3,Am,Am,show d - Y*(d / Y)=d % Y by have:=A3h d Y;omega]at h8;obtain⟨b8,a8,n8,c8,rfl,_,_⟩:=h8.opn;refine G.sub (k:Int) 1 ((k:Int)-1) kV rfl oV oV<|G.b (hJ ((k:Int)-1,d % Y,qs.set k (d / Y),.slice a8 n8 c8) _ _ _ cV ((((U.trans f).trans V).trans l7).trans l8) ⟨⟨dV,dV⟩,?_,h8.lim,K⟩ dV);rw[show (((k:Int)-1)+1).toNat=k by omega];exact m
    refine G.gF (d / Y:Nat) 0<|G.sub (k:Int) 1 ((k:Int)-1) kV rfl oV oV ?_;have a9:d % Y=d:=by have:=A3h d Y;rw[show d / Y=0 by omega,A3z]at this;omega
    rw[a9]at m;refine G.b (hJ ((k:Int)-1,d,qs.set k (d / Y),.slice (some ⟨br,a0,none⟩) (Aa d).length c3) _ _ _ cV (U.trans f) ⟨⟨dV,dV⟩,?_,N.mono f,K⟩ dV);rw[show (((k:Int)-1)+1).toNat=k by omega];exact m
   refine G.gF ((Aa d).length:Int) ((Aa Y).length:Int) ?_;have h0:=Fs (l:=Aa d) (k:=(Aa Y).length) oV;rw[h0,A58,A3s]at al;rw[<-al];obtain⟨y1,ab⟩:∃ y1,y1=(Aa Y).getD ((Aa Y).length-1) 0:=⟨_,rfl⟩;rw[<-ab]at ey W X aa ag;refine G.s ((Aa Y).length:Int) 1 (((Aa Y).length-1:Nat):Int)<|G.a Q oy (Aa Y).length c' ((Aa Y).length-1) 1 oV<|G.lU none Q (oy+((Aa Y).length-1)*1) (.int .i64 (y1:Nat)) ey<|G.quo (t:Int) (y1:Int) ((t/y1:Nat):Int) kV oV oV oV (A5k _ _).symm<|G.minI [3,3] 999999999 ((t/y1:Nat):Int) (h1:Int) kV (by rw[b4,W])<|G.s ((Aa Y).length:Int) 1 (((Aa Y).length-1:Nat):Int)<|G.a Q oy (Aa Y).length c' ((Aa Y).length-1) 1 oV<|G.lU none Q (oy+((Aa Y).length-1)*1) (.int .i64 (y1:Nat)) ey<|G.i y1<|G.quo (t:Int) ((y1+1:Nat):Int) ((t/(y1+1):Nat):Int) kV oV oV oV (A5k _ _).symm<|G.minI [3,3] (h1:Int) ((t/(y1+1):Nat):Int) (l0:Int) kV (by rw[X];omega)<|G.l (ι:=Nat×Nat) (fun i=>[(2,.p 0 0),(3,.p 1 0),(4,.p 2 0),(5,.p 3 0),(6,sV (some ⟨br,a0,none⟩) (Aa d).length c3),(7,sV (some ⟨H,0,none⟩) lx.length lx.length),(8,iV k),(9,iV i.1),(10,iV i.2)])
    (fun _=>[(0,⟨88,[bV b,sV (some ⟨ba,oa,none⟩) lx.length c]⟩),(1,⟨88,[bV b',sV (some ⟨Q,oy,none⟩) (Aa Y).length c']⟩),(2,⟨88,[bV false,sV none 0 0]⟩),(3,⟨88,[bV false,sV none 0 0]⟩)])
    (fun i _ m'=>Yw Y d i.1 i.2/\Af PH.mt m' (.slice (some ⟨H,0,none⟩) lx.length lx.length) 3 1 (Ai qs)) (fun i=>i.2-i.1) (l0,h1) ⟨A,D⟩ ?_
   clear A D X W;rintro J2 ⟨lo,h⟩ L u5 m' f ⟨T,D⟩;simp only at T D L;have av:=T.a;have aw:=T.b;have ax:=T.c;by_cases b1:lo<h
   ·refine G.lT lo h<|G.p lo h (lo+h:Nat)<|G.p (lo+h:Nat) 1 (lo+h+1:Nat) ?_;obtain⟨mid,ad⟩:∃ mid,mid=(lo+h+1)/2:=⟨_,rfl⟩;refine G.quo ((lo+h+1:Nat):Int) 2 (mid:Int) kV oV oV oV oV<|G.c call180 (Jj (n:=mid) (P.mono f) Z oV oV) ?_;intro v6 u6 V I;rw[hY]at I;obtain⟨a6,c6,rfl,a4⟩:=I.opn;have b7:(Aa (Y*mid)).length<=200000000002:=by
     have h5:=G7 Y mid;have h7:nl mid<=1:=A4 oV;have h8:nl Y=(Aa Y).length:=rfl;have h9:nl (Y*mid)=(Aa (Y*mid)).length:=rfl;omega
    refine G.c call175 (Lx I ((N.mono f).mono V) (by show (Aa (Y*mid)).length<=_;omega) (by show (Aa d).length<=_;omega)) ?_;rintro v7 u7 l7 rfl;by_cases E:Y*mid<=d
    ·exact G.kT' (sgn (((Y*mid:Nat):Int)-d)) 0 (Ajt oV)<|G.b (L (mid,h) _ _ _ cV ((f.trans V).trans l7) ⟨T.up O E,D⟩ dV)
    exact G.kF' (sgn (((Y*mid:Nat):Int)-d)) 0 (by rw[C5 oV];decide)<|G.s mid 1 (mid-1:Nat)<|G.b (L (lo,mid-1) _ _ _ cV ((f.trans V).trans l7) ⟨T.down O E oV oV,D⟩ dV)
   obtain rfl:lo=d / Y:=oV;refine G.lF (d / Y:Nat) h<|G.a H 0 lx.length lx.length k 1 hk<|G.storeA 1 PH.mt _ H lx.length lx.length k (.int .i64 (d / Y:Nat)) kV D (by rw[Ak,C.len];exact hk) rfl rfl ?_;intro m2 K;rw[Lj]at K;by_cases b6:0<d / Y
   ·refine G.gT (d / Y:Nat) 0<|G.c call180 (Jj (n:=d / Y) (P.mono f) Z oV oV) ?_;intro v6 u6 V I;rw[hY]at I;have F:Y*(d / Y)<=d:=A9r d Y;obtain⟨a6,c6,rfl,a4⟩:=I.opn;refine G.c call181 (Ly ((N.mono f).mono V) I (Ao _) (Ao _) oV (Fi F) (by rw[Am,Am];exact F)) ?_;rintro v7 u7 l7 ⟨l,g1,g2,g3,g4⟩;obtain⟨a7,c7,rfl,ao⟩:=g1.opn;refine G.c call179 (Ec (b:=false) g1 g2 oV) ?_;intro v8 u8 l8 h8;rw[g3,Am,Am,show d - Y*(d / Y)=d % Y by have:=A3h d Y;omega]at h8;obtain⟨b8,a8,n8,c8,rfl,_,_⟩:=h8.opn;refine G.sub (k:Int) 1 ((k:Int)-1) kV rfl oV oV<|G.b (hJ ((k:Int)-1,d % Y,qs.set k (d / Y),.slice a8 n8 c8) _ _ _ cV ((((U.trans f).trans V).trans l7).trans l8) ⟨⟨dV,dV⟩,?_,h8.lim,K⟩ dV);rw[show (((k:Int)-1)+1).toNat=k by omega];exact m
   refine G.gF (d / Y:Nat) 0<|G.sub (k:Int) 1 ((k:Int)-1) kV rfl oV oV ?_;have a9:d % Y=d:=by have:=A3h d Y;rw[show d / Y=0 by omega,A3z]at this;omega
   rw[a9]at m;refine G.b (hJ ((k:Int)-1,d,qs.set k (d / Y),.slice (some ⟨br,a0,none⟩) (Aa d).length c3) _ _ _ cV (U.trans f) ⟨⟨dV,dV⟩,?_,N.mono f,K⟩ dV);rw[show (((k:Int)-1)+1).toNat=k by omega];exact m
  refine G.hF' (sgn ((d:Int)-Y)) 0 (by rw[Ep oV];decide) ?_;obtain⟨l0,X⟩:∃ l0:Nat,l0=0:=⟨_,rfl⟩;obtain⟨h1,W⟩:∃ h1:Nat,h1=0:=⟨_,rfl⟩;have A:Yw Y d 0 0:=by
   have:d / Y=0:=A49 oV;exact⟨oV,oV,oV⟩
  refine G.l (ι:=Nat×Nat) (fun i=>[(2,.p 0 0),(3,.p 1 0),(4,.p 2 0),(5,.p 3 0),(6,sV a3 (Aa d).length c3),(7,sV (some ⟨H,0,none⟩) lx.length lx.length),(8,iV k),(9,iV i.1),(10,iV i.2)])
   (fun _=>[(0,⟨88,[bV b,sV (some ⟨ba,oa,none⟩) lx.length c]⟩),(1,⟨88,[bV b',sV a' (Aa Y).length c']⟩),(2,⟨88,[bV false,sV none 0 0]⟩),(3,⟨88,[bV false,sV none 0 0]⟩)])
   (fun i _ m'=>Yw Y d i.1 i.2/\Af PH.mt m' (.slice (some ⟨H,0,none⟩) lx.length lx.length) 3 1 (Ai qs)) (fun i=>i.2-i.1) (0,0) ⟨A,D⟩ ?_
  clear A D X W;rintro J2 ⟨lo,h⟩ L u5 m' f ⟨T,D⟩;simp only at T D L;have av:=T.a;have aw:=T.b;have ax:=T.c;by_cases b1:lo<h
  ·refine G.lT lo h<|G.p lo h (lo+h:Nat)<|G.p (lo+h:Nat) 1 (lo+h+1:Nat) ?_;obtain⟨mid,ad⟩:∃ mid,mid=(lo+h+1)/2:=⟨_,rfl⟩;refine G.quo ((lo+h+1:Nat):Int) 2 (mid:Int) kV oV oV oV oV<|G.c call180 (Jj (n:=mid) (P.mono f) Z oV oV) ?_;intro v6 u6 V I;rw[hY]at I;obtain⟨a6,c6,rfl,a4⟩:=I.opn;have b7:(Aa (Y*mid)).length<=200000000002:=by
    have h5:=G7 Y mid;have h7:nl mid<=1:=A4 oV;have h8:nl Y=(Aa Y).length:=rfl;have h9:nl (Y*mid)=(Aa (Y*mid)).length:=rfl;omega
   refine G.c call175 (Lx I ((N.mono f).mono V) (by show (Aa (Y*mid)).length<=_;omega) (by show (Aa d).length<=_;omega)) ?_;rintro v7 u7 l7 rfl;by_cases E:Y*mid<=d
   ·exact G.kT' (sgn (((Y*mid:Nat):Int)-d)) 0 (Ajt oV)<|G.b (L (mid,h) _ _ _ cV ((f.trans V).trans l7) ⟨T.up O E,D⟩ dV)
   exact G.kF' (sgn (((Y*mid:Nat):Int)-d)) 0 (by rw[C5 oV];decide)<|G.s mid 1 (mid-1:Nat)<|G.b (L (lo,mid-1) _ _ _ cV ((f.trans V).trans l7) ⟨T.down O E oV oV,D⟩ dV)
  obtain rfl:lo=d / Y:=oV;refine G.lF (d / Y:Nat) h<|G.a H 0 lx.length lx.length k 1 hk<|G.storeA 1 PH.mt _ H lx.length lx.length k (.int .i64 (d / Y:Nat)) kV D (by rw[Ak,C.len];exact hk) rfl rfl ?_;intro m2 K;rw[Lj]at K;by_cases b6:0<d / Y
  ·refine G.gT (d / Y:Nat) 0<|G.c call180 (Jj (n:=d / Y) (P.mono f) Z oV oV) ?_;intro v6 u6 V I;rw[hY]at I;have F:Y*(d / Y)<=d:=A9r d Y;obtain⟨a6,c6,rfl,a4⟩:=I.opn;refine G.c call181 (Ly ((N.mono f).mono V) I (Ao _) (Ao _) oV (Fi F) (by rw[Am,Am];exact F)) ?_;rintro v7 u7 l7 ⟨l,g1,g2,g3,g4⟩;obtain⟨a7,c7,rfl,ao⟩:=g1.opn;refine G.c call179 (Ec (b:=false) g1 g2 oV) ?_;intro v8 u8 l8 h8;rw[g3,Am,Am,show d - Y*(d / Y)=d % Y by have:=A3h d Y;omega]at h8;obtain⟨b8,a8,n8,c8,rfl,_,_⟩:=h8.opn;refine G.sub (k:Int) 1 ((k:Int)-1) kV rfl oV oV<|G.b (hJ ((k:Int)-1,d % Y,qs.set k (d / Y),.slice a8 n8 c8) _ _ _ cV ((((U.trans f).trans V).trans l7).trans l8) ⟨⟨dV,dV⟩,?_,h8.lim,K⟩ dV);rw[show (((k:Int)-1)+1).toNat=k by omega];exact m
  refine G.gF (d / Y:Nat) 0<|G.sub (k:Int) 1 ((k:Int)-1) kV rfl oV oV ?_;have a9:d % Y=d:=by have:=A3h d Y;rw[show d / Y=0 by omega,A3z]at this;omega
  rw[a9]at m;refine G.b (hJ ((k:Int)-1,d,qs.set k (d / Y),.slice a3 (Aa d).length c3) _ _ _ cV (U.trans f) ⟨⟨dV,dV⟩,?_,N.mono f,K⟩ dV);rw[show (((k:Int)-1)+1).toNat=k by omega];exact m
 obtain rfl:zi = -1:=oV;refine G.hF (-1) 0<|G.give PH.mt (Ai qs) _ kV D (fun _=>.inl rfl) ?_;intro u1 l1 hL;have C:Uv lx Y 0 qs R:=C;have hq:=C.quo;have hr:=C.rest;rw[A5a,A5a]at hq;rw[A5a]at hr;have am:R<Y:=by rw[hr];exact A29 _ O
 have ai:(Aa R).length<=(Aa Y).length:=Fi oV;refine G.neB b b' kV<|G.c call179 (Ec (b:=!(b==b')) hL C.low (by rw[C.len];omega)) ?_;intro v2 u2 l2 h2;rw[hq,ae]at h2;obtain⟨b2,a2,n2,c2,rfl,_,_⟩:=h2.opn;refine G.c call179 (Ec (b:=b) (hR.mono (l1.trans l2)) (Ao R) oV) ?_;intro v3 u3 l3 h3;rw[Am,hr,af]at h3;obtain⟨b3,a3,n3,c3,rfl,_,_⟩:=h3.opn;exact G.r (.tuple #[.agg #[.bool b2,.slice a2 n2 c2],.agg #[.bool b3,.slice a3 n3 c3]]) ⟨rfl,_,_,rfl,h2.mono l3,h3⟩
end
section
variable {k n:Nat}{y z:Int}{ys:List Nat}
section rules
variable {P:Program} [A6 P] {fn:Func} {Post:Ce} {st:List KI×S} {u m:PH}
def Auc {x y z:Int}(j:-9223372036854775807<=x)(f:x<=9223372036854775807)(t:0<y)(g:x.tdiv y=z):-9223372036854775808<=z/\z<=9223372036854775807:=by
 rw[<-g];rcases A5q x 0 with h|h
 ·obtain⟨k,rfl⟩:∃ k:Int,x = -k:=⟨-x,oV⟩;rw[A7k,A32 oV];have d:=A8m (a:=k) (b:=y) oV oV;have e:=A9b (a:=k) y oV;omega
 rw[A32 h];have d:=A8m (a:=x) (b:=y) h oV;have e:=A9b (a:=x) y h;omega
def G.quoT (x y z:Int)(h:Aj P (adv P st)=.bin .quo (.int .i64 x) (.int .i64 y))(j:-9223372036854775807<=x)(d:x<=9223372036854775807)(v:0<y)(f:x.tdiv y=z)
 (k:G P fn Post (nx (adv P st) (.int .i64 z)) u m):G P fn Post st u m:=by
 refine G.bin _ h C0 (fun t w=>?_) k;have e:=Auc j d v f;have g:¬ y=0:=oV
 simp[binOp,Op.intDiv,g,f,Fk e.1 e.2]
def G.remT (x y z:Int)(h:Aj P (adv P st)=.bin .rem (.int .i64 x) (.int .i64 y))(j:0<y)(g:x.tmod y=z)(d:-9223372036854775808<=z)(e:z<=9223372036854775807)
 (k:G P fn Post (nx (adv P st) (.int .i64 z)) u m):G P fn Post st u m:=by
 refine G.bin _ h C0 (fun t w=>?_) k;have f:¬ y=0:=oV
 simp[binOp,Op.intDiv,f,g,Fk d e]
end rules
def Do.nonneg {u:PH}{v:Value}(h:Do u v (k:Int)):∃ a n c,v=.agg #[.bool false,.slice a n c]/\Cy u (.slice a n c) (Aa k):=by
 obtain⟨a,n,c,d,e⟩:=h;rw[decide_eq_false oV]at d;exact⟨a,n,c,d,e⟩
def Abo {u:PH}{x O:Value}(I:Do u x y)(f:Do u O z)(sy:nl y.natAbs<=100000000000)(sz:nl z.natAbs<=100000000000) :
 Fn0 prog 127 [x,O] u fun v e=>Do e v (Nat.gcd y.natAbs z.natAbs:Nat):=by
 obtain⟨b,a,n,c,rfl,hb,hi⟩:=I.opn;obtain⟨b',j,N,t,rfl,X,d⟩:=f.opn;refine Fn0.o func127<|G.l (ι:=(Nat×Nat)×(Option Addr×Nat×Nat)×(Option Addr×Nat×Nat)) (fun _=>[(2,.p 0 0),(3,.p 1 0),(4,.p 2 0)])
  (fun i=>[(0,⟨88,[bV false,sV i.2.1.1 i.2.1.2.1 i.2.1.2.2]⟩),(1,⟨88,[bV false,sV i.2.2.1 i.2.2.2.1 i.2.2.2.2]⟩),(2,⟨88,[bV false,sV none 0 0]⟩)])
  (fun i e L=>(Nat.gcd i.1.1 i.1.2=Nat.gcd y.natAbs z.natAbs/\nl i.1.1<=100000000000/\nl i.1.2<=100000000000)/\Cy e (.slice i.2.1.1 i.2.1.2.1 i.2.1.2.2) (Aa i.1.1)/\Cy e (.slice i.2.2.1 i.2.2.2.1 i.2.2.2.2) (Aa i.1.2)/\L=PH.mt) (fun i=>i.1.2)
  ((y.natAbs,z.natAbs),(a,n,c),(j,N,t)) ⟨⟨rfl,sy,sz⟩,hi,d,rfl⟩ ?_
 clear hi d I f;rintro J ⟨⟨p,q⟩,⟨a,n,c⟩,⟨j,N,t⟩⟩ H e L D ⟨⟨A,E,g⟩,hi,d,rfl⟩;simp only at A E g hi d H;obtain⟨rfl,_⟩:=hi.len;obtain⟨rfl,_⟩:=d.len;have Z:(Aa p).length<=100000000000:=E;have a0:(Aa q).length<=100000000000:=g;by_cases h0:0<(Aa q).length
 ·have C:=Df.1 h0;refine G.gT ((Aa q).length:Int) 0 ?_;have V:Do e (.agg #[.bool false,.slice a (Aa p).length c]) (p:Int):=⟨_,_,_,by rw[decide_eq_false oV],hi⟩;have W:Do e (.agg #[.bool false,.slice j (Aa q).length t]) (q:Int):=⟨_,_,_,by rw[decide_eq_false oV],d⟩;refine G.c call128 (Q5 V W E g oV) ?_;rintro v1 u1 K ⟨va,vb,rfl,T,F⟩;rw[Ri]at F;obtain⟨b1,a1,n1,c1,rfl,_,_⟩:=T.opn;obtain⟨Q,Y,R,rfl,U⟩:=F.nonneg;exact G.b (H ((q,p%q),(j,(Aa q).length,t),(Q,Y,R)) _ _ _ cV (D.trans K) ⟨⟨by dsimp only;rw[A9a q,<-Nat.gcd_rec,A9a];exact A,g,A04 (C4 (A8i (A29 _ C))) g⟩,d.mono K,U,rfl⟩ (A29 _ C))
 have C:q=0:=by
  rcases A2a q with h|h
  ·exact h
  exact absurd (Df.2 h) h0
 subst C;refine G.gF ((Aa 0).length:Int) 0 ?_;rw[A8x]at A;exact G.r (.agg #[.bool false,.slice a (Aa p).length c]) ⟨rfl,by rw[<-A];exact⟨_,_,_,by rw[decide_eq_false oV],hi⟩⟩
structure Acc (n k:Nat)(ys:List Nat):Prop where
 low:Low ys
 sum:n=val ys+1000000000^ys.length*k
 top:ys≠[]->k=0->0<ys.getD (ys.length-1) 0
def Acc.start (n:Nat):Acc n n []:=⟨Low.nil,by simp[val],fun h=>absurd rfl h⟩
def Acc.step (h:Acc n k ys)(d:k≠0):Acc n (k/1000000000) (ys++[k%1000000000]):=by
 refine⟨h.low.append (Low.cons oV Low.nil),?_,fun _ h0=>?_⟩
 ·have:=h.sum;rw[Ki,A1d,A20,A2d,A3p,Is];exact this
 rw[A1d,A20,A5p,A02,A18 (A08 _)];simp;omega
def Ask {l:List Nat}(h:l = []\/0<l.getD (l.length-1) 0):Bz l l.length=l.length:=by
 rcases h with rfl|h
 ·rfl
 cases hl:l.length with
 |zero=>rfl
 |succ n=>rw[hl]at h;simp only[A5p]at h;simp only[Bz];rw[if_neg oV]
def Acc.done (h:Acc n 0 ys):ys=Aa n:=by
 have e:=h.sum;rw[A3z,A3s]at e;rw[e,Ke h.low,Ask,A15];by_cases d:ys = []
 ·exact .inl d
 exact .inr (h.top d rfl)
def Zw (b:Bool)(k:Nat):(Cd b k).tmod 1000000000=Cd b (k%1000000000):=by
 unfold Cd;cases b
 ·exact Ri k 1000000000
 show (-(k:Int)).tmod 1000000000 = -((k%1000000000:Nat):Int);rw[Int.neg_tmod];exact congrArg _ (Ri k 1000000000)
def Aaf (b:Bool)(k:Nat):(Cd b k).tdiv 1000000000=Cd b (k/1000000000):=by
 unfold Cd;cases b
 ·exact Nu k 1000000000
 show (-(k:Int)).tdiv 1000000000 = -((k/1000000000:Nat):Int);rw[A7k];exact congrArg _ (Nu k 1000000000)
def Ac6 {u:PH}{n:Int}(h1:-9223372036854775807<=n)(h2:n<=9223372036854775807) :
 Fn0 prog 71 [.int .i64 n] u fun v E=>Do E v n:=by
 refine Fn0.o func71 ?_;have key:∀ b:Bool,b=decide (n<0)->G prog Tryz.f71 ⟨fun v E H=>H=PH.mt/\Do E v n,PH.mt⟩ (nx (adv prog (st0 Tryz.f71 [.int .i64 n])) (.bool b)) u PH.mt:=by
  intro b W;have Y:=Uc n;rw[<-W]at Y;refine G.loop (ι:=Nat×List Nat×(Option Addr×Nat×Nat)) (fun i=>[(2,.p 0 0),(3,.p 1003 0),(0,iV (Cd b i.1))])
   (fun i=>[(0,⟨88,[bV false,sV none 0 0]⟩),(1003,⟨88,[bV b,sV i.2.2.1 i.2.2.2.1 i.2.2.2.2]⟩)])
   (fun i E H=>(i.1<=9223372036854775807/\(i.1≠0->i.2.1.length<=3)/\i.2.1.length<=4/\i.1*1000000000^i.2.1.length<=9223372036854775807)/\Acc n.natAbs i.1 i.2.1/\Af PH.mt H (.slice i.2.2.1 i.2.2.2.1 i.2.2.2.2) 3 1 (Ai i.2.1)) (fun i=>i.1) (n.natAbs,[],(none,0,0)) kV (fun _=>kV) ⟨kV,by rw[Y];kernel_rfl,kV⟩ ⟨⟨dV,mV,mV,gV⟩,Acc.start _,Af.nil _ _ _⟩ ?_
  rintro J ⟨k,ys,⟨a,I,c⟩⟩ O E H D ⟨⟨hk,A,T,C⟩,j,t⟩;simp only at hk A T C j t O;have U:=t.len;rw[Ak]at U;have a1:-9223372036854775807<=Cd b k/\Cd b k<=9223372036854775807:=by unfold Cd;split<;>omega
  by_cases h0:k=0
  ·subst h0;refine G.nF' (Cd b 0) 0 (by unfold Cd;split<;>simp) ?_
   refine G.give PH.mt (Ai ys) _ kV t (fun _=>.inl rfl) ?_;intro Z F hL;refine G.r (.agg #[.bool b,.slice a I c]) ⟨rfl,a,I,c,by rw[W],?_⟩;rw[<-j.done];exact hL
  have X:=A h0;refine G.nT' (Cd b k) 0 (by unfold Cd;split<;>omega) ?_
  have f:(k/1000000000<=9223372036854775807/\(k/1000000000≠0->(ys++[k%1000000000]).length<=3)/\(ys++[k%1000000000]).length<=4/\k/1000000000*1000000000^(ys++[k%1000000000]).length<=9223372036854775807):=by
   have V:k/1000000000*1000000000^(ys.length+1)<=9223372036854775807:=by
    rw[A2d,A19 (1000000000^ys.length),<-A17];exact A04 (A13 _ (A69 _ _)) C
   refine⟨oV,fun a0=>?_,gV,by simpa using V⟩;rcases A2e ys.length 3 with h|h
   ·simp;omega
   exfalso;have:ys.length=3:=oV;rw[this]at V;have h1:1*1000000000^(3+1)<=k/1000000000*1000000000^(3+1):=A13 _ oV;have h2:(9223372036854775807:Nat)<1*1000000000^(3+1):=fV;omega
  by_cases Q:b=true/\k%1000000000≠0
  ·obtain⟨R,hm⟩:=Q;refine G.remT (Cd b k) 1000000000 (-((k%1000000000:Nat):Int)) kV oV (by rw[Zw,R];rfl) oV oV<|G.lT (-((k%1000000000:Nat):Int)) 0<|G.neg (-((k%1000000000:Nat):Int)) ((k%1000000000:Nat):Int) kV oV oV oV<|G.B 3 1 8 (.int .i64 0) [.int .i64 (k%1000000000:Nat)] (Av [k%1000000000]) ?_;intro g Z F N;refine G.append 3 1 8 (.int .i64 0) PH.mt (Ai ys) [.int .i64 (k%1000000000:Nat)] (.slice a I c) g 0 1 1 kV rfl rfl oV t N (Av [k%1000000000]) rfl oV (by rw[Ak];omega) (by rw[Ak];omega) ?_;intro v2 m2 d;rw[Di]at d;obtain⟨K,L,rfl⟩:=d.shape;exact G.quoT (Cd b k) 1000000000 (Cd b (k/1000000000)) kV oV oV oV (Aaf b k)<|G.b (O (k/1000000000,ys++[k%1000000000],(K,(Ai (ys++[k%1000000000])).length,L)) _ _ _ cV (D.trans F) ⟨f,j.step h0,d⟩ dV)
  refine G.remT (Cd b k) 1000000000 ((k%1000000000:Nat):Int) kV oV (by rw[Zw];unfold Cd;split<;>simp_all) oV oV ?_
  refine G.lF (k%1000000000:Nat) 0<|G.B 3 1 8 (.int .i64 0) [.int .i64 (k%1000000000:Nat)] (Av [k%1000000000]) ?_;intro g Z F N;refine G.append 3 1 8 (.int .i64 0) PH.mt (Ai ys) [.int .i64 (k%1000000000:Nat)] (.slice a I c) g 0 1 1 kV rfl rfl oV t N (Av [k%1000000000]) rfl oV (by rw[Ak];omega) (by rw[Ak];omega) ?_;intro v2 m2 d;rw[Di]at d;obtain⟨K,L,rfl⟩:=d.shape;exact G.quoT (Cd b k) 1000000000 (Cd b (k/1000000000)) kV oV oV oV (Aaf b k)<|G.b (O (k/1000000000,ys++[k%1000000000],(K,(Ai (ys++[k%1000000000])).length,L)) _ _ _ cV (D.trans F) ⟨f,j.step h0,d⟩ dV)
 by_cases e:n<0
 ·exact G.lssT n 0 kV e (key true (by simpa using e))
 exact G.lssF n 0 kV e (key false (by simpa using e))
end
section
variable {q r:Rat}{u:PH}{x x':Value}{y z:Int}
def QP (u:PH)(v:Value)(q:Rat):Prop :=
 ∃ a n c a' n' c',v=.agg #[.bool (decide (q.num<0)),.slice a n c,.bool false,.slice a' n' c']/\Cy u (.slice a n c) (Aa q.num.natAbs)/\Cy u (.slice a' n' c') (Aa q.den)
def QP.mono {u e:PH}{v:Value}{q:Rat}(h:QP u v q)(d:PH.le u e):QP e v q:=by
 obtain⟨a,n,c,f,A,g,j,m,t⟩:=h;exact⟨a,n,c,f,A,g,j,m.mono d,t.mono d⟩
def QP.opn {v:Value}(h:QP u v q):∃ b a n c d f e,v=.agg #[.bool b,.slice a n c,.bool false,.slice d f e]/\b=decide (q.num<0)/\Do u (.agg #[.bool b,.slice a n c]) q.num/\Do u (.agg #[.bool false,.slice d f e]) (q.den:Int):=by
 obtain⟨a,n,c,d,f,e,rfl,g,j⟩:=h;exact⟨_,a,n,c,d,f,e,rfl,rfl,⟨a,n,c,rfl,g⟩,⟨d,f,e,by rw[decide_eq_false oV],j⟩⟩
def QP.mk {b b':Bool}{a d:Option Addr}{n c f e:Nat}(j:Do u (.agg #[.bool b,.slice a n c]) y)(m:Do u (.agg #[.bool b',.slice d f e]) z)(t:q.num=y)(v:(q.den:Int)=z) :
 QP u (.agg #[.bool b,.slice a n c,.bool b',.slice d f e]) q:=by
 obtain⟨_,_,_,g,A⟩:=j;obtain⟨_,_,_,h,C⟩:=m;subst t v;obtain⟨rfl,rfl,rfl,rfl⟩:=g;obtain⟨rfl,rfl,rfl,rfl⟩:=h;exact⟨_,_,_,_,_,_,rfl,A,C⟩
def Ai3 (y:Int)(z:Nat):y.tdiv (Nat.gcd y.natAbs z:Nat)=y/(Nat.gcd y.natAbs z:Nat):=by
 apply Int.tdiv_eq_ediv_of_dvd;exact Int.ofNat_dvd_left.2 (Nat.gcd_dvd_left _ _)
theorem O7 (e:0<z):(Rat.divInt y z).num=y.tdiv (Nat.gcd y.natAbs z.natAbs:Nat)/\((Rat.divInt y z).den:Int)=z.tdiv (Nat.gcd y.natAbs z.natAbs:Nat)/\0<z.tdiv (Nat.gcd y.natAbs z.natAbs:Nat):=by
 have h:=W5 (y:=y) e rfl;have d:((Rat.divInt y z).den:Int)=z.tdiv (Nat.gcd y.natAbs z.natAbs:Nat):=by grind
 refine⟨by rw[h.1,Ai3],d,?_⟩;rw[<-d];have:=(Rat.divInt y z).den_pos;omega
def Ave (d:z<0):(Rat.divInt y z).num = -(y.tdiv (Nat.gcd y.natAbs z.natAbs:Nat))/\((Rat.divInt y z).den:Int) = -(z.tdiv (Nat.gcd y.natAbs z.natAbs:Nat))/\z.tdiv (Nat.gcd y.natAbs z.natAbs:Nat)<0:=by
 have h:=O7 (y:=-y) (z:=-z) oV;rw[Oz,A3l,A3l,A7k,A7k]at h;exact⟨h.1,h.2.1,oV⟩
def V2 {g k:Nat}(h:nl y.natAbs<=k):nl (y.tdiv g).natAbs<=k:=by
 refine A04 (C4 ?_) h;rw[A8o];exact A3u _ _
def P6 (A:-9223372036854775807<=z)(C:z<=9223372036854775807):Fn0 prog 120 [.int .i64 z] u fun v F=>QP F v (z:Rat):=by
 refine Fn0.o func120<|G.c call71 (Ac6 A C) ?_;intro K I H d;obtain⟨h,f,D,m,rfl,_,_⟩:=d.opn;refine G.c call71 (Ac6 (n:=1) oV oV) ?_;intro L J l2 e;obtain⟨j,g,E,t,rfl,_,_⟩:=e.opn;exact G.r (.agg #[.bool h,.slice f D m,.bool j,.slice g E t]) ⟨rfl,QP.mk (d.mono l2) e rfl rfl⟩
def V8 (t:Do u x y)(e:Do u x' z)(F:nl y.natAbs<=100000000000)(sz:nl z.natAbs<=100000000000)(hz:z≠0) :
 Fn0 prog 70 [x,x'] u fun v u'=>QP u' v (Rat.divInt y z):=by
 obtain⟨b,a,n,c,rfl,_,_⟩:=t.opn;obtain⟨b',a',n',c',rfl,_,m⟩:=e.opn;obtain⟨rfl,_⟩:=m.len;have a0:0<(Aa z.natAbs).length:=Df.2 oV;have Y:0<Nat.gcd y.natAbs z.natAbs:=A7j _ oV;have f:nl (Nat.gcd y.natAbs z.natAbs)<=100000000000:=A04 (C4 (Bbd _ oV)) sz;refine Fn0.o func70<|G.eF ((Aa z.natAbs).length:Int) 0<|G.c call127 (Abo t e F sz) ?_;intro v1 u1 K A;obtain⟨b1,a1,n1,c1,rfl,_,_⟩:=A.opn;refine G.c call128 (Q5 (t.mono K) A F (by simpa using f) oV) ?_;rintro v2 u2 l2 ⟨va,vb,rfl,g,C⟩;obtain⟨Q,L,n2,U,rfl,_,_⟩:=g.opn;obtain⟨b3,a3,n3,c3,rfl,_,_⟩:=C.opn;refine G.c call128 (Q5 (e.mono (K.trans l2)) (A.mono l2) sz (by simpa using f) oV) ?_;rintro v4 u4 l4 ⟨va,vb,rfl,D,E⟩;obtain⟨b4,N,n4,V,rfl,d,_⟩:=D.opn;obtain⟨b5,a5,n5,c5,rfl,_,_⟩:=E.opn;have g:=g.mono l4;rcases Bac hz with Z|hp
 ·obtain⟨h,j,H⟩:=Ave (y:=y) Z;rw[decide_eq_true H]at d;subst d;refine G.c call129 (Ts g (A04 (V2 F) oV)) ?_;intro v6 u6 l6 I;obtain⟨R,O,n6,W,rfl,_,_⟩:=I.opn;refine G.c call129 (Ts (D.mono l6) (A04 (V2 sz) oV)) ?_;intro v7 u7 l7 J;obtain⟨T,P,n7,X,rfl,_,_⟩:=J.opn;exact G.r (.agg #[.bool R,.slice O n6 W,.bool T,.slice P n7 X]) ⟨rfl,QP.mk (I.mono l7) J h j⟩
 obtain⟨h,j,H⟩:=O7 (y:=y) hp;rw[decide_eq_false oV]at d;subst d;exact G.r (.agg #[.bool Q,.slice L n2 U,.bool false,.slice N n4 V]) ⟨rfl,QP.mk g D h j⟩
def Nt (h:QP u x q)(A:nl q.num.natAbs<=100000000000):Fn0 prog 67 [x] u fun v D=>v=.bool (decide (q.num=0)):=by
 obtain⟨b,a,n,c,f,C,g,rfl,t,e,j⟩:=h.opn;obtain⟨_,_,_,d,hi⟩:=e;obtain⟨_,rfl,rfl,rfl⟩:=d;obtain⟨rfl,_⟩:=hi.len;have hp:=Df (n:=q.num.natAbs);refine Fn0.o func67 ?_;by_cases h0:q.num=0
 ·exact G.eT' ((Aa q.num.natAbs).length:Int) 0 (by rw[h0];simp[A7])<|G.r (.bool true) ⟨rfl,by simp[h0]⟩
 have m:0<(Aa q.num.natAbs).length:=hp.2 oV;exact G.eF ((Aa q.num.natAbs).length:Int) 0<|G.r (.bool false) ⟨rfl,by simp[h0]⟩
def Gh (L:QP u x q)(m:QP u x' r)(d:Sz q 10000000000)(e:Sz r 10000000000) :
 Fn0 prog 121 [x,x'] u fun v T=>QP T v (q*r):=by
 obtain⟨b,a,n,c,U,n',X,rfl,_,K,J⟩:=L.opn;obtain⟨W,V,n2,Y,D,Q,H,rfl,_,j,h⟩:=m.opn;refine Fn0.o func121<|G.c call176 (Gg K j (A04 d.1 oV) (A04 e.1 oV)) ?_;intro v3 u3 C N;refine G.c call176 (Gg (J.mono C) (h.mono C) (A04 d.2 oV) (A04 e.2 oV)) ?_;intro v4 u4 P O;refine G.c call70 (V8 (N.mono P) O (A04 (Bx d.1 e.1) oV) (A04 (Bx (k:=10000000000) (by simpa using d.2) (by simpa using e.2)) oV) (Yl q r)) ?_;intro v5 u5 Z t;rw[Ac8]at t;obtain⟨F,E,R,I,f,A,g,rfl,_⟩:=t.opn;exact G.r (.agg #[.bool F,.slice E R I,.bool false,.slice f A g]) ⟨rfl,t⟩
def Pd (Q:QP u x q)(C:QP u x' r)(h:Sz q 10000000000)(j:Sz r 10000000000) :
 Fn0 prog 124 [x,x'] u fun v Z=>QP Z v (q+r):=by
 obtain⟨b,a,n,c,a',n',c',rfl,_,P,H⟩:=Q.opn;obtain⟨b2,a2,n2,c2,J,X,N,rfl,_,A,f⟩:=C.opn;have d:nl ((q.den:Int)).natAbs<=10000000000:=by simpa using h.2
 have e:nl ((r.den:Int)).natAbs<=10000000000:=by simpa using j.2
 refine Fn0.o func124<|G.c call176 (Gg P f (A04 h.1 oV) (A04 e oV)) ?_;intro v3 u3 g R;refine G.c call176 (Gg (A.mono g) (H.mono g) (A04 j.1 oV) (A04 d oV)) ?_;intro v4 u4 E T;refine G.c call177 (Al8 (R.mono E) T (A04 (Bx h.1 e) oV) (A04 (Bx j.1 d) oV)) ?_;intro v6 u6 I U;refine G.c call176 (Gg (H.mono ((g.trans E).trans I)) (f.mono ((g.trans E).trans I)) (A04 d oV) (A04 e oV)) ?_;intro v7 u7 W V;refine G.c call70 (V8 (U.mono W) V (A04 (Sb (Bx h.1 e) (Bx j.1 d)) oV) (A04 (Bx d e) oV) (Yl q r)) ?_;intro v5 u5 l5 D;rw[Rq]at D;obtain⟨L,K,Y,O,m,F,t,rfl,_⟩:=D.opn;exact G.r (.agg #[.bool L,.slice K Y O,.bool false,.slice m F t]) ⟨rfl,D⟩
end
section
open Go.Lib
variable {j k n:Nat}
def ld (n k:Nat):List UInt8:=(List.range k).map (dg n)
def V5 (n k:Nat):ld n (k+1)=ld n k++[dg n k]:=by simp[ld,A5d]
def Dg (n k:Nat):(ld n k).length=k:=by simp[ld]
def Ab8 (h:j<k):(ld n k)[j]?=some (dg n j):=by simp[ld,h]
def Au2 (h:j<=k):(ld n k).take j=ld n j:=by
 apply A4g;intro i;rw[A3y];split
 ·rw[Ab8 oV,Ab8 oV]
 rw[A1v (by rw[Dg];omega)]
def Ac2 (n:Nat):(ld n (nDigits n)).reverse=decDigits n:=by
 rw[decDigits_eq];apply A4g;intro i;by_cases h:i<nDigits n
 ·rw[A9s (by rw[Dg];exact h),Dg,Ab8 oV];simp[h]
 rw[A1v (by simp[Dg];omega),A1v gV]
def Qw (n i:Nat):(Aa n).getD i 0=n/1000000000^i%1000000000:=by
 induction i generalizing n with
 |zero =>
  by_cases h:n=0
  ·subst h;simp[A7]
  rw[Dz h];simp
 |succ i ih =>
  by_cases h:n=0
  ·subst h;simp[A7]
  rw[Dz h,A6b,ih,A2d,A19,A45]
def Ajo (i:Nat):(1000000000:Nat)^i=10^(9*i):=by rw[Nat.pow_mul]
def As7 (n i t:Nat)(d:t<9):dg n (9*i+t)=UInt8.ofNat (48+(Aa n).getD i 0/10^t%10):=by
 rw[Qw,Ajo];have e:(1000000000:Nat)=10^t*10^(9-t):=by rw[<-A4k,show t+(9-t)=9 by omega]
 rw[e,Nat.mod_mul_right_div_self,Nat.mod_mod_of_dvd _ (by rw[show 9-t=(8-t)+1 by omega,A2d];exact Nat.dvd_mul_left _ _),A45,<-A4k];rfl
def R6 (h:k<256):(UInt8.ofNat k).toNat=k:=gV
def Rn (n j:Nat):(dg n j).toNat=48+n/10^j%10:=by
 unfold dg;have:n/10^j%10<10:=A29 _ oV;exact R6 oV
def Ae3 (h:n<10^(k+1)):n/10^k%10=0↔n<10^k:=by
 have hp:0<10^k:=A66 oV;have d:n/10^k<10:=by rw[A3b hp,A19,<-A2d];exact h
 rw[A5i d,Nat.div_eq_zero_iff];constructor
 ·rintro (h|h)
  ·omega
  exact h
 exact .inr
def Rv (n:Nat):n<10^(9*(Aa n).length):=by rw[<-Ajo];exact Dd n
def Pz (h:10^j<=n):nDigits n=j+nDigits (n/10^j):=by
 induction j generalizing n with
 |zero=>simp
 |succ j ih =>
  have hp:0<10^j:=A66 oV;rw[A2d]at h;rw[nDigits_big oV,ih (n:=n/10) (by rw[A4u oV];exact h),A2d,A19 (10^j),<-A45];omega
def U4 (h:n≠0):nDigits n=9*((Aa n).length-1)+nDigits ((Aa n).getD ((Aa n).length-1) 0):=by
 have f:=Rw h;rw[Ajo]at f;rw[Qw,Pz f,Ajo,A5i];rfl;rw[A3b (A66 oV)];have d:=Dd n;have g:0<nl n:=by
  rcases A2a (nl n) with h0|h0
  ·rw[h0]at d;simp at d;omega
  exact h0
 have e:(1000000000:Nat)*10^(9*((Aa n).length-1))=1000000000^nl n:=by
  rw[<-Ajo,A19,<-A2d];congr 1;show nl n-1+1=nl n;omega
 rw[e];exact d
def Il (l:List UInt8):Prop:=∀ b∈l,48<=b.toNat/\b.toNat<=57
def rdA (a:Nat)(l:List UInt8):Nat:=l.foldl (fun a b=>10*a+(b.toNat-48)) a
def rd (l:List UInt8):Nat:=rdA 0 l
def Ajk (a:Nat)(l d:List UInt8):rdA a (l++d)=rdA (rdA a l) d:=by simp[rdA]
def Ajz (a:Nat)(l:List UInt8):rdA a l=a*10^l.length+rd l:=by
 induction l generalizing a with
 |nil=>simp[rdA,rd]
 |cons b l ih =>
  have d:rdA a (b::l)=rdA (10*a+(b.toNat-48)) l:=rfl;have e:rd (b::l)=rdA (10*0+(b.toNat-48)) l:=rfl;rw[d,e,ih,ih (10*0+(b.toNat-48)),A3f,A2d,A3z,A2w,<-A3p]
  congr 1
  rw[A16];congr 1;rw[A19 10 a,A17,A19 10]
def Zv (l d:List UInt8):rd (l++d)=rd l*10^d.length+rd d:=by rw[rd,Ajk,Ajz];rfl
def Aat {l:List UInt8}(h:Il l):rd l<10^l.length:=by
 induction l with
 |nil=>simp[rd,rdA]
 |cons b l ih =>
  have d:rd (b::l)=rdA (10*0+(b.toNat-48)) l:=rfl;have g:=h b mV;have:=ih fun x e=>h x (by simp[e]);rw[d,Ajz,A3f,A2d];have f:(10*0+(b.toNat-48))*10^l.length<=9*10^l.length:=A13 _ oV;omega
def O8 (n:Nat):Il (decDigits n):=by
 rw[decDigits_eq];intro b d;simp only[A1b]at d;obtain⟨t,_,rfl⟩:=d;rw[Rn];have:=A29 (n/10^(nDigits n-1-t)) (show 0<10 by omega);omega
def Aiu (n:Nat):rd (decDigits n)=n:=by
 induction n using Nat.strongRecOn with
 |ind n ih =>
  rw[decDigits];by_cases h:n<10
  ·rw[dif_pos h];have:(UInt8.ofNat (48+n)).toNat=48+n:=R6 oV;show 10*0+((UInt8.ofNat (48+n)).toNat-48)=n;omega
  rw[dif_neg h,Zv,ih _ oV];have:(UInt8.ofNat (48+n%10)).toNat=48+n%10:=R6 oV;show n/10*10^1+(10*0+((UInt8.ofNat (48+n%10)).toNat-48))=n;omega
def Gk (n:Nat):decDigits n≠[]:=by
 intro h;have:=decDigits_length n;rw[h]at this;have:=nDigits_pos n;simp at *;omega
def Afj (n:Nat):(decDigits n)[0]?=some (dg n (nDigits n-1)):=by
 rw[decDigits_eq];have h:0<nDigits n:=nDigits_pos n;simp[h]
def Hd (h:n≠0):10^(nDigits n-1)<=n:=by
 induction n using Nat.strongRecOn with
 |ind n ih =>
  by_cases d:n<10
  ·rw[nDigits_small d];simp;omega
  rw[nDigits_big d];have e:=ih (n/10) oV oV;have f:=nDigits_pos (n/10);rw[show nDigits (n/10)+1-1=(nDigits (n/10)-1)+1 by omega,A2d];omega
def Aof (h:n≠0):49<=(dg n (nDigits n-1)).toNat:=by
 rw[Rn];have e:=nDigits_pos n;have d:=lt_pow_nDigits n;rw[show nDigits n=(nDigits n-1)+1 by omega]at d;have f:¬ _:=fun h0=>absurd ((Ae3 d).1 h0) (by have:=Hd h;omega);omega
end
section
variable {R l:List UInt8}{i:Nat}{u:PH}{x:Value}{z:Int}
def Q0 (h:Do u x z)(g:nl z.natAbs<=100000000000):Fn0 prog 178 [x] u fun v _=>v=.int .i64 (Lib.nDigits z.natAbs:Nat):=by
 obtain⟨b,a,n,c,rfl,T,hi⟩:=h.opn;obtain⟨rfl,_⟩:=hi.len;have L:(Aa z.natAbs).length<=100000000000:=g;refine Fn0.o func178 ?_;by_cases h0:z.natAbs=0
 ·exact G.eT' ((Aa z.natAbs).length:Int) 0 (by rw[h0,A7];rfl)<|G.r (.int .i64 1) ⟨rfl,by rw[h0,Lib.nDigits_small oV];rfl⟩
 have hp:0<(Aa z.natAbs).length:=Df.2 oV;have F:=U4 h0;have C:=Pn h0;have d:=(Ao z.natAbs).getD ((Aa z.natAbs).length-1);generalize Aa z.natAbs=l at *
 generalize Q:Lib.nDigits z.natAbs=N at *
 have f:∀ k,k<1000000000->Lib.nDigits k<=9:=by
  intro k t;rcases A2a k with h|h
  ·subst h;rw[Lib.nDigits_small oV];omega
  have e:=Hd (n:=k) oV;have E:10^(Lib.nDigits k-1)<10^9:=A22 e oV;have O:=(A7l (by omega:1<10)).1 E;omega
 refine G.eF l.length 0<|G.s l.length 1 (l.length-1:Nat)<|G.mul 9 ((l.length-1:Nat):Int) ((9*(l.length-1):Nat):Int) kV oV oV oV<|G.s l.length 1 (l.length-1:Nat) ?_;obtain⟨D,off,rfl,K⟩:=hi.at (j:=l.length-1) oV;refine G.a D off l.length c (l.length-1) 1 oV<|G.lU none D (off+(l.length-1)*1) (.int .i64 (l.getD (l.length-1) 0:Nat)) K ?_;have P:=f _ d;refine G.l (ι:=Nat×Nat) (fun i=>[(3,iV i.1),(4,iV i.2)]) (fun _=>[])
  (fun i _ H=>(i.1+(if i.2=0 then 0 else Lib.nDigits i.2)=N/\i.2<1000000000)/\H=PH.mt) (fun i=>i.2) (9*(l.length-1),l.getD (l.length-1) 0) ⟨⟨by dsimp only;rw[if_neg C];omega,d⟩,rfl⟩ ?_
 rintro J ⟨m,k⟩ I U H A ⟨⟨e,E⟩,rfl⟩;by_cases t:k=0
 ·subst t;exact G.gF (0:Nat) 0<|G.r (.int .i64 m) ⟨rfl,by simp at e;rw[e]⟩
 rw[if_neg t]at e;refine G.gT k 0<|G.i m<|G.quo (k:Int) 10 ((k/10:Nat):Int) kV oV oV oV oV<|G.b (I (m+1,k/10) _ _ _ cV A ⟨⟨?_,dV⟩,rfl⟩ dV);dsimp only;by_cases g:k<10
 ·rw[Lib.nDigits_small g]at e;rw[if_pos oV];omega
 rw[Lib.nDigits_big g]at e;rw[if_neg oV];omega
structure Of (R l:List UInt8)(i:Nat):Prop where
 len:l.length=R.length
 at_:∀ k,k<R.length->l[k]?=if k<i\/R.length-i<=k then R[R.length-1-k]? else R[k]?
def Of.start (R:List UInt8):Of R R 0:=⟨rfl,fun k d=>by rw[if_neg oV]⟩
theorem Of.step (h:Of R l i)(hi:i<R.length-1-i):Of R ((l.set i (l.getD (R.length-1-i) 0)).set (R.length-1-i) (l.getD i 0)) (i+1):=by
 have e:=h.len;have f:l.getD (R.length-1-i) 0=R.getD (R.length-1-i) 0:=by
  rw[A02,h.at_ _ oV,if_neg oV,A02]
 have g:l.getD i 0=R.getD i 0:=by
  rw[A02,h.at_ _ oV,if_neg oV,A02]
 refine⟨by simp[e],fun k d=>?_⟩;rw[A1z];split
 ·grind
 rw[A1z];split
 ·grind
 rw[h.at_ k d];by_cases j:k<i\/R.length-i<=k
 ·grind
 grind
theorem Of.done (h:Of R l i)(hi:¬ i<R.length-1-i):l=R.reverse:=by
 apply A4g;intro k;by_cases d:k<R.length
 ·rw[h.at_ k d,A9s d];split
  ·rfl
  grind
 rw[A1v (by rw[h.len];omega),A1v gV]
def Ht {j:Nat}(h:j<l.length):(Fn l)[j]?=some (.int .u8 ((l.getD j 0).toNat:Int)):=by
 rw[Fn,A1a,A01 h,A02,A01 h];rfl
def Mw (l:List UInt8)(j:Nat)(b:UInt8):(Fn l).set j (.int .u8 (b.toNat:Int))=Fn (l.set j b):=by simp[Fn,A2g]
def N2 (h:z<0):Lib.itoa z=45::Lib.decDigits z.natAbs:=by rw[Lib.itoa,if_pos h]
def Em (h:¬ z<0):Lib.itoa z=Lib.decDigits z.natAbs:=by rw[Lib.itoa,if_neg h];congr 1;omega
def Ago (h:Do u x z)(hs:nl z.natAbs<=100000000000):Fn0 prog 174 [x] u fun v _=>v=.string (mkS (Lib.itoa z)):=by
 obtain⟨b,a,n,c,rfl,hb,hi⟩:=h.opn;obtain⟨rfl,_⟩:=hi.len;have ap:(Aa z.natAbs).length<=100000000000:=hs;refine Fn0.o func174 ?_;by_cases h0:z.natAbs=0
 ·exact G.eT' ((Aa z.natAbs).length:Int) 0 (by rw[h0,A7];rfl)<|G.r (.string (mkS [48])) ⟨rfl,by rw[Em oV,h0,Lib.decDigits_one oV];rfl⟩
 have hp:0<(Aa z.natAbs).length:=Df.2 oV;refine G.eF ((Aa z.natAbs).length:Int) 0 ?_;have aa:=Rv z.natAbs;generalize hN:z.natAbs=N at *
 generalize hL:Aa N=l at *
 refine G.l (ι:=Nat×(Option Addr×Nat×Nat)) (fun i=>[(1,.p 0 0),(3,sV i.2.1 i.2.2.1 i.2.2.2),(4,iV i.1)]) (fun _=>[(0,⟨88,[bV b,sV a l.length c]⟩)])
  (fun i _ U=>i.1<=l.length/\Af PH.mt U (.slice i.2.1 i.2.2.1 i.2.2.2) 5 1 (Fn (ld N (9*i.1)))) (fun i=>l.length-i.1) (0,(none,0,0)) ⟨mV,Af.nil _ _ _⟩ ?_
 rintro J ⟨i,a1,n1,A⟩ hJ u1 m1 a6 ⟨ad,d⟩;simp only at ad d hJ;by_cases ao:i<l.length
 ·refine G.lT i l.length ?_;obtain⟨bb,off,rfl,he⟩:=(hi.mono a6).at (j:=i) oV;refine G.a bb off l.length c i 1 oV<|G.lU none bb (off+i*1) (.int .i64 (l.getD i 0:Nat)) he ?_;have a8:l.getD i 0<1000000000:=by rw[<-hL];exact (Ao N).getD i
  refine G.loop (ι:=Nat×(Option Addr×Nat×Nat)) (fun q=>[(1,.p 0 0),(3,sV q.2.1 q.2.2.1 q.2.2.2),(4,iV i),(5,iV (l.getD i 0/10^q.1:Nat)),(6,iV q.1)]) (fun _=>[(0,⟨88,[bV b,sV (some ⟨bb,off,none⟩) l.length c]⟩)])
   (fun q _ U=>q.1<=9/\Af PH.mt U (.slice q.2.1 q.2.2.1 q.2.2.2) 5 1 (Fn (ld N (9*i+q.1)))) (fun q=>9-q.1) (0,(a1,n1,A)) kV (fun _=>kV) ⟨kV,by rw[A8j,Ba5];kernel_rfl,kV⟩ ⟨mV,d⟩ ?_
  clear d;rintro J2 ⟨t,a2,n2,c2⟩ a3 u2 m2 V ⟨ht,d⟩;simp only at ht d a3;have af:=d.len;rw[Au,Dg]at af;by_cases ak:t<9
  ·refine G.lT t 9 ?_;have ac:l.getD i 0/10^t<1000000000:=A22 (A3u _ _) a8;have ab:(Lib.dg N (9*i+t)).toNat=48+l.getD i 0/10^t%10:=by
    rw[As7 N i t ak,hL];exact R6 oV
   generalize hD:l.getD i 0/10^t=D at ac ab⊢;refine G.rem ((D:Nat):Int) 10 ((D%10:Nat):Int) kV oV oV oV oV<|G.p 48 (D%10:Nat) ((Lib.dg N (9*i+t)).toNat:Int)<|G.convI .i64 .u8 .i64 ((Lib.dg N (9*i+t)).toNat:Int) ((Lib.dg N (9*i+t)).toNat:Int) kV (Aj9 oV oV)<|G.B 5 1 1 (.int .u8 0) [.int .u8 ((Lib.dg N (9*i+t)).toNat:Int)] (Mj [Lib.dg N (9*i+t)]) ?_;intro g u3 l3 e3;refine G.append 5 1 1 (.int .u8 0) PH.mt (Fn (ld N (9*i+t))) [.int .u8 ((Lib.dg N (9*i+t)).toNat:Int)] (.slice a2 n2 c2) g 0 1 1 kV rfl rfl oV d e3 (Mj [Lib.dg N (9*i+t)]) rfl oV (by rw[Au,Dg];omega) (by rw[Au,Dg];omega) ?_;intro v4 m4 W;rw[show Fn (ld N (9*i+t))++[.int .u8 ((Lib.dg N (9*i+t)).toNat:Int)]=Fn (ld N (9*i+(t+1))) by rw[show 9*i+(t+1)=9*i+t+1 by omega,V5,P0];rfl]at W;obtain⟨a4,c4,rfl⟩:=W.shape;exact G.quo ((D:Nat):Int) 10 ((l.getD i 0/10^(t+1):Nat):Int) kV oV oV oV (by rw[A2d,<-A45,hD];omega)<|G.i t<|G.b (a3 (t+1,(a4,(Fn (ld N (9*i+(t+1)))).length,c4)) _ _ _ cV (V.trans l3) ⟨dV,W⟩ dV)
  have:t=9:=oV;subst this;exact G.lF (9:Nat) 9<|G.i i<|G.b (hJ (i+1,(a2,n2,c2)) _ _ _ cV (a6.trans V) ⟨dV,d⟩ dV)
 have:i=l.length:=oV;subst this;refine G.lF l.length l.length ?_;obtain⟨m,co,e⟩:=d.ptr (by intro e;have:=congrArg List.length e;rw[Au,Dg,A30]at this;omega);rw[Au,Dg]at e;simp only[Value.slice.injEq]at e;obtain⟨rfl,rfl,rfl⟩:=e;refine G.loop (ι:=Nat) (fun k=>[(1,.p 0 0),(3,sV (some ⟨m,0,none⟩) (k+1) A)]) (fun _=>[(0,⟨88,[bV b,sV a l.length c]⟩)])
  (fun k _ U=>(N<10^(k+1)/\k+1<=9*l.length)/\Af PH.mt U (.slice (some ⟨m,0,none⟩) (k+1) A) 5 1 (Fn (ld N (k+1)))) (fun k=>k) (9*l.length-1) kV (fun _=>kV) ⟨kV,by rw[show 9*l.length-1+1=9*l.length by omega];kernel_rfl,kV⟩ (by rw[show 9*l.length-1+1=9*l.length by omega];exact⟨⟨aa,A08 _⟩,d⟩) ?_
 clear d hJ;rintro J3 k a5 u3 m3 a7 ⟨⟨hk,an⟩,d⟩;refine G.s (k+1:Nat) 1 k<|G.a m 0 (k+1) A k 1 oV<|G.lM none m (0+k*1) (.int .u8 ((Lib.dg N k).toNat:Int)) (d.el (by rw[Fn,A1a,Ab8 oV];rfl)) ?_;have a9:=Ae3 hk;have am:=Rn N k;by_cases hz:N<10^k
 ·refine G.cmpG .eql .u8 ((Lib.dg N k).toNat:Int) 48 true kV rfl (by simp only[Db,decide_eq_true_eq];have:=a9.2 hz;omega)<|G.s (k+1:Nat) 1 k ?_;have al:k+1<=A:=d.cap;refine G.sliceTo 1 (some ⟨m,0,none⟩) (k+1) A k kV oV ?_;have a0:=d.take (k:=k) (by rw[Au,Dg];omega);rw[show (Fn (ld N (k+1))).take k=Fn (ld N k) by rw[Fn,<-A5g,Au2 oV];rfl]at a0;rcases k with _|k
  ·simp at hz;omega
  exact G.b (a5 k _ _ _ cV a7 ⟨⟨hz,oV⟩,a0⟩ oV)
 refine G.cmpG .eql .u8 ((Lib.dg N k).toNat:Int) 48 false kV rfl (by simp only[Db,decide_eq_false_iff_not];intro h;exact hz (a9.1 oV)) ?_;have ae:Lib.nDigits N=k+1:=Lib.nDigits_unique k N oV hk;clear a5;have X:=Ac2 N;rw[ae]at X;cases b
 ·have Z:¬ z<0:=by simpa using hb.symm
  have P:(ld N (k+1)).reverse=Lib.itoa z:=by rw[X,Em Z,hN]
  generalize hR:ld N (k+1)=R at *
  generalize ai:k+1=nR at *
  have aj:nR<=1000000000000:=oV;have ah:1<=nR:=oV;have C:=d.len;rw[Au]at C;refine G.s nR 1 (nR-1:Nat)<|G.l (ι:=Nat×List UInt8) (fun i=>[(3,sV (some ⟨m,0,none⟩) nR A),(7,iV i.1),(8,iV (nR-1-i.1:Nat))]) (fun _=>[])
   (fun i _ U=>i.1<=nR-1/\Of R i.2 i.1/\Af PH.mt U (.slice (some ⟨m,0,none⟩) nR A) 5 1 (Fn i.2)) (fun i=>nR-i.1) (0,R) ⟨mV,Of.start R,d⟩ ?_
  clear d;rintro J5 ⟨i,l⟩ L u5 m5 O ⟨Y,f,d⟩;simp only at Y f d L;have ag:=f.len;by_cases E:i<nR-1-i
  ·refine G.lT i (nR-1-i:Nat)<|G.a m 0 nR A (nR-1-i) 1 oV<|G.lM none m (0+(nR-1-i)*1) (.int .u8 ((l.getD (nR-1-i) 0).toNat:Int)) (d.el (Ht oV))<|G.a m 0 nR A i 1 oV<|G.lM none m (0+i*1) (.int .u8 ((l.getD i 0).toNat:Int)) (d.el (Ht oV))<|G.a m 0 nR A i 1 oV<|G.storeA 1 PH.mt (Fn l) m nR A i (.int .u8 ((l.getD (nR-1-i) 0).toNat:Int)) kV d (by rw[Au];omega) rfl rfl ?_;intro m6 I;rw[Mw]at I;refine G.a m 0 nR A (nR-1-i) 1 oV<|G.storeA 1 PH.mt _ m nR A (nR-1-i) (.int .u8 ((l.getD i 0).toNat:Int)) kV I (by rw[Au,A21];omega) rfl rfl ?_;intro m7 K;rw[Mw]at K;exact G.i i<|G.s (nR-1-i:Nat) 1 ((nR-1-(i+1):Nat):Int)<|G.b (L (i+1,(l.set i (l.getD (nR-1-i) 0)).set (nR-1-i) (l.getD i 0)) _ _ _ cV O ⟨dV,by dsimp only;rw[C]at E⊢;exact f.step E,K⟩ dV)
  refine G.lF i (nR-1-i:Nat) ?_;have T:=f.done (by rw[<-C];exact E);refine G.convB PH.mt 5 5 l m nR A kV kV d<|G.give PH.mt (Fn l) _ kV d (fun _=>.inl rfl) ?_;intro u8 l8 _;refine G.r (.string (mkS l)) ⟨rfl,?_⟩;rw[T,P]
 have Z:z<0:=by simpa using hb.symm
 refine G.B 5 1 1 (.int .u8 0) [.int .u8 45] (Mj [45]) ?_;intro g u4 l4 e4;refine G.append 5 1 1 (.int .u8 0) PH.mt (Fn (ld N (k+1))) [.int .u8 45] (.slice (some ⟨m,0,none⟩) (k+1) A) g 0 1 1 kV rfl rfl oV d e4 (Mj [45]) rfl oV (by rw[Au,Dg];omega) (by rw[Au,Dg];omega) ?_;intro v5 m5 H;rw[show Fn (ld N (k+1))++[.int .u8 45]=Fn (ld N (k+1)++[45]) by rw[P0];rfl]at H;obtain⟨F,Q,rfl⟩:=H.ptr (by simp[Fn]);rw[Au,A1d,Dg,A20]at H⊢;have P:(ld N (k+1)++[45]).reverse=Lib.itoa z:=by rw[A8q,X,N2 Z,hN];rfl
 clear d;have d:=H;clear H;have T:(ld N (k+1)++[45]).length=k+1+1:=by rw[A1d,Dg];rfl
 generalize hR:ld N (k+1)++[45]=R at *
 generalize ai:k+1+1=nR at *
 have aj:nR<=1000000000000:=oV;have ah:1<=nR:=oV;have C:=d.len;rw[Au]at C;refine G.s nR 1 (nR-1:Nat)<|G.l (ι:=Nat×List UInt8) (fun i=>[(3,sV (some ⟨F,0,none⟩) nR Q),(7,iV i.1),(8,iV (nR-1-i.1:Nat))]) (fun _=>[])
  (fun i _ U=>i.1<=nR-1/\Of R i.2 i.1/\Af PH.mt U (.slice (some ⟨F,0,none⟩) nR Q) 5 1 (Fn i.2)) (fun i=>nR-i.1) (0,R) ⟨mV,Of.start R,d⟩ ?_
 clear d;rintro J5 ⟨i,l⟩ L u5 m5 O ⟨Y,f,d⟩;simp only at Y f d L;have ag:=f.len;by_cases E:i<nR-1-i
 ·refine G.lT i (nR-1-i:Nat)<|G.a F 0 nR Q (nR-1-i) 1 oV<|G.lM none F (0+(nR-1-i)*1) (.int .u8 ((l.getD (nR-1-i) 0).toNat:Int)) (d.el (Ht oV))<|G.a F 0 nR Q i 1 oV<|G.lM none F (0+i*1) (.int .u8 ((l.getD i 0).toNat:Int)) (d.el (Ht oV))<|G.a F 0 nR Q i 1 oV<|G.storeA 1 PH.mt (Fn l) F nR Q i (.int .u8 ((l.getD (nR-1-i) 0).toNat:Int)) kV d (by rw[Au];omega) rfl rfl ?_;intro m6 I;rw[Mw]at I;refine G.a F 0 nR Q (nR-1-i) 1 oV<|G.storeA 1 PH.mt _ F nR Q (nR-1-i) (.int .u8 ((l.getD i 0).toNat:Int)) kV I (by rw[Au,A21];omega) rfl rfl ?_;intro m7 K;rw[Mw]at K;exact G.i i<|G.s (nR-1-i:Nat) 1 ((nR-1-(i+1):Nat):Int)<|G.b (L (i+1,(l.set i (l.getD (nR-1-i) 0)).set (nR-1-i) (l.getD i 0)) _ _ _ cV O ⟨dV,by dsimp only;rw[C]at E⊢;exact f.step E,K⟩ dV)
 refine G.lF i (nR-1-i:Nat) ?_;have T:=f.done (by rw[<-C];exact E);refine G.convB PH.mt 5 5 l F nR Q kV kV d<|G.give PH.mt (Fn l) _ kV d (fun _=>.inl rfl) ?_;intro u8 l8 _;refine G.r (.string (mkS l)) ⟨rfl,?_⟩;rw[T,P]
def Aen (h:Do u x z)(d:nl z.natAbs<=100000000000)(g:Lib.nDigits z.natAbs<=400):Fn0 prog 126 [x] u fun v _=>v=.tuple #[.string (mkS (Lib.itoa z)),.int .i64 0]:=by
 obtain⟨b,a,n,c,rfl,f,hi⟩:=h.opn;refine Fn0.o func126<|G.c call178 (Q0 h d) ?_;rintro t j e rfl;refine G.gF (Lib.nDigits z.natAbs:Nat) 400<|G.c call174 (Ago (h.mono e) d) ?_;rintro A m l2 rfl;exact G.r _ ⟨rfl,rfl⟩
def Bpc (d:-9223372036854775807<=z)(e:z<=9223372036854775807):nl z.natAbs<=100000000000:=A04 (A4 (k:=3) oV) oV
end
section
variable {k:Nat}{l:List UInt8}
def Il.drop (h:Il l)(k:Nat):Il (l.drop k):=fun b d=>h b (A3x d)
def Il.take (h:Il l)(k:Nat):Il (l.take k):=fun b d=>h b (A27 d)
def Ei {k j:Nat}(h:k+j<l.length):(l.drop k).take (j+1)=(l.drop k).take j++[l.getD (k+j) 0]:=by
 rw[A1n];rw[A39,A01 h,A02,A01 h];rfl
def Pb (l:List UInt8)(b:UInt8):rd (l++[b])=10*rd l+(b.toNat-48):=by simp[rd,rdA]
def Mh (h:Il l)(d:k<l.length):48<=(l.getD k 0).toNat/\(l.getD k 0).toNat<=57:=by
 rw[A02,A01 d];exact h _ (A09 d)
theorem D1 (d:k<l.length):l[k]?=some (l.getD k 0):=by grind
def Bj (b:Bool)(l:List UInt8):List UInt8:=if b then 45::l else l
structure Ty (N:Nat)(s:List UInt8)(ys:List Nat):Prop where
 low:Low ys
 dig:Il s
 sum:N=val ys+1000000000^ys.length*rd s
theorem Ty.step {N:Nat}{s:List UInt8}{ys:List Nat}(h:Ty N s ys):Ty N (s.take (s.length-9)) (ys++[rd (s.drop (s.length-9))]):=by
 have d:rd (s.drop (s.length-9))<1000000000:=by
  have:=Aat (h.dig.drop (s.length-9));rw[A4y]at this;exact A2s this (by rw[show (1000000000:Nat)=10^9 from rfl];exact A10 oV oV)
 refine⟨h.low.append (Low.cons d Low.nil),h.dig.take _,?_⟩;have e:rd s=rd (s.take (s.length-9))*1000000000+rd (s.drop (s.length-9)):=by
  have:=Zv (s.take (s.length-9)) (s.drop (s.length-9));rw[A4h]at this;by_cases f:9<=s.length
  ·grind
  rw[show s.length-9=0 by omega];simp[rd,rdA]
 rw[Ki,A1d,A20,A2d,h.sum,e,A2o,A17,A19 (rd _) 1000000000];omega
theorem Apc {b:Bool}(f:Il l)(g:l≠[])(h:¬ b=true):(Bj b l).getD 0 0≠45:=by
 cases b
 ·have e:0<l.length:=by cases l;exact absurd rfl g;simp
  have:=Mh f e;intro d;rw[show Bj false l=l from rfl]at d;rw[d]at this;simp at this
 grind
def Ar8 {u:PH}(b:Bool)(l:List UInt8)(hd:Il l)(hl:l≠[])(a3:l.length<=1000000000):Fn0 prog 173 [.string (mkS (Bj b l))] u fun v u'=>Do u' v (Cd b (rd l)):=by
 have a6:0<l.length:=by cases l;exact absurd rfl hl;simp
 refine Fn0.o func173 ?_;have K:Bj b l≠[]:=by cases b<;>simp[Bj,hl]
 refine G.x (Bj b l) [] K ?_;have a0:(Bj b l)[0]?=some ((Bj b l).getD 0 0):=D1 (by cases b<;>simp[Bj];omega)
 refine G.idxS (Bj b l) 0 _ kV a0 ?_;cases b
 ·have K:=Apc (b:=false) hd hl mV;refine G.cmpG .eql .u8 (((Bj false l).getD 0 0).toNat:Int) 45 false kV rfl (by simp only[Db,decide_eq_false_iff_not];intro h;exact K (A8p.1 (by simpa using (by omega:((Bj false l).getD 0 0).toNat=45))))<|G.l (ι:=List UInt8×List Nat×(Option Addr×Nat×Nat)) (fun i=>[(2,.p 0 0),(3,tV i.1),(4,.p 2001 0)])
   (fun i=>[(0,⟨88,[bV false,sV none 0 0]⟩),(2001,⟨88,[bV false,sV i.2.2.1 i.2.2.2.1 i.2.2.2.2]⟩)])
   (fun i _ D=>i.1.length+i.2.1.length<=l.length/\Ty (rd l) i.1 i.2.1/\Af PH.mt D (.slice i.2.2.1 i.2.2.2.1 i.2.2.2.2) 3 1 (Ai i.2.1)) (fun i=>i.1.length) (l,[],(none,0,0)) ⟨mV,⟨Low.nil,hd,by simp[val]⟩,Af.nil _ _ _⟩ ?_
  rintro J ⟨s,ys,⟨a,E,c⟩⟩ R u' D I ⟨N,f,m⟩;simp only at N f m R;have P:=m.len;rw[Ak]at P;have A:=f.dig;have a2:(mkS s).size=s.length:=Go.Lib.size_mk s;by_cases h0:0<s.length
  ·refine G.gT s.length 0<|G.sub (s.length:Int) 9 ((s.length:Int)-9) kV rfl oV oV<|G.maxI [3,3] 0 ((s.length:Int)-9) ((s.length-9:Nat):Int) kV oV<|G.loop (ι:=Nat) (fun i=>[(2,.p 0 0),(3,tV s),(4,.p 2001 0),(5,iV (s.length-9:Nat)),(6,iV (rd ((s.drop (s.length-9)).take i):Nat)),(7,iV (s.length-9+i:Nat))])
    (fun _=>[(0,⟨88,[bV false,sV none 0 0]⟩),(2001,⟨88,[bV false,sV a E c]⟩)])
    (fun i _ D=>s.length-9+i<=s.length/\Af PH.mt D (.slice a E c) 3 1 (Ai ys)) (fun i=>s.length-i) 0 kV (fun _=>kV) ⟨kV,by rw[A53];kernel_rfl,kV⟩ ⟨oV,m⟩ ?_
   clear m;rintro J2 i F u2 m2 t ⟨hi,m⟩;by_cases e:s.length-9+i<s.length
   ·refine G.lT (s.length-9+i:Nat) s.length ?_;have H:rd ((s.drop (s.length-9)).take (i+1))<1000000000:=by
     have:=Aat ((A.drop (s.length-9)).take (i+1));refine A2s this ?_;rw[show (1000000000:Nat)=10^9 from rfl];exact A10 oV gV
    have a1:=Mh A e;rw[Ei e,Pb]at H;exact G.mul 10 ((rd ((s.drop (s.length-9)).take i):Nat):Int) ((10*rd ((s.drop (s.length-9)).take i):Nat):Int) kV oV oV oV<|G.idxS s (s.length-9+i) _ kV (D1 e)<|G.sub8 ((s.getD (s.length-9+i) 0).toNat:Int) 48 (((s.getD (s.length-9+i) 0).toNat-48:Nat):Int) kV oV oV oV<|G.convI .u8 .i64 .u8 (((s.getD (s.length-9+i) 0).toNat-48:Nat):Int) (((s.getD (s.length-9+i) 0).toNat-48:Nat):Int) kV (Fk oV oV)<|G.add ((10*rd ((s.drop (s.length-9)).take i):Nat):Int) (((s.getD (s.length-9+i) 0).toNat-48:Nat):Int) ((rd ((s.drop (s.length-9)).take (i+1)):Nat):Int) kV (by rw[Ei e,Pb];omega) oV (by rw[Ei e,Pb];omega)<|G.p (s.length-9+i:Nat) 1 ((s.length-9+(i+1):Nat):Int)<|G.b (F (i+1) _ _ _ cV t ⟨oV,m⟩ oV)
   refine G.lF (s.length-9+i:Nat) s.length ?_;have O:(s.drop (s.length-9)).take i=s.drop (s.length-9):=A1j gV;rw[O];have j:=f.step;have C:(s.take (s.length-9)).length=s.length-9:=mV;generalize rd (s.drop (s.length-9))=d at j⊢;refine G.B 3 1 8 (.int .i64 0) [.int .i64 d] (Av [d]) ?_;intro g u3 T Z;refine G.append 3 1 8 (.int .i64 0) PH.mt (Ai ys) [.int .i64 d] (.slice a E c) g 0 1 1 kV rfl rfl oV m Z (Av [d]) rfl oV (by rw[Ak];omega) (by rw[Ak];omega) ?_;intro v4 m4 z;rw[Di]at z;obtain⟨U,X,rfl⟩:=z.shape;exact G.sliceSTo s (s.length-9) kV kV oV<|G.b (R (s.take (s.length-9),ys++[d],(U,(Ai (ys++[d])).length,X)) _ _ _ cV ((I.trans t).trans T) ⟨by dsimp only;rw[C,A1d,A20];omega,j,z⟩ (by dsimp only;rw[C];omega))
  have L:s = []:=A2l oV;subst L;refine G.gF (0:Nat) 0<|G.give PH.mt (Ai ys) _ kV m (fun _=>.inl rfl) ?_;intro u3 T hL;refine G.c call179 (Ec (b:=false) (a:=a) (n:=E) (c:=c) (l:=ys) hL f.low oV) ?_;intro v5 u5 l5 Q;have hv:val ys=rd l:=by have:=f.sum;simpa[rd,rdA] using this.symm
  rw[hv]at Q;obtain⟨W,V,n5,Y,rfl,_,_⟩:=Q.opn;exact G.r (.agg #[.bool W,.slice V n5 Y]) ⟨rfl,Q⟩
 refine G.cmpG .eql .u8 (((Bj true l).getD 0 0).toNat:Int) 45 true kV rfl (by simp[Db,Bj])<|G.sliceSFrom (Bj true l) 1 kV kV (by simp[Bj]) ?_;rw[show (Bj true l).drop 1=l from rfl];refine G.l (ι:=List UInt8×List Nat×(Option Addr×Nat×Nat)) (fun i=>[(2,.p 0 0),(3,tV i.1),(4,.p 2001 0)])
  (fun i=>[(0,⟨88,[bV false,sV none 0 0]⟩),(2001,⟨88,[bV true,sV i.2.2.1 i.2.2.2.1 i.2.2.2.2]⟩)])
  (fun i _ D=>i.1.length+i.2.1.length<=l.length/\Ty (rd l) i.1 i.2.1/\Af PH.mt D (.slice i.2.2.1 i.2.2.2.1 i.2.2.2.2) 3 1 (Ai i.2.1)) (fun i=>i.1.length) (l,[],(none,0,0)) ⟨mV,⟨Low.nil,hd,by simp[val]⟩,Af.nil _ _ _⟩ ?_
 rintro J ⟨s,ys,⟨a,E,c⟩⟩ R u' D I ⟨N,f,m⟩;simp only at N f m R;have P:=m.len;rw[Ak]at P;have A:=f.dig;have a2:(mkS s).size=s.length:=Go.Lib.size_mk s;by_cases h0:0<s.length
 ·refine G.gT s.length 0<|G.sub (s.length:Int) 9 ((s.length:Int)-9) kV rfl oV oV<|G.maxI [3,3] 0 ((s.length:Int)-9) ((s.length-9:Nat):Int) kV oV<|G.loop (ι:=Nat) (fun i=>[(2,.p 0 0),(3,tV s),(4,.p 2001 0),(5,iV (s.length-9:Nat)),(6,iV (rd ((s.drop (s.length-9)).take i):Nat)),(7,iV (s.length-9+i:Nat))])
   (fun _=>[(0,⟨88,[bV false,sV none 0 0]⟩),(2001,⟨88,[bV true,sV a E c]⟩)])
   (fun i _ D=>s.length-9+i<=s.length/\Af PH.mt D (.slice a E c) 3 1 (Ai ys)) (fun i=>s.length-i) 0 kV (fun _=>kV) ⟨kV,by rw[A53];kernel_rfl,kV⟩ ⟨oV,m⟩ ?_
  clear m;rintro J2 i F u2 m2 t ⟨hi,m⟩;by_cases e:s.length-9+i<s.length
  ·refine G.lT (s.length-9+i:Nat) s.length ?_;have H:rd ((s.drop (s.length-9)).take (i+1))<1000000000:=by
    have:=Aat ((A.drop (s.length-9)).take (i+1));refine A2s this ?_;rw[show (1000000000:Nat)=10^9 from rfl];exact A10 oV gV
   have a1:=Mh A e;rw[Ei e,Pb]at H;exact G.mul 10 ((rd ((s.drop (s.length-9)).take i):Nat):Int) ((10*rd ((s.drop (s.length-9)).take i):Nat):Int) kV oV oV oV<|G.idxS s (s.length-9+i) _ kV (D1 e)<|G.sub8 ((s.getD (s.length-9+i) 0).toNat:Int) 48 (((s.getD (s.length-9+i) 0).toNat-48:Nat):Int) kV oV oV oV<|G.convI .u8 .i64 .u8 (((s.getD (s.length-9+i) 0).toNat-48:Nat):Int) (((s.getD (s.length-9+i) 0).toNat-48:Nat):Int) kV (Fk oV oV)<|G.add ((10*rd ((s.drop (s.length-9)).take i):Nat):Int) (((s.getD (s.length-9+i) 0).toNat-48:Nat):Int) ((rd ((s.drop (s.length-9)).take (i+1)):Nat):Int) kV (by rw[Ei e,Pb];omega) oV (by rw[Ei e,Pb];omega)<|G.p (s.length-9+i:Nat) 1 ((s.length-9+(i+1):Nat):Int)<|G.b (F (i+1) _ _ _ cV t ⟨oV,m⟩ oV)
  refine G.lF (s.length-9+i:Nat) s.length ?_;have O:(s.drop (s.length-9)).take i=s.drop (s.length-9):=A1j gV;rw[O];have j:=f.step;have C:(s.take (s.length-9)).length=s.length-9:=mV;generalize rd (s.drop (s.length-9))=d at j⊢;refine G.B 3 1 8 (.int .i64 0) [.int .i64 d] (Av [d]) ?_;intro g u3 T Z;refine G.append 3 1 8 (.int .i64 0) PH.mt (Ai ys) [.int .i64 d] (.slice a E c) g 0 1 1 kV rfl rfl oV m Z (Av [d]) rfl oV (by rw[Ak];omega) (by rw[Ak];omega) ?_;intro v4 m4 z;rw[Di]at z;obtain⟨U,X,rfl⟩:=z.shape;exact G.sliceSTo s (s.length-9) kV kV oV<|G.b (R (s.take (s.length-9),ys++[d],(U,(Ai (ys++[d])).length,X)) _ _ _ cV ((I.trans t).trans T) ⟨by dsimp only;rw[C,A1d,A20];omega,j,z⟩ (by dsimp only;rw[C];omega))
 have L:s = []:=A2l oV;subst L;refine G.gF (0:Nat) 0<|G.give PH.mt (Ai ys) _ kV m (fun _=>.inl rfl) ?_;intro u3 T hL;refine G.c call179 (Ec (b:=true) (a:=a) (n:=E) (c:=c) (l:=ys) hL f.low oV) ?_;intro v5 u5 l5 Q;have hv:val ys=rd l:=by have:=f.sum;simpa[rd,rdA] using this.symm
 rw[hv]at Q;obtain⟨W,V,n5,Y,rfl,_,_⟩:=Q.opn;exact G.r (.agg #[.bool W,.slice V n5 Y]) ⟨rfl,Q⟩
end
section
variable {k n:Nat}{q:Rat}{u:PH}{z:Int}
def D5 (z:Int):Lib.itoa z=Bj (decide (z<0)) (Lib.decDigits z.natAbs):=by
 by_cases h:z<0
 ·rw[N2 h,decide_eq_true h];rfl
 rw[Em h,decide_eq_false h];rfl
def Z8 (z:Int):Cd (decide (z<0)) (rd (Lib.decDigits z.natAbs))=z:=by rw[Aiu];exact Uc z
def Yp (h:Lib.nDigits n<=k):nl n<=k:=by
 refine A4 (A2s (Lib.lt_pow_nDigits n) ?_);rw[Ajo];exact A10 oV oV
def Bd (h:Lib.nDigits n<=400):nl n<=400:=Yp h
def Hh (h:Lib.nDigits z.natAbs<=400):(Lib.itoa z).length<=401:=by
 rw[D5];unfold Bj;split<;>simp[Lib.decDigits_length]<;>omega
def Oh (h:Lib.nDigits z.natAbs<=400):Fn0 prog 173 [.string (mkS (Lib.itoa z))] u fun v d=>Do d v z:=by
 have:=Ar8 (u:=u) (decide (z<0)) (Lib.decDigits z.natAbs) (O8 _) (Gk _) (by rw[Lib.decDigits_length];omega);rw[Z8,<-D5]at this;exact this
def Aq9:Lib.decDigits 0 = [48]:=Lib.decDigits_one oV
def Aqx:Lib.decDigits 1 = [49]:=Lib.decDigits_one oV
def E5:Lib.itoa 0 = [48]:=by rw[Em oV];exact Aq9
def Hf:Lib.itoa 1 = [49]:=by rw[Em oV];exact Aqx
def Yc (n:Nat):Lib.itoa (n:Int)=Lib.decDigits n:=by rw[Em oV];congr 1
def rdZ (t:List UInt8):Int:=match t with
 |45::l=>-(rd l:Int)
 |l=>rd l
theorem Adu (z:Int):rdZ (Lib.itoa z)=z:=by
 by_cases h:z<0
 ·rw[N2 h];simp only[rdZ,Aiu];omega
 rw[Em h];have f:=Afj z.natAbs;have j:=Aiu z.natAbs;have g:=O8 z.natAbs;generalize Lib.decDigits z.natAbs=l at *
 cases l with
 |nil=>simp at f
 |cons b l =>
  have d:=g b mV;unfold rdZ;split
  ·rename_i e;simp at e;rw[e.1]at d;simp at d
  grind
def Im {y z:Int}(h:Lib.itoa y=Lib.itoa z):y=z:=by rw[<-Adu y,h,Adu]
def Qv (d:0<=z)(h0:z≠0):∃ b,(Lib.itoa z)[0]?=some b/\49<=b.toNat/\b.toNat<=57:=by
 rw[Em oV];refine⟨_,Afj _,Aof oV,?_⟩;rw[Rn];have:=A29 (z.natAbs/10^(Lib.nDigits z.natAbs-1)) (show 0<10 by omega);omega
def Tl (h:Lib.nDigits z.natAbs<=400):Fn0 prog 172 [.string (mkS (Lib.itoa z))] u fun v _=>v=.bool true:=by
 refine Fn0.o func172 ?_;by_cases h0:z=0
 ·subst h0;exact G.q (Lib.itoa 0) [48] E5<|G.r (.bool true) ⟨rfl,rfl⟩
 refine G.w (Lib.itoa z) [48] (fun e=>h0 (Im (e.trans E5.symm))) ?_;have K:=Lib.decDigits_length z.natAbs;have N:=Lib.nDigits_pos z.natAbs;have t:=O8 z.natAbs;obtain⟨j,f,H,I⟩:=Qv (z:=(z.natAbs:Int)) oV oV;rw[Yc]at f;have m:=D5 z;generalize Q:Lib.decDigits z.natAbs=L at *
 generalize hT:Lib.itoa z=T at *
 have F:0<T.length:=by rw[m];unfold Bj;split;simp;omega
 refine G.gT T.length 0 ?_;by_cases E:z<0
 ·rw[decide_eq_true E]at m;refine G.idxS T 0 45 kV (by rw[m];rfl)<|G.cmpG .eql .u8 45 45 true kV rfl rfl<|G.sliceSFrom T 1 kV kV oV ?_;rw[show T.drop 1=L by rw[m];rfl];refine G.eF L.length 0<|G.gF L.length 400<|G.idxS L 0 j kV f<|G.cmpG .eql .u8 (j.toNat:Int) 48 false kV rfl (by simp only[Db,decide_eq_false_iff_not];omega)<|G.l (ι:=Nat) (fun i=>[(3,tV L),(4,iV i)]) (fun _=>[]) (fun i _ A=>i<=L.length/\A=PH.mt) (fun i=>L.length-i) 0 ⟨oV,rfl⟩ ?_;rintro J i C P A g ⟨hi,rfl⟩;by_cases d:i<L.length
  ·refine G.lT i L.length ?_;have O:=Mh t d;exact G.idxS L i _ kV (D1 d)<|G.cmpG .lss .u8 ((L.getD i 0).toNat:Int) 48 false kV rfl (by simp only[Db,decide_eq_false_iff_not];omega)<|G.idxS L i _ kV (D1 d)<|G.cmpG .gtr .u8 ((L.getD i 0).toNat:Int) 57 false kV rfl (by simp only[Db,decide_eq_false_iff_not];omega)<|G.i i<|G.b (C (i+1) _ _ _ cV g ⟨oV,rfl⟩ oV)
  exact G.lF i L.length<|G.r (.bool true) ⟨rfl,rfl⟩
 rw[decide_eq_false E]at m;have D:T=L:=m;subst D;refine G.idxS T 0 j kV f<|G.cmpG .eql .u8 (j.toNat:Int) 45 false kV rfl (by simp only[Db,decide_eq_false_iff_not];omega)<|G.eF T.length 0<|G.gF T.length 400<|G.idxS T 0 j kV f<|G.cmpG .eql .u8 (j.toNat:Int) 48 false kV rfl (by simp only[Db,decide_eq_false_iff_not];omega)<|G.l (ι:=Nat) (fun i=>[(3,tV T),(4,iV i)]) (fun _=>[]) (fun i _ A=>i<=T.length/\A=PH.mt) (fun i=>T.length-i) 0 ⟨oV,rfl⟩ ?_;rintro J i C P A g ⟨hi,rfl⟩;by_cases d:i<T.length
 ·refine G.lT i T.length ?_;have O:=Mh t d;exact G.idxS T i _ kV (D1 d)<|G.cmpG .lss .u8 ((T.getD i 0).toNat:Int) 48 false kV rfl (by simp only[Db,decide_eq_false_iff_not];omega)<|G.idxS T i _ kV (D1 d)<|G.cmpG .gtr .u8 ((T.getD i 0).toNat:Int) 57 false kV rfl (by simp only[Db,decide_eq_false_iff_not];omega)<|G.i i<|G.b (C (i+1) _ _ _ cV g ⟨oV,rfl⟩ oV)
 exact G.lF i T.length<|G.r (.bool true) ⟨rfl,rfl⟩
theorem Amg {T:List UInt8}(h:∀ b∈T,b≠47)(m:T.length<=9223372036854775807):Fn0 prog 171 [.string (mkS T)] u fun v _=>v=.tuple #[.string (mkS T),.string (mkS [49]),.bool false]:=by
 refine Fn0.o func171<|G.l (ι:=Nat) (fun i=>[(0,tV T),(5,iV i)]) (fun _=>[]) (fun i _ g=>i<=T.length/\g=PH.mt) (fun i=>T.length-i) 0 ⟨oV,rfl⟩ ?_;rintro J i j t g d ⟨hi,rfl⟩;by_cases e:i<T.length
 ·refine G.lT i T.length<|G.idxS T i _ kV (D1 e) ?_;have f:T.getD i 0≠47:=by grind
  exact G.cmpG .eql .u8 ((T.getD i 0).toNat:Int) 47 false kV rfl (by simp only[Db,decide_eq_false_iff_not];intro h;exact f (A8p.1 (by simpa using (by omega:(T.getD i 0).toNat=47))))<|G.i i<|G.b (j (i+1) _ _ _ cV d ⟨oV,rfl⟩ oV)
 exact G.lF i T.length<|G.r (.tuple #[.string (mkS T),.string (mkS [49]),.bool false]) ⟨rfl,rfl⟩
theorem Amq {A B:List UInt8}(h:∀ b∈A,b≠47)(E:(A++47::B).length<=9223372036854775807):Fn0 prog 171 [.string (mkS (A++47::B))] u fun v _=>v=.tuple #[.string (mkS A),.string (mkS B),.bool true]:=by
 have hT:∀ i,i<A.length->(A++47::B).getD i 0≠47:=by grind
 have C:(A++47::B)[A.length]?=some 47:=by grind
 have m:(A++47::B).length=A.length+1+B.length:=by grind
 have j:(A++47::B).take A.length=A:=mV;have d:(A++47::B).drop (A.length+1)=B:=mV;generalize A++47::B=T at *
 refine Fn0.o func171<|G.l (ι:=Nat) (fun i=>[(0,tV T),(5,iV i)]) (fun _=>[]) (fun i _ t=>i<=A.length/\t=PH.mt) (fun i=>T.length-i) 0 ⟨oV,rfl⟩ ?_;rintro J i D F t e ⟨hi,rfl⟩;refine G.lT i T.length ?_;by_cases f:i<A.length
 ·refine G.idxS T i _ kV (D1 oV) ?_;have g:=hT i f;exact G.cmpG .eql .u8 ((T.getD i 0).toNat:Int) 47 false kV rfl (by simp only[Db,decide_eq_false_iff_not];intro h;exact g (A8p.1 (by simpa using (by omega:(T.getD i 0).toNat=47))))<|G.i i<|G.b (D (i+1) _ _ _ cV e ⟨oV,rfl⟩ oV)
 have:i=A.length:=oV;subst this;refine G.idxS T A.length 47 kV C<|G.cmpG .eql .u8 47 47 true kV rfl rfl<|G.sliceSTo T A.length kV kV oV ?_;rw[j];refine G.p A.length 1 (A.length+1:Nat)<|G.sliceSFrom T (A.length+1) kV kV oV ?_;rw[d];exact G.r (.tuple #[.string (mkS A),.string (mkS B),.bool true]) ⟨rfl,rfl⟩
def Ae (q:Rat):List UInt8:=if q.den=1 then Lib.itoa q.num else Lib.itoa q.num++47::Lib.itoa (q.den:Int)
def Tx (q:Rat):Prop:=Lib.nDigits q.num.natAbs<=400/\Lib.nDigits q.den<=400
def Tx.den (h:Tx q):Lib.nDigits ((q.den:Int)).natAbs<=400:=by simpa using h.2
def Sz.mono {j k:Nat}(h:Sz q j)(d:j<=k):Sz q k:=⟨A04 h.1 d,A04 h.2 d⟩
def O0 (z:Int):∀ b∈Lib.itoa z,b≠47:=by
 have f:=O8 z.natAbs;intro b d e;subst e;rw[D5]at d;unfold Bj at d;split at d
 ·simp at d;have:=f _ d;simp at this
 have:=f _ d;simp at this
def Aac (h:Tx q):Fn0 prog 171 [.string (mkS (Ae q))] u fun v _=>v=.tuple #[.string (mkS (Lib.itoa q.num)),.string (mkS (Lib.itoa (q.den:Int))),.bool (decide (q.den≠1))]:=by
 have e:=Hh h.1;have l2:=Hh h.den;unfold Ae;by_cases d:q.den=1
 ·rw[if_pos d,d,show ((1:Nat):Int)=1 from rfl,Hf];exact Amg (O0 _) oV
 rw[if_neg d,decide_eq_true d];exact Amq (O0 _) gV
def G8 (h:Tx q):Fn0 prog 125 [.string (mkS (Ae q))] u fun v F=>QP F v q:=by
 refine Fn0.o func125<|G.c call171 (Aac h) ?_;rintro L I H rfl;refine G.c call173 (Oh h.1) ?_;intro N J l2 d;obtain⟨j,f,D,t,rfl,_,_⟩:=d.opn;refine G.c call173 (Oh h.den) ?_;intro O K C e;obtain⟨m,g,E,A,rfl,_,_⟩:=e.opn;exact G.r (.agg #[.bool j,.slice f D t,.bool m,.slice g E A]) ⟨rfl,QP.mk (d.mono C) e rfl rfl⟩
def Ao1 (h:Tx q):(Ae q).length<=802:=by
 have d:=Hh h.1;have l2:=Lib.decDigits_length q.den;have e:=h.2;unfold Ae;split
 ·omega
 rw[Yc];simp;omega
def Ao0 (h:q.den≠1):q.num≠0:=fun h0=>h (by have:=A4r.1 h0;subst this;rfl)
def Ua (h:Tx q):Fn0 prog 118 [.string (mkS (Ae q))] u fun v _=>v=.tuple #[.string (mkS (Lib.itoa q.num)),.string (mkS (Lib.itoa (q.den:Int))),.bool true]:=by
 have j:=Ao1 h;refine Fn0.o func118<|G.gF ((Ae q).length:Int) 802<|G.c call171 (Aac h) ?_;rintro W O I rfl;refine G.c call172 (Tl h.1) ?_;rintro X P l2 rfl;refine G.c call172 (Tl h.den) ?_;rintro Y Q J rfl;by_cases f:q.den=1
 ·rw[show decide (q.den≠1)=false by simp[f]];exact G.r (.tuple #[.string (mkS (Lib.itoa q.num)),.string (mkS (Lib.itoa (q.den:Int))),.bool true]) ⟨rfl,rfl⟩
 rw[show decide (q.den≠1)=true by simp[f]];have D:=Ao0 f;have C:=q.den_nz;refine G.w (Lib.itoa q.num) [48] (fun e=>D (Im (e.trans E5.symm)))<|G.w (Lib.itoa (q.den:Int)) [49] (fun e=>by have:=Im (e.trans Hf.symm);omega)<|G.w (Lib.itoa (q.den:Int)) [48] (fun e=>by have:=Im (e.trans E5.symm);omega) ?_;obtain⟨g,d,t,A⟩:=Qv (z:=(q.den:Int)) oV oV;refine G.idxS (Lib.itoa (q.den:Int)) 0 g kV d<|G.cmpG .eql .u8 (g.toNat:Int) 45 false kV rfl (by simp only[Db,decide_eq_false_iff_not];omega)<|G.c call173 (Oh h.1) ?_;intro Z R K E;refine G.c call173 (Oh h.den) ?_;intro v5 T H F;refine G.c call127 (Abo (E.mono H) F (A04 (Bd h.1) oV) (A04 (Bd h.den) oV)) ?_;intro v6 U L m;rw[show Nat.gcd q.num.natAbs ((q.den:Int)).natAbs=1 from q.reduced]at m;refine G.c call174 (Ago m (A04 Tm oV)) ?_;rintro v7 V N rfl;exact G.y (Lib.itoa ((1:Nat):Int)) [49] Hf<|G.r (.tuple #[.string (mkS (Lib.itoa q.num)),.string (mkS (Lib.itoa (q.den:Int))),.bool true]) ⟨rfl,rfl⟩
def Ee (h:Tx q):Fn0 prog 92 [.string (mkS (Ae q))] u fun v _=>v=.bool true:=by
 refine Fn0.o func92<|G.c call118 (Ua h) ?_;rintro f e d rfl;exact G.r (.bool true) ⟨rfl,rfl⟩
def Ox {x:Value}(j:QP u x q)(h:Tx q):Fn0 prog 66 [x] u fun v _=>v=.tuple #[.string (mkS (Ae q)),.int .i64 0]:=by
 obtain⟨b,a,n,c,t,E,A,rfl,_,g,f⟩:=j.opn;refine Fn0.o func66<|G.c call126 (Aen g (A04 (Bd h.1) oV) h.1) ?_;rintro I F m rfl;refine G.c call126 (Aen (f.mono m) (A04 (Bd h.den) oV) h.den) ?_;rintro J H l2 rfl;refine G.nF 0 0<|G.nF 0 0 ?_;by_cases d:q.den=1
 ·exact G.q (Lib.itoa (q.den:Int)) [49] (by rw[d];exact Hf)<|G.r (.tuple #[.string (mkS (Lib.itoa q.num)),.int .i64 0]) ⟨rfl,by rw[Ae,if_pos d]⟩
 refine G.w (Lib.itoa (q.den:Int)) [49] (fun e=>by have:=Im (e.trans Hf.symm);omega) ?_;have C:=Hh h.1;have D:=Hh h.den;exact G.addS (Lib.itoa q.num) [47] kV gV<|G.addS (Lib.itoa q.num++[47]) (Lib.itoa (q.den:Int)) kV gV<|G.r (.tuple #[.string (mkS (Lib.itoa q.num++[47]++Lib.itoa (q.den:Int))),.int .i64 0]) ⟨rfl,by rw[Ae,if_neg d];simp⟩
end
end Go.Proofs.YtnjlhkppabfebaaGreatDoor
section
namespace Go.Proofs
open Go.Shelf
def Tryz.lays169_ren:Go.Shelf.Ren:=⟨fun|169=>224|n=>n,fun|70=>276|9=>9|0=>0|72=>278|37=>131|127=>302|3=>3|5=>5|n=>n,fun|n=>n⟩
theorem Tryz.lays169:Go.Proofs.Lays.n169 Tryz.prog Tryz.lays169_ren:={
 mixed:=by kernel_rfl
 f169:=Tryz.func224.trans (congrArg some (by kernel_rfl))
 t0:=Tryz.underlying0
 a0:=Tryz.isAgg0
 z0:=Tryz.sizeOf0
 v0:=Tryz.zeroValue0
 t3:=Tryz.underlying3
 a3:=Tryz.isAgg3
 z3:=Tryz.sizeOf3
 v3:=Tryz.zeroValue3
 t9:=Tryz.underlying9
 a9:=Tryz.isAgg9
 z9:=Tryz.sizeOf9
 v9:=Tryz.zeroValue9
 t37:=Tryz.underlying131
 a37:=Tryz.isAgg131
 z37:=Tryz.sizeOf131
 v37:=Tryz.zeroValue131
 t70:=Tryz.underlying276
 a70:=Tryz.isAgg276
 z70:=Tryz.sizeOf276
 v70:=Tryz.zeroValue276
 t72:=Tryz.underlying278
 a72:=Tryz.isAgg278
 z72:=Tryz.sizeOf278
 v72:=Tryz.zeroValue278
 t127:=Tryz.underlying302
 a127:=Tryz.isAgg302
 z127:=Tryz.sizeOf302
 v127:=Tryz.zeroValue302 }
theorem Tryz.Builder_Extra_169:Builder.Extra Tryz.prog Tryz.lays169_ren:={
 sizeBuilder:=by kernel_rfl
 liesBuilder:=by kernel_rfl
 t5:=Tryz.underlying5
 a5:=Tryz.isAgg5
 z5:=Tryz.sizeOf5
 v5:=Tryz.zeroValue5
 infoByte:=by kernel_rfl
 cellsByte:=by kernel_rfl
 sizeByte:=by kernel_rfl
 neB5:=by decide }
open Go.RowKit in
theorem Tryz.Builder_String (B b:Nat)(l:List UInt8)(w:World)(h:Lib.IsBuilder 278 5 B b (Lib.byteCells l) w)(h0:l≠[]) :
 Calls Tryz.prog 224 #[.pointer (some ⟨b,0,none⟩)] w fun e w'=>e=.returned (.string ⟨l.toArray⟩)/\Below B w w':=Any.Builder_String Tryz.lays169 Tryz.Builder_Extra_169 B b l w h h0
def Tryz.lays210_ren:Go.Shelf.Ren:=⟨fun|210=>215|206=>237|n=>n,fun|9=>9|4=>4|3=>3|n=>n,fun|n=>n⟩
def Tryz.lays103_ren:Go.Shelf.Ren:=⟨fun|103=>186|210=>215|206=>237|n=>n,fun|9=>9|4=>4|24=>245|3=>3|n=>n,fun|n=>n⟩
theorem Tryz.lays103:Go.Proofs.Lays.n103 Tryz.prog Tryz.lays103_ren:={
 mixed:=by kernel_rfl
 f103:=Tryz.func186.trans (congrArg some (by kernel_rfl))
 f206:=Tryz.func237.trans (congrArg some (by kernel_rfl))
 f210:=Tryz.func215.trans (congrArg some (by kernel_rfl))
 t3:=Tryz.underlying3
 a3:=Tryz.isAgg3
 z3:=Tryz.sizeOf3
 v3:=Tryz.zeroValue3
 t4:=Tryz.underlying4
 a4:=Tryz.isAgg4
 z4:=Tryz.sizeOf4
 v4:=Tryz.zeroValue4
 t9:=Tryz.underlying9
 a9:=Tryz.isAgg9
 z9:=Tryz.sizeOf9
 v9:=Tryz.zeroValue9
 t24:=Tryz.underlying245
 a24:=Tryz.isAgg245
 z24:=Tryz.sizeOf245
 v24:=Tryz.zeroValue245 }
open Go.RowKit in
theorem Tryz.strings_CutPrefix (s p:ByteArray)(w:World) :
 Calls Tryz.prog 186 #[.string s,.string p] w fun e w'=>e=.returned (.tuple #[.string ⟨(Lib.trimPrefix s.data.toList p.data.toList).toArray⟩,.bool (Lib.hasPrefix s.data.toList p.data.toList)])/\w'=w:=Any.strings_CutPrefix Tryz.lays103 s p w
def Tryz.lays283_ren:Go.Shelf.Ren:=⟨fun|283=>246|n=>n,fun|3=>3|9=>9|4=>4|n=>n,fun|n=>n⟩
theorem Tryz.lays283:Go.Proofs.Lays.n283 Tryz.prog Tryz.lays283_ren:={
 mixed:=by kernel_rfl
 f283:=Tryz.func246.trans (congrArg some (by kernel_rfl))
 t3:=Tryz.underlying3
 a3:=Tryz.isAgg3
 z3:=Tryz.sizeOf3
 v3:=Tryz.zeroValue3
 t4:=Tryz.underlying4
 a4:=Tryz.isAgg4
 z4:=Tryz.sizeOf4
 v4:=Tryz.zeroValue4
 t9:=Tryz.underlying9
 a9:=Tryz.isAgg9
 z9:=Tryz.sizeOf9
 v9:=Tryz.zeroValue9 }
open Go.Lib in
theorem Tryz.internal_strconv_small (i:Nat)(h:i<100)(w:World) :
 Calls Tryz.prog 246 #[.int .i64 i] w fun e w'=>e=.returned (.string ⟨(Lib.decDigits i).toArray⟩)/\w'=w:=Any.internal_strconv_small Tryz.lays283 i h w
def Tryz.laysM284_ren:Go.Shelf.Ren:=⟨fun|284=>247|129=>150|317=>262|318=>263|n=>n,fun|53=>219|3=>3|212=>311|0=>0|4=>4|46=>152|5=>5|9=>9|n=>n,fun|17=>3|n=>n⟩
theorem Tryz.laysM284:Go.Proofs.LaysM.n284 Tryz.prog Tryz.laysM284_ren:={
 mixed:=by kernel_rfl
 f129:=Tryz.func150.trans (congrArg some (by kernel_rfl))
 f284:=Tryz.func247.trans (congrArg some (by kernel_rfl))
 f317:=Tryz.func262.trans (congrArg some (by kernel_rfl))
 f318:=Tryz.func263.trans (congrArg some (by kernel_rfl))
 t0:=Tryz.underlying0
 a0:=Tryz.isAgg0
 z0:=Tryz.sizeOf0
 v0:=Tryz.zeroValue0
 t3:=Tryz.underlying3
 a3:=Tryz.isAgg3
 z3:=Tryz.sizeOf3
 v3:=Tryz.zeroValue3
 t4:=Tryz.underlying4
 a4:=Tryz.isAgg4
 z4:=Tryz.sizeOf4
 v4:=Tryz.zeroValue4
 t5:=Tryz.underlying5
 a5:=Tryz.isAgg5
 z5:=Tryz.sizeOf5
 v5:=Tryz.zeroValue5
 t9:=Tryz.underlying9
 a9:=Tryz.isAgg9
 z9:=Tryz.sizeOf9
 v9:=Tryz.zeroValue9
 t46:=Tryz.underlying152
 a46:=Tryz.isAgg152
 z46:=Tryz.sizeOf152
 v46:=Tryz.zeroValue152
 t53:=Tryz.underlying219
 a53:=Tryz.isAgg219
 z53:=Tryz.sizeOf219
 v53:=Tryz.zeroValue219
 t212:=Tryz.underlying311
 a212:=Tryz.isAgg311
 z212:=Tryz.sizeOf311
 v212:=Tryz.zeroValue311
 g17:=by kernel_rfl
 i0:=by kernel_rfl
 i3:=by kernel_rfl
 i4:=by kernel_rfl
 i5:=by kernel_rfl
 i9:=by kernel_rfl
 i46:=by kernel_rfl
 i53:=by kernel_rfl
 i212:=by kernel_rfl
 m17:=by kernel_rfl }
open Go.Lib in
theorem Tryz.internal_strconv_numDigits (u:Nat)(h1:1<=u)(h2:u<18446744073709551616)(w:World)(htab:Lib.TabIs Tryz.prog w "internal/strconv.uint64pow10" .u64 Lib.pow10Tab) :
 Calls Tryz.prog 247 #[.int .u64 u] w fun e w'=>e=.returned (.int .i64 (Lib.nDigits u))/\w'=w:=Any.internal_strconv_numDigits Tryz.laysM284 u h1 h2 w htab
def Tryz.lays285_ren:Go.Shelf.Ren:=⟨fun|285=>248|n=>n,fun|37=>131|53=>219|3=>3|4=>4|51=>217|9=>9|5=>5|0=>0|n=>n,fun|n=>n⟩
theorem Tryz.lays285:Go.Proofs.Lays.n285 Tryz.prog Tryz.lays285_ren:={
 mixed:=by kernel_rfl
 f285:=Tryz.func248.trans (congrArg some (by kernel_rfl))
 t0:=Tryz.underlying0
 a0:=Tryz.isAgg0
 z0:=Tryz.sizeOf0
 v0:=Tryz.zeroValue0
 t3:=Tryz.underlying3
 a3:=Tryz.isAgg3
 z3:=Tryz.sizeOf3
 v3:=Tryz.zeroValue3
 t4:=Tryz.underlying4
 a4:=Tryz.isAgg4
 z4:=Tryz.sizeOf4
 v4:=Tryz.zeroValue4
 t5:=Tryz.underlying5
 a5:=Tryz.isAgg5
 z5:=Tryz.sizeOf5
 v5:=Tryz.zeroValue5
 t9:=Tryz.underlying9
 a9:=Tryz.isAgg9
 z9:=Tryz.sizeOf9
 v9:=Tryz.zeroValue9
 t37:=Tryz.underlying131
 a37:=Tryz.isAgg131
 z37:=Tryz.sizeOf131
 v37:=Tryz.zeroValue131
 t51:=Tryz.underlying217
 a51:=Tryz.isAgg217
 z51:=Tryz.sizeOf217
 v51:=Tryz.zeroValue217
 t53:=Tryz.underlying219
 a53:=Tryz.isAgg219
 z53:=Tryz.sizeOf219
 v53:=Tryz.zeroValue219 }
open Go.RowKit Go.Sort Go.Lib in
theorem Tryz.internal_strconv_formatBase10 (blk off cap:Nat)(u:Nat)(d:Array UInt8)(w:World)(hH:Holds (fun (b:UInt8)=>Value.int .u8 (b.toNat:Int)) w blk off d)(hu:u<10^d.size)(hu64:u<18446744073709551616)(hsz:d.size<4611686018427387904) :
 Calls Tryz.prog 248 #[.slice (some ⟨blk,off,none⟩) d.size cap,.int .u64 u] w fun e w' =>
  e=.returned (.tuple #[])/\∃ (n v':Nat) (dk:Array UInt8),w'=(putRow (fun (b:UInt8)=>Value.int .u8 (b.toNat:Int)) w blk off dk).drewN n/\FmtInv d.size u 0 v' dk:=Any.internal_strconv_formatBase10 Tryz.lays285 blk off cap u d w hH hu hu64 hsz
def Tryz.laysPu14_ren:Go.Shelf.Ren:=⟨fun|14=>187|16=>216|17=>217|19=>238|20=>239|21=>240|22=>241|23=>242|24=>243|25=>259|27=>261|26=>260|28=>269|29=>273|30=>246|31=>247|32=>248|33=>249|35=>150|34=>262|36=>263|37=>264|38=>265|39=>270|40=>271|n=>n,fun|9=>9|3=>3|22=>219|24=>248|25=>249|4=>4|34=>288|5=>5|36=>152|37=>131|0=>0|39=>290|21=>21|44=>308|47=>302|50=>318|48=>316|2=>2|52=>297|55=>299|59=>311|60=>217|20=>20|61=>312|65=>321|66=>322|67=>41|n=>n,fun|0=>1|1=>2|2=>3|3=>4|4=>5|n=>n⟩
theorem Tryz.laysPu14:Go.Proofs.LaysPu.n14 Tryz.prog Tryz.laysPu14_ren:={
 mixed:=by kernel_rfl
 f14:=Tryz.func187.trans (congrArg some (by kernel_rfl))
 f16:=Tryz.func216.trans (congrArg some (by kernel_rfl))
 f17:=Tryz.func217.trans (congrArg some (by kernel_rfl))
 f19:=Tryz.func238.trans (congrArg some (by kernel_rfl))
 f20:=Tryz.func239.trans (congrArg some (by kernel_rfl))
 f21:=Tryz.func240.trans (congrArg some (by kernel_rfl))
 f22:=Tryz.func241.trans (congrArg some (by kernel_rfl))
 f23:=Tryz.func242.trans (congrArg some (by kernel_rfl))
 f24:=Tryz.func243.trans (congrArg some (by kernel_rfl))
 f25:=Tryz.func259.trans (congrArg some (by kernel_rfl))
 f26:=Tryz.func260.trans (congrArg some (by kernel_rfl))
 f27:=Tryz.func261.trans (congrArg some (by kernel_rfl))
 f28:=Tryz.func269.trans (congrArg some (by kernel_rfl))
 f29:=Tryz.func273.trans (congrArg some (by kernel_rfl))
 f30:=Tryz.func246.trans (congrArg some (by kernel_rfl))
 f31:=Tryz.func247.trans (congrArg some (by kernel_rfl))
 f32:=Tryz.func248.trans (congrArg some (by kernel_rfl))
 f33:=Tryz.func249.trans (congrArg some (by kernel_rfl))
 f34:=Tryz.func262.trans (congrArg some (by kernel_rfl))
 f35:=Tryz.func150.trans (congrArg some (by kernel_rfl))
 f36:=Tryz.func263.trans (congrArg some (by kernel_rfl))
 f37:=Tryz.func264.trans (congrArg some (by kernel_rfl))
 f38:=Tryz.func265.trans (congrArg some (by kernel_rfl))
 f39:=Tryz.func270.trans (congrArg some (by kernel_rfl))
 f40:=Tryz.func271.trans (congrArg some (by kernel_rfl))
 t0:=Tryz.underlying0
 a0:=Tryz.isAgg0
 z0:=Tryz.sizeOf0
 v0:=Tryz.zeroValue0
 i0:=by kernel_rfl
 t2:=Tryz.underlying2
 a2:=Tryz.isAgg2
 z2:=Tryz.sizeOf2
 v2:=Tryz.zeroValue2
 i2:=by kernel_rfl
 t3:=Tryz.underlying3
 a3:=Tryz.isAgg3
 z3:=Tryz.sizeOf3
 v3:=Tryz.zeroValue3
 i3:=by kernel_rfl
 t4:=Tryz.underlying4
 a4:=Tryz.isAgg4
 z4:=Tryz.sizeOf4
 v4:=Tryz.zeroValue4
 i4:=by kernel_rfl
 t5:=Tryz.underlying5
 a5:=Tryz.isAgg5
 z5:=Tryz.sizeOf5
 v5:=Tryz.zeroValue5
 i5:=by kernel_rfl
 t9:=Tryz.underlying9
 a9:=Tryz.isAgg9
 z9:=Tryz.sizeOf9
 v9:=Tryz.zeroValue9
 i9:=by kernel_rfl
 t20:=Tryz.underlying20
 a20:=Tryz.isAgg20
 z20:=Tryz.sizeOf20
 v20:=Tryz.zeroValue20
 i20:=by kernel_rfl
 t21:=Tryz.underlying21
 a21:=Tryz.isAgg21
 z21:=Tryz.sizeOf21
 v21:=Tryz.zeroValue21
 i21:=by kernel_rfl
 t22:=Tryz.underlying219
 a22:=Tryz.isAgg219
 z22:=Tryz.sizeOf219
 v22:=Tryz.zeroValue219
 i22:=by kernel_rfl
 t24:=Tryz.underlying248
 a24:=Tryz.isAgg248
 z24:=Tryz.sizeOf248
 v24:=Tryz.zeroValue248
 i24:=by kernel_rfl
 t25:=Tryz.underlying249
 a25:=Tryz.isAgg249
 z25:=Tryz.sizeOf249
 v25:=Tryz.zeroValue249
 i25:=by kernel_rfl
 t34:=Tryz.underlying288
 a34:=Tryz.isAgg288
 z34:=Tryz.sizeOf288
 v34:=Tryz.zeroValue288
 i34:=by kernel_rfl
 c34:=by kernel_rfl
 t36:=Tryz.underlying152
 a36:=Tryz.isAgg152
 z36:=Tryz.sizeOf152
 v36:=Tryz.zeroValue152
 i36:=by kernel_rfl
 t37:=Tryz.underlying131
 a37:=Tryz.isAgg131
 z37:=Tryz.sizeOf131
 v37:=Tryz.zeroValue131
 i37:=by kernel_rfl
 t39:=Tryz.underlying290
 a39:=Tryz.isAgg290
 z39:=Tryz.sizeOf290
 v39:=Tryz.zeroValue290
 i39:=by kernel_rfl
 t44:=Tryz.underlying308
 a44:=Tryz.isAgg308
 z44:=Tryz.sizeOf308
 v44:=Tryz.zeroValue308
 i44:=by kernel_rfl
 t47:=Tryz.underlying302
 a47:=Tryz.isAgg302
 z47:=Tryz.sizeOf302
 v47:=Tryz.zeroValue302
 i47:=by kernel_rfl
 t48:=Tryz.underlying316
 a48:=Tryz.isAgg316
 z48:=Tryz.sizeOf316
 v48:=Tryz.zeroValue316
 i48:=by kernel_rfl
 t50:=Tryz.underlying318
 a50:=Tryz.isAgg318
 z50:=Tryz.sizeOf318
 v50:=Tryz.zeroValue318
 i50:=by kernel_rfl
 t52:=Tryz.underlying297
 a52:=Tryz.isAgg297
 z52:=Tryz.sizeOf297
 v52:=Tryz.zeroValue297
 i52:=by kernel_rfl
 t55:=Tryz.underlying299
 a55:=Tryz.isAgg299
 z55:=Tryz.sizeOf299
 v55:=Tryz.zeroValue299
 i55:=by kernel_rfl
 t59:=Tryz.underlying311
 a59:=Tryz.isAgg311
 z59:=Tryz.sizeOf311
 v59:=Tryz.zeroValue311
 i59:=by kernel_rfl
 t60:=Tryz.underlying217
 a60:=Tryz.isAgg217
 z60:=Tryz.sizeOf217
 v60:=Tryz.zeroValue217
 i60:=by kernel_rfl
 t61:=Tryz.underlying312
 a61:=Tryz.isAgg312
 z61:=Tryz.sizeOf312
 t65:=Tryz.underlying321
 a65:=Tryz.isAgg321
 z65:=Tryz.sizeOf321
 v65:=Tryz.zeroValue321
 i65:=by kernel_rfl
 t66:=Tryz.underlying322
 a66:=Tryz.isAgg322
 z66:=Tryz.sizeOf322
 v66:=Tryz.zeroValue322
 i66:=by kernel_rfl
 t67:=Tryz.underlying41
 a67:=Tryz.isAgg41
 z67:=Tryz.sizeOf41
 v67:=Tryz.zeroValue41
 i67:=by kernel_rfl
 g0:=by kernel_rfl
 m0:=by kernel_rfl
 g1:=by kernel_rfl
 m1:=by kernel_rfl
 g2:=by kernel_rfl
 m2:=by kernel_rfl
 g3:=by kernel_rfl
 m3:=by kernel_rfl
 g4:=by kernel_rfl
 m4:=by kernel_rfl }
open Go.RowKit in
theorem Tryz.strconv_ParseUint_10_at64_ok (s:ByteArray)(hmax:s.size<=9223372036854775806)(u:Nat)(h:Lib.parseUintB 64 s.data.toList=.ok u)(w:World) :
 Calls Tryz.prog 187 #[.string s,.int .i64 10,.int .i64 64] w fun e w'=>e=.returned (.tuple #[.int .u64 u,.nilIface])/\(w'=w\/w'=Lib.bytesWorld w 5 s):=Any.strconv_ParseUint_10_at64_ok Tryz.laysPu14 s hmax u h w
def Tryz.lays219_ren:Go.Shelf.Ren:=⟨fun|219=>213|217=>233|225=>234|224=>235|267=>236|266=>257|314=>258|n=>n,fun|9=>9|3=>3|4=>4|5=>5|46=>152|146=>221|51=>217|n=>n,fun|1=>0|n=>n⟩
theorem Tryz.lays219:Go.Proofs.Lays.n219 Tryz.prog Tryz.lays219_ren:={
 mixed:=by kernel_rfl
 f217:=Tryz.func233.trans (congrArg some (by kernel_rfl))
 f219:=Tryz.func213.trans (congrArg some (by kernel_rfl))
 f224:=Tryz.func235.trans (congrArg some (by kernel_rfl))
 f225:=Tryz.func234.trans (congrArg some (by kernel_rfl))
 f266:=Tryz.func257.trans (congrArg some (by kernel_rfl))
 f267:=Tryz.func236.trans (congrArg some (by kernel_rfl))
 f314:=Tryz.func258.trans (congrArg some (by kernel_rfl))
 t3:=Tryz.underlying3
 a3:=Tryz.isAgg3
 z3:=Tryz.sizeOf3
 v3:=Tryz.zeroValue3
 t4:=Tryz.underlying4
 a4:=Tryz.isAgg4
 z4:=Tryz.sizeOf4
 v4:=Tryz.zeroValue4
 t5:=Tryz.underlying5
 a5:=Tryz.isAgg5
 z5:=Tryz.sizeOf5
 v5:=Tryz.zeroValue5
 t9:=Tryz.underlying9
 a9:=Tryz.isAgg9
 z9:=Tryz.sizeOf9
 v9:=Tryz.zeroValue9
 t46:=Tryz.underlying152
 a46:=Tryz.isAgg152
 z46:=Tryz.sizeOf152
 v46:=Tryz.zeroValue152
 t51:=Tryz.underlying217
 a51:=Tryz.isAgg217
 z51:=Tryz.sizeOf217
 v51:=Tryz.zeroValue217
 t146:=Tryz.underlying221
 a146:=Tryz.isAgg221
 z146:=Tryz.sizeOf221
 v146:=Tryz.zeroValue221
 g1:=by kernel_rfl }
open Go.RowKit Go.Lib in
theorem Tryz.stringslite_Index_one (s:ByteArray)(c:UInt8)(w:World) :
 Calls Tryz.prog 213 #[.string s,.string ⟨#[c]⟩] w fun e w'=>e=.returned (.int .i64 (Lib.indexByte s.data.toList c))/\w'=w:=Any.stringslite_Index_one Tryz.lays219 s c w
def Tryz.lays101_ren:Go.Shelf.Ren:=⟨fun|101=>185|208=>214|206=>237|n=>n,fun|9=>9|4=>4|3=>3|n=>n,fun|n=>n⟩
theorem Tryz.lays101:Go.Proofs.Lays.n101 Tryz.prog Tryz.lays101_ren:={
 mixed:=by kernel_rfl
 f101:=Tryz.func185.trans (congrArg some (by kernel_rfl))
 f206:=Tryz.func237.trans (congrArg some (by kernel_rfl))
 f208:=Tryz.func214.trans (congrArg some (by kernel_rfl))
 t3:=Tryz.underlying3
 a3:=Tryz.isAgg3
 z3:=Tryz.sizeOf3
 v3:=Tryz.zeroValue3
 t4:=Tryz.underlying4
 a4:=Tryz.isAgg4
 z4:=Tryz.sizeOf4
 v4:=Tryz.zeroValue4
 t9:=Tryz.underlying9
 a9:=Tryz.isAgg9
 z9:=Tryz.sizeOf9
 v9:=Tryz.zeroValue9 }
open Go.RowKit Go.Lib in
theorem Tryz.strings_TrimPrefix (s p:ByteArray)(w:World) :
 Calls Tryz.prog 185 #[.string s,.string p] w fun e w'=>e=.returned (.string ⟨(Lib.trimPrefix s.data.toList p.data.toList).toArray⟩)/\w'=w:=Any.strings_TrimPrefix Tryz.lays101 s p w
def Tryz.lays212_ren:Go.Shelf.Ren:=⟨fun|212=>94|263=>153|264=>154|n=>n,fun|46=>152|51=>217|146=>221|53=>219|148=>223|n=>n,fun|n=>n⟩
theorem Tryz.lays212:Go.Proofs.Lays.n212 Tryz.prog Tryz.lays212_ren:={
 mixed:=by kernel_rfl
 f212:=Tryz.func94.trans (congrArg some (by kernel_rfl))
 f263:=Tryz.func153.trans (congrArg some (by kernel_rfl))
 f264:=Tryz.func154.trans (congrArg some (by kernel_rfl))
 t46:=Tryz.underlying152
 a46:=Tryz.isAgg152
 z46:=Tryz.sizeOf152
 v46:=Tryz.zeroValue152
 t51:=Tryz.underlying217
 a51:=Tryz.isAgg217
 z51:=Tryz.sizeOf217
 v51:=Tryz.zeroValue217
 t53:=Tryz.underlying219
 a53:=Tryz.isAgg219
 z53:=Tryz.sizeOf219
 v53:=Tryz.zeroValue219
 t146:=Tryz.underlying221
 a146:=Tryz.isAgg221
 z146:=Tryz.sizeOf221
 v146:=Tryz.zeroValue221
 t148:=Tryz.underlying223
 a148:=Tryz.isAgg223
 z148:=Tryz.sizeOf223
 v148:=Tryz.zeroValue223 }
open Go.RowKit Go.Lib in
theorem Tryz.bits_Mul (x y:Nat)(hx:x<18446744073709551616)(hy:y<18446744073709551616)(w:World) :
 Calls Tryz.prog 94 #[.int .u64 x,.int .u64 y] w fun e w'=>e=.returned (.tuple #[.int .u64 ((x*y/18446744073709551616:Nat):Int),.int .u64 ((x*y%18446744073709551616:Nat):Int)])/\w'=w:=Any.bits_Mul Tryz.lays212 x y hx hy w
def Tryz.lays105_ren:Go.Shelf.Ren:=⟨fun|105=>223|212=>94|99=>251|165=>252|166=>222|170=>253|169=>224|263=>153|264=>154|206=>237|240=>250|241=>267|276=>266|277=>272|n=>n,fun|9=>9|3=>3|4=>4|20=>20|0=>0|46=>152|109=>157|5=>5|72=>278|76=>279|51=>217|146=>221|53=>219|148=>223|70=>276|37=>131|75=>248|127=>302|164=>313|80=>41|n=>n,fun|n=>n⟩
theorem Tryz.lays105:Go.Proofs.Lays.n105 Tryz.prog Tryz.lays105_ren:={
 mixed:=by kernel_rfl
 f99:=Tryz.func251.trans (congrArg some (by kernel_rfl))
 f105:=Tryz.func223.trans (congrArg some (by kernel_rfl))
 f165:=Tryz.func252.trans (congrArg some (by kernel_rfl))
 f166:=Tryz.func222.trans (congrArg some (by kernel_rfl))
 f169:=Tryz.func224.trans (congrArg some (by kernel_rfl))
 f170:=Tryz.func253.trans (congrArg some (by kernel_rfl))
 f206:=Tryz.func237.trans (congrArg some (by kernel_rfl))
 f212:=Tryz.func94.trans (congrArg some (by kernel_rfl))
 f240:=Tryz.func250.trans (congrArg some (by kernel_rfl))
 f241:=Tryz.func267.trans (congrArg some (by kernel_rfl))
 f263:=Tryz.func153.trans (congrArg some (by kernel_rfl))
 f264:=Tryz.func154.trans (congrArg some (by kernel_rfl))
 f276:=Tryz.func266.trans (congrArg some (by kernel_rfl))
 f277:=Tryz.func272.trans (congrArg some (by kernel_rfl))
 t0:=Tryz.underlying0
 a0:=Tryz.isAgg0
 z0:=Tryz.sizeOf0
 v0:=Tryz.zeroValue0
 t3:=Tryz.underlying3
 a3:=Tryz.isAgg3
 z3:=Tryz.sizeOf3
 v3:=Tryz.zeroValue3
 t4:=Tryz.underlying4
 a4:=Tryz.isAgg4
 z4:=Tryz.sizeOf4
 v4:=Tryz.zeroValue4
 t5:=Tryz.underlying5
 a5:=Tryz.isAgg5
 z5:=Tryz.sizeOf5
 v5:=Tryz.zeroValue5
 t9:=Tryz.underlying9
 a9:=Tryz.isAgg9
 z9:=Tryz.sizeOf9
 v9:=Tryz.zeroValue9
 t20:=Tryz.underlying20
 a20:=Tryz.isAgg20
 z20:=Tryz.sizeOf20
 v20:=Tryz.zeroValue20
 t37:=Tryz.underlying131
 a37:=Tryz.isAgg131
 z37:=Tryz.sizeOf131
 v37:=Tryz.zeroValue131
 t46:=Tryz.underlying152
 a46:=Tryz.isAgg152
 z46:=Tryz.sizeOf152
 v46:=Tryz.zeroValue152
 t51:=Tryz.underlying217
 a51:=Tryz.isAgg217
 z51:=Tryz.sizeOf217
 v51:=Tryz.zeroValue217
 t53:=Tryz.underlying219
 a53:=Tryz.isAgg219
 z53:=Tryz.sizeOf219
 v53:=Tryz.zeroValue219
 t70:=Tryz.underlying276
 a70:=Tryz.isAgg276
 z70:=Tryz.sizeOf276
 v70:=Tryz.zeroValue276
 t72:=Tryz.underlying278
 a72:=Tryz.isAgg278
 z72:=Tryz.sizeOf278
 v72:=Tryz.zeroValue278
 t75:=Tryz.underlying248
 a75:=Tryz.isAgg248
 z75:=Tryz.sizeOf248
 v75:=Tryz.zeroValue248
 t76:=Tryz.underlying279
 a76:=Tryz.isAgg279
 z76:=Tryz.sizeOf279
 v76:=Tryz.zeroValue279
 t109:=Tryz.underlying157
 a109:=Tryz.isAgg157
 z109:=Tryz.sizeOf157
 v109:=Tryz.zeroValue157
 t127:=Tryz.underlying302
 a127:=Tryz.isAgg302
 z127:=Tryz.sizeOf302
 v127:=Tryz.zeroValue302
 t146:=Tryz.underlying221
 a146:=Tryz.isAgg221
 z146:=Tryz.sizeOf221
 v146:=Tryz.zeroValue221
 t148:=Tryz.underlying223
 a148:=Tryz.isAgg223
 z148:=Tryz.sizeOf223
 v148:=Tryz.zeroValue223
 t164:=Tryz.underlying313
 a164:=Tryz.isAgg313
 z164:=Tryz.sizeOf313
 v164:=Tryz.zeroValue313 }
theorem Tryz.Builder_Extra_105:Builder.Extra Tryz.prog Tryz.lays105_ren:={
 sizeBuilder:=by kernel_rfl
 liesBuilder:=by kernel_rfl
 t5:=Tryz.underlying5
 a5:=Tryz.isAgg5
 z5:=Tryz.sizeOf5
 v5:=Tryz.zeroValue5
 infoByte:=by kernel_rfl
 cellsByte:=by kernel_rfl
 sizeByte:=by kernel_rfl
 neB5:=by decide }
open Go.RowKit Go.Lib in
theorem Tryz.strings_Repeat (s:ByteArray)(c:Nat)(w:World)(hc:c<=9223372036854775807)(hlen:s.size*c<=140737488355328) :
 Calls Tryz.prog 223 #[.string s,.int .i64 c] w fun e w'=>e=.returned (.string ⟨(Lib.repeatL s.data.toList c).toArray⟩)/\Below w.heap.size w w':=Any.strings_Repeat Tryz.lays105 Tryz.Builder_Extra_105 s c w hc hlen
end Go.Proofs
end
namespace Go.Proofs.YtnjlhkppabfebaaGreatDoor
open Go.Proofs.Tryz
open Go.RowKit
end Go.Proofs.YtnjlhkppabfebaaGreatDoor
