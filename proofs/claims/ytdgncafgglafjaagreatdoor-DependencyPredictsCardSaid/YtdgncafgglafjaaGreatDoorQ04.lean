/- Parts of one proof, joined by a program. -/
import Derived.Test.YtdgncafgglafjaaGreatDoorQ03
import Derived.Lib.ItoaNum
set_option linter.defProp false
set_option linter.unusedVariables false
set_option linter.unusedSimpArgs false
set_option linter.unusedSectionVars false
set_option maxHeartbeats 16000000
namespace Go.Proofs.YtdgncafgglafjaaGreatDoor
open Go.Proofs.Tryz
open Go.RowKit
def A9q:=@List.set_append_left
def A9r:=@List.replicate_succ'
def A43:=@Int.lt_or_le
def A7c:=@Int.neg_tdiv
def A5c:=@Int.natCast_ediv
def A9j:=@Nat.mul_div_le
def A8a:=@Int.natAbs_tdiv
def A65:=@List.range_succ
def A9k:=@List.getElem?_reverse
def A4s:=@Nat.div_div_eq_div_mul
def A60:=@Nat.pow_pos
def A7d:=@Nat.pow_lt_pow_iff_right
def A2g:=@List.getElem?_set
def A0n:=@List.getElem?_map
def Bap:=@Nat.div_one
def A8f:=@List.reverse_append
def A8b:=@UInt8.toNat_inj
section
variable {a:Option Addr}{c n:Nat}{l:List Nat}{u:PH}{x x':Value}{y z:Int}
def C9 (u:PH)(v:Value)(z:Int):Prop:=∃ a n c,v=.agg #[.bool (decide (z<0)),.slice a n c]/\Cs u (.slice a n c) (Aa z.natAbs)
def C9.mono {u u':PH}{v:Value}{z:Int}(h:C9 u v z)(hl:PH.le u u'):C9 u' v z:=by
 obtain⟨a,n,c,h1,h2⟩:=h;exact⟨a,n,c,h1,h2.mono hl⟩
def C9.opn {v:Value}(h:C9 u v z):∃ b a n c,v=.agg #[.bool b,.slice a n c]/\b=decide (z<0)/\Cs u (.slice a n c) (Aa z.natAbs):=by
 obtain⟨a,n,c,rfl,d⟩:=h;exact⟨_,a,n,c,rfl,rfl,d⟩
def Ap3 (d:Low l):0<Bz l l.length↔0<val l:=by
 have:=Jw d;rw[<-C5 (n:=val l),this,A0q];have:=K6 l l.length;omega
def Ae9 (b:Bool)(h:Cs u (.slice a n c) l)(d:Low l):C9 u (.agg #[.bool (b&&decide (0<Bz l l.length)),.slice a (Bz l l.length) c]) (Cc b (val l)):=by
 refine⟨a,Bz l l.length,c,?_,?_⟩
 ·rw[Yb,decide_eq_decide.2 (Ap3 d)]
 rw[Ko,Jw d];exact h.take _ (K6 _ _)
def Ec {b:Bool}(h:Cs u (.slice a n c) l)(C:Low l)(D:l.length<=1000000000000000000) :
 Fn0 prog 141 [.agg #[.bool b,.slice a n c]] u fun v d=>C9 d v (Cc b (val l)):=by
 intro w g;refine Calls.mono (Arn (b:=b) h D w g) fun e w' A=>?_;obtain⟨v,d,E,j,m,f,t,rfl⟩:=A;exact⟨_,d,E,j,m,f,t,Ae9 b (h.mono (f.le g.pu)) C⟩
def Tt (h:C9 u x z)(g:nl z.natAbs<=1000000000000000000):Fn0 prog 140 [x] u fun v t=>C9 t v (-z):=by
 obtain⟨b,a,n,c,rfl,e,f⟩:=h.opn;obtain⟨rfl,A⟩:=f.len;have j:(Aa z.natAbs).length<=1000000000000000000:=g;refine Fn0.o func140 ?_;have hp:=C5 (n:=z.natAbs);have fin:∀ b':Bool,b'=decide (-z<0)->C9 u (.agg #[.bool b',.slice a (Aa z.natAbs).length c]) (-z):=fun b' d=>⟨a,(Aa z.natAbs).length,c,by rw[d],by rw[A26];exact f⟩;cases b
 ·have m:0<=z:=by simpa using e.symm
  by_cases h0:0<(Aa z.natAbs).length
  ·exact G.gT ((Aa z.natAbs).length:Int) 0<|G.r (.agg #[.bool true,.slice a (Aa z.natAbs).length c]) ⟨rfl,fin true (by have:=hp.1 h0;simp;omega)⟩
  exact G.gF ((Aa z.natAbs).length:Int) 0<|G.r (.agg #[.bool false,.slice a (Aa z.natAbs).length c]) ⟨rfl,fin false (by have:¬ 0<z.natAbs:=fun h=>h0 (hp.2 h);simp;omega)⟩
 have m:z<0:=by simpa using e.symm
 exact G.r (.agg #[.bool false,.slice a (Aa z.natAbs).length c]) ⟨rfl,fin false gV⟩
def Fb {m n:Nat}(h:n<=m):(Aa n).length<=(Aa m).length:=Cl h
def Aju (Y:C9 u x y)(R:C9 u x' z)(Z:nl y.natAbs<=1000000000000)(sz:nl z.natAbs<=1000000000000):Fn0 prog 69 [x,x'] u fun v u'=>C9 u' v (y+z):=by
 obtain⟨b,a,n,c,rfl,O,P⟩:=Y.opn;obtain⟨b',a',n',c',rfl,m,f⟩:=R.opn;have L:(Aa y.natAbs).length<=1000000000000:=Z;have N:(Aa z.natAbs).length<=1000000000000:=sz;refine Fn0.o func69<|G.eqB b b' kV ?_;by_cases e:b=b'
 ·have j:=Afo (y:=y) (z:=z) (by rw[<-O,<-m,e]);rw[<-O]at j;rw[show (b==b')=true by rw[e];simp];refine G.c call142 (Apz P f (Ar _) (Ar _) L N) ?_;rintro T u1 J ⟨l,g,E,F,W⟩;obtain⟨U,V,rfl,H⟩:=g.opn;refine G.c call141 (Ec (b:=b) g E oV) ?_;intro X Q l2 d;rw[F,Al,Al,j]at d;obtain⟨C,A,K,D,rfl,_,_⟩:=d.opn;exact G.r (.agg #[.bool C,.slice A K D]) ⟨rfl,d⟩
 rw[show (b==b')=false by simpa using e];have I:decide (y<0)≠decide (z<0):=by rw[<-O,<-m];exact e
 refine G.c call143 (K1 P f oV oV) ?_;rintro T u1 J rfl;by_cases t:z.natAbs<=y.natAbs
 ·have j:=Aad (y:=y) (z:=z) I t;rw[<-O]at j;refine G.hT' (sgn ((y.natAbs:Int)-z.natAbs)) 0 (by rcases A4b ((y.natAbs:Int)-z.natAbs) 0 with h|h|h<;>first|omega|(rw[h];decide)|(rw[Db h];decide)) ?_
  refine G.c call144 (K7 (P.mono J) (f.mono J) (Ar _) (Ar _) L (Fb t) (by rw[Al,Al];exact t)) ?_;rintro T Q l2 ⟨l,g,E,F,W⟩;obtain⟨U,V,rfl,H⟩:=g.opn;refine G.c call141 (Ec (b:=b) g E oV) ?_;intro X Q l2 d;rw[F,Al,Al,j]at d;obtain⟨C,A,K,D,rfl,_,_⟩:=d.opn;exact G.r (.agg #[.bool C,.slice A K D]) ⟨rfl,d⟩
 have j:=Aaz (y:=y) (z:=z) I oV;rw[<-m]at j;refine G.hF' (sgn ((y.natAbs:Int)-z.natAbs)) 0 (by rw[En oV];decide)<|G.c call144 (K7 (f.mono J) (P.mono J) (Ar _) (Ar _) N (Fb oV) (by rw[Al,Al];omega)) ?_;rintro T Q l2 ⟨l,g,E,F,W⟩;obtain⟨U,V,rfl,H⟩:=g.opn;refine G.c call141 (Ec (b:=b') g E oV) ?_;intro X Q l2 d;rw[F,Al,Al,j]at d;obtain⟨C,A,K,D,rfl,_,_⟩:=d.opn;exact G.r (.agg #[.bool C,.slice A K D]) ⟨rfl,d⟩
def Aul (g:C9 u x y)(d:C9 u x' z)(E:nl y.natAbs<=1000000000000)(sz:nl z.natAbs<=1000000000000):Fn0 prog 204 [x,x'] u fun v F=>C9 F v (y-z):=by
 obtain⟨b,a,n,c,rfl,N,O⟩:=g.opn;obtain⟨b',H,Q,K,rfl,t,A⟩:=d.opn;refine Fn0.o func204<|G.c call140 (Tt d oV) ?_;intro V T C f;obtain⟨J,I,R,L,rfl,_,_⟩:=f.opn;refine G.c call69 (Aju (g.mono C) f E (by rw[A26];exact sz)) ?_;intro W U P e;rw[<-A69]at e;obtain⟨j,h,D,m,rfl,_,_⟩:=e.opn;exact G.r (.agg #[.bool j,.slice h D m]) ⟨rfl,e⟩
end
section
variable {j:Nat}{l:List Nat}
def Lt (l:List Nat)(j n:Nat):(Ai l).set j (.int .i64 n)=Ai (l.set j n):=by simp[Ai,A10]
def Zt (h:j<l.length):(Ai l)[j]?=some (.int .i64 (l.getD j 0:Nat)):=by simp[Ai,h]
def Tz (n:Nat):List.replicate n (Value.int .i64 0)=Ai (List.replicate n 0):=by simp[Ai]
def Adm (h:j<l.length)(r:List Nat):(l++r).getD j 0=l.getD j 0:=by
 rw[A0j,A0j,A09 h]
def Ala (h:j<l.length)(r:List Nat)(d:Nat):(l++r).set j d=l.set j d++r:=A9q _ _ h
def Ap9 (h:j<l.length)(h0:l.getD j 0=0):l.set j 0=l:=by
 refine A4m fun i=>?_;by_cases d:j=i
 ·subst d;rw[A2q h,A0i h];rw[A0j,A0i h]at h0;simpa using h0.symm
 rw[A5t d]
def Ay8 (la lb:List Nat)(i k:Nat)(o:List Nat)(c:Nat):Prop:=(k<=lb.length/\Gg la lb i k o c)\/(k=lb.length+1/\c=0/\Gg la lb (i+1) 0 o 0)
def F2 {u:PH}{x x':Value}{y z:Int}(hx:C9 u x y)(a4:C9 u x' z)(sy:nl y.natAbs<=1000000000000)(sz:nl z.natAbs<=1000000000000):Fn0 prog 68 [x,x'] u fun v u'=>C9 u' v (y*z):=by
 obtain⟨b,a,n,c,rfl,hb,hi⟩:=hx.opn;obtain⟨b',a',n',Y,rfl,a0,T⟩:=a4.opn;obtain⟨rfl,_⟩:=hi.len;obtain⟨rfl,_⟩:=T.len;have U:=Ar y.natAbs;have L:=Ar z.natAbs;have ab:(Aa y.natAbs).length<=1000000000000:=sy;have ac:(Aa z.natAbs).length<=1000000000000:=sz;have K:∀ l:List Nat,Low l->val l=y.natAbs*z.natAbs->Cc (!(b==b')) (val l)=y*z:=by
  intro l _ hv;rw[hv,hb,a0];exact Ae1 y z
 have a2:=Al y.natAbs;have a3:=Al z.natAbs;rw[<-a2,<-a3]at K;generalize Aa y.natAbs=la at *
 generalize Aa z.natAbs=lb at *
 refine Fn0.o func68<|G.p la.length lb.length (la.length+lb.length:Nat)<|G.p (la.length+lb.length:Nat) 1 (la.length+lb.length+1:Nat)<|G.make 3 1 8 (.int .i64 0) (la.length+lb.length+1) kV rfl rfl oV oV oV ?_;intro vo m1 m _;rw[Tz]at m;obtain⟨E,I,rfl⟩:=m.ptr (by intro e;have:=congrArg List.length e;rw[Am,A2z,A3q]at this;omega);rw[Am,A2z]at m⊢;rw[show List.replicate (la.length+lb.length+1) 0=List.replicate (la.length+lb.length) 0++[0] from A9r ..]at m;refine G.l (ι:=Nat×List Nat) (fun i=>[(2,.p 0 0),(3,.p 1 0),(4,.p 2 0),(5,sV (some ⟨E,0,none⟩) (la.length+lb.length+1) I),(6,iV i.1)])
  (fun _=>[(0,⟨82,[bV b,sV a la.length c]⟩),(1,⟨82,[bV b',sV a' lb.length Y]⟩),(2,⟨82,[bV false,sV none 0 0]⟩)])
  (fun i _ R=>i.1<=la.length/\Gg la lb i.1 0 i.2 0/\Af PH.mt R (.slice (some ⟨E,0,none⟩) (la.length+lb.length+1) I) 3 1 (Ai (i.2++[0]))) (fun i=>la.length-i.1) (0,List.replicate (la.length+lb.length) 0)
  ⟨mV,Gg.start _ _,m⟩ ?_
 clear m m1;rintro J ⟨i,o⟩ hJ u' R Q ⟨hk,d,m⟩;simp only at hk d m hJ;by_cases H:i<la.length
 ·refine G.lT i la.length ?_;obtain⟨X,oa,rfl,ea⟩:=(hi.mono Q).at (j:=i) H;have a6:=U.getD i;refine G.l (ι:=Nat×List Nat×Nat) (fun q=>[(2,.p 0 0),(3,.p 1 0),(4,.p 2 0),(5,sV (some ⟨E,0,none⟩) (la.length+lb.length+1) I),(6,iV i),(7,iV q.2.2),(8,iV q.1)])
   (fun _=>[(0,⟨82,[bV b,sV (some ⟨X,oa,none⟩) la.length c]⟩),(1,⟨82,[bV b',sV a' lb.length Y]⟩),(2,⟨82,[bV false,sV none 0 0]⟩)])
   (fun q _ R=>Ay8 la lb i q.1 q.2.1 q.2.2/\Af PH.mt R (.slice (some ⟨E,0,none⟩) (la.length+lb.length+1) I) 3 1 (Ai (q.2.1++[0]))) (fun q=>lb.length+1-q.1) (0,o,0)
   ⟨.inl ⟨mV,d⟩,m⟩ ?_
  clear m d R;rintro J2 ⟨k,o,g⟩ O u2 R C ⟨D,m⟩;simp only at D m O;have a1:o.length=la.length+lb.length:=by rcases D with ⟨_,h⟩|⟨_,_,h⟩<;>exact h.len
  have a9:g<1000000000:=by rcases D with ⟨_,h⟩|⟨_,h,_⟩;exact h.carry;omega
  have aa:=(show Low o by rcases D with ⟨_,h⟩|⟨_,_,h⟩<;>exact h.low).getD (i+k)
  by_cases P:k<lb.length
  ·have d:Gg la lb i k o g:=by rcases D with ⟨_,h⟩|⟨h,_⟩;exact h;omega
   obtain⟨bb,ob,rfl,eb⟩:=(T.mono (Q.trans C)).at (j:=k) P;have a7:=L.getD k;have A:i+k<(o++[0]).length:=gV;refine G.lT k lb.length<|G.p i k (i+k:Nat)<|G.a E 0 (la.length+lb.length+1) I (i+k) 1 oV<|G.lM none E (0+(i+k)*1) (.int .i64 ((o++[0]).getD (i+k) 0:Nat)) (m.el (Zt A)) ?_;rw[Adm oV];refine G.p g (o.getD (i+k) 0:Nat) ((g+o.getD (i+k) 0:Nat):Int)<|G.lT k lb.length<|G.a X oa la.length c i 1 H<|G.lU none X (oa+i*1) (.int .i64 (la.getD i 0:Nat)) (ea.mono C)<|G.a bb ob lb.length Y k 1 P<|G.lU none bb (ob+k*1) (.int .i64 (lb.getD k 0:Nat)) eb ?_;have hp:la.getD i 0*lb.getD k 0<=999999999*999999999:=A2p oV oV;refine G.mul (la.getD i 0:Nat) (lb.getD k 0:Nat) ((la.getD i 0*lb.getD k 0:Nat):Int) kV (A3x _ _).symm oV oV ?_;obtain⟨t,ht⟩:∃ t,t=o.getD (i+k) 0+la.getD i 0*lb.getD k 0+g:=⟨_,rfl⟩;refine G.p ((g+o.getD (i+k) 0:Nat):Int) ((la.getD i 0*lb.getD k 0:Nat):Int) (t:Int)<|G.p i k (i+k:Nat)<|G.rem (t:Int) 1000000000 ((t%1000000000:Nat):Int) kV oV oV oV oV<|G.a E 0 (la.length+lb.length+1) I (i+k) 1 oV<|G.storeA 1 PH.mt _ E (la.length+lb.length+1) I (i+k) (.int .i64 (t%1000000000:Nat)) kV m (by rw[Am];exact A) rfl rfl ?_;intro m2 F;rw[Lt,Ala oV]at F;exact G.quo (t:Int) 1000000000 ((t/1000000000:Nat):Int) kV oV oV oV oV<|G.i k<|G.b (O (k+1,o.set (i+k) (t%1000000000),t/1000000000) _ _ _ cV C ⟨.inl ⟨oV,d.step U L P H rfl rfl rfl ht⟩,F⟩ dV)
  refine G.lF k lb.length ?_;by_cases a8:0<g
  ·have d:Gg la lb i lb.length o g/\k=lb.length:=by
    rcases D with ⟨h1,h⟩|⟨_,h,_⟩
    ·obtain rfl:k=lb.length:=oV;exact⟨h,rfl⟩
    omega
   obtain⟨d,rfl⟩:=d;obtain⟨W,f⟩:=d.next H;have A:i+lb.length<(o++[0]).length:=gV;refine G.gT g 0<|G.p i lb.length (i+lb.length:Nat)<|G.a E 0 (la.length+lb.length+1) I (i+lb.length) 1 oV<|G.lM none E (0+(i+lb.length)*1) (.int .i64 ((o++[0]).getD (i+lb.length) 0:Nat)) (m.el (Zt A)) ?_;rw[Adm oV];refine G.p g (o.getD (i+lb.length) 0:Nat) (g:Int)<|G.lF lb.length lb.length<|G.p i lb.length (i+lb.length:Nat)<|G.rem (g:Int) 1000000000 (g:Int) kV oV oV oV oV<|G.a E 0 (la.length+lb.length+1) I (i+lb.length) 1 oV<|G.storeA 1 PH.mt _ E (la.length+lb.length+1) I (i+lb.length) (.int .i64 g) kV m (by rw[Am];exact A) rfl rfl ?_;intro m2 F;rw[Lt,Ala oV]at F;exact G.quo (g:Int) 1000000000 0 kV oV oV oV oV<|G.p lb.length 1 (lb.length+1:Nat)<|G.b (O (lb.length+1,o.set (i+lb.length) g,0) _ _ _ cV C ⟨.inr ⟨rfl,rfl,f⟩,F⟩ dV)
  refine G.gF g 0 ?_;have d:Gg la lb (i+1) 0 o 0:=by
   rcases D with ⟨h1,h⟩|⟨_,_,h⟩
   ·obtain rfl:k=lb.length:=oV;obtain rfl:g=0:=oV;obtain⟨W,f⟩:=h.next H;rw[Ap9 oV W]at f;exact f
   exact h
  exact G.i i<|G.b (hJ (i+1,o) _ _ _ cV (Q.trans C) ⟨oV,d,m⟩ dV)
 obtain rfl:i=la.length:=oV;refine G.lF la.length la.length<|G.give PH.mt (Ai (o++[0])) _ kV m (fun _=>.inl rfl) ?_;intro u1 l1 hL;have N:Low (o++[0]):=d.low.append (Low.cons oV Low.nil);have V:val (o++[0])=val la*val lb:=by rw[Jy,A29,A2w];exact d.done
 have a1:=d.len;refine G.neB b b' kV<|G.c call141 (Ec (b:=!(b==b')) hL N gV) ?_;intro v2 u2 l2 Z;rw[K _ N V]at Z;obtain⟨b5,a5,n5,c5,rfl,_,_⟩:=Z.opn;exact G.r (.agg #[.bool b5,.slice a5 n5 c5]) ⟨rfl,Z⟩
end
section
variable {R Y c k n:Nat}{a ys:List Nat}
structure Iw (a:List Nat)(n k:Nat)(ys:List Nat)(c:Nat):Prop where
 len:ys.length=k
 low:Low ys
 carry:c<1000000000
 sum:val ys+1000000000^k*c=val (a.take k)*n
def Iw.start (a:List Nat)(n:Nat):Iw a n 0 [] 0:=⟨rfl,Low.nil,oV,by simp[val]⟩
def Iw.step {n k c t:Nat}(h:Iw a n k ys c)(d:Low a)(j:n<1000000000)(e:t=c+a.getD k 0*n):Iw a n (k+1) (ys++[t%1000000000]) (t/1000000000):=by
 have f:=d.getD k;have g:=h.carry;have hp:a.getD k 0*n<=999999999*999999999:=A2p oV oV;refine⟨by simp[h.len],h.low.append (Low.cons oV Low.nil),oV,?_⟩;rw[Jy,A5,h.len,A1w,A21,Hz,A1m];have:=h.sum;rw[e,A1z,<-A21,this,A1o]
def Iw.over (h:Iw a n k ys c)(e:¬ k<a.length)(d:c=0):val ys=val a*n:=by
 have:=h.sum;rw[A00 oV,d]at this;simpa using this
structure T4 (lx:List Nat)(Y k:Nat)(qs:List Nat)(R:Nat):Prop where
 len:qs.length=lx.length
 low:Low qs
 quo:val (qs.drop k)=val (lx.drop k)/Y
 rest:R=val (lx.drop k)%Y
def T4.start (d:List Nat)(Y:Nat):T4 d Y d.length (List.replicate d.length 0) 0:=by
 refine⟨mV,Low.zeros _,?_,?_⟩
 ·rw[A11 mV,A11 oV];simp[val]
 rw[A11 oV];simp[val]
def Zm {R Y x:Nat}(d:R<Y)(e:x<1000000000):(x+1000000000*R)/Y<1000000000:=by
 rw[A2o oV];have:1000000000*(R+1)<=1000000000*Y:=A19 _ d;omega
def T4.step {d qs:List Nat}(h:T4 d Y (k+1) qs R)(A:Low d)(u:k<d.length)(f:0<Y) :
 T4 d Y k (qs.set k ((d.getD k 0+1000000000*R)/Y)) ((d.getD k 0+1000000000*R)%Y):=by
 have t:R<Y:=by rw[h.rest];exact A2l _ f
 have z:=h.len;have g:(qs.set k ((d.getD k 0+1000000000*R)/Y)).drop k=(d.getD k 0+1000000000*R)/Y::qs.drop (k+1):=by
  rw[Cq _ k gV,A49 oV]
  congr 1
  rw[A0j,A2q oV];rfl
 have j:=Cq d k u;have e:val (d.drop k)=d.getD k 0+1000000000*R+Y*(1000000000*(val (d.drop (k+1))/Y)):=by
  rw[j];simp only[val];have:=A2u (val (d.drop (k+1))) Y;rw[<-h.rest]at this;have m:1000000000*val (d.drop (k+1))=1000000000*(Y*(val (d.drop (k+1))/Y))+1000000000*R:=by rw[<-A1z,this]
  rw[m,Nat.mul_left_comm Y 1000000000];omega
 refine⟨by simpa using z,h.low.set _ (Zm t (A.getD k)),?_,?_⟩
 ·rw[g,e,Nat.add_mul_div_left _ _ f];simp only[val];rw[h.quo]
 rw[e,Nat.add_mul_mod_self_left]
def Auh {Y R y1 p m d j:Nat}(C:Y=y1*p+m)(z:m<p)(e:0<y1)(A:R=d*p+j)(u:j<p):d/(y1+1)<=R/Y/\R/Y<=d/y1:=by
 have hp:0<p:=oV;have f:0<Y:=by have:=A5e e hp;omega
 constructor
 ·rw[A4h f];have g:Y<=(y1+1)*p:=by rw[A1m];omega
  have h:d/(y1+1)*(y1+1)<=d:=A63 _ _
  calc d/(y1+1)*Y<=d/(y1+1)*((y1+1)*p):=A19 _ g
   _=d/(y1+1)*(y1+1)*p:=by rw[A1o]
   _<=d*p:=A1x _ h
   _<=R:=oV
 rw[A4h e];have g:R/Y*Y<=R:=A63 _ _;have h:R/Y*(y1*p)<=R/Y*Y:=A19 _ oV;have t:R/Y*y1*p<(d+1)*p:=by rw[A1o,A1m];omega
 exact Nat.le_of_lt_succ (A6v t)
def Ayn (R n:Nat)(t:0<n)(m:(Aa R).length<=n+1)(j:n<=(Aa R).length) :
 ∃ g,R=((Aa R).getD (n-1) 0+(Aa R).getD n 0*1000000000)*1000000000^(n-1)+g/\g<1000000000^(n-1):=by
 refine⟨val ((Aa R).take (n-1)),?_,?_⟩
 ·have h:=Gi (Aa R) (n-1) oV;rw[Al]at h;have f:=Cq (Aa R) (n-1) oV;rw[show n-1+1=n by omega]at f;rcases A16 n (Aa R).length with e|e
  ·have d:=Cq (Aa R) n e;rw[A11 (show (Aa R).length<=n+1 by omega)]at d;rw[f,d]at h;simp only[val,A29,A2w]at h;rw[A1r _ (1000000000^(n-1)),A1r ((Aa R).getD n 0)];omega
  rw[A11 e]at f;rw[f]at h;simp only[val]at h;have h0:(Aa R).getD n 0=0:=by rw[A0j,A1k e];rfl
  rw[h0,A1r _ (1000000000^(n-1))];simp only[A42,A29,A2w]at h⊢;omega
 have:=Ku ((Ar R).take (n-1));rwa[A0q,A3o oV]at this
end
section
variable {n:Nat}{u:PH}
def C9.lim {b:Bool}{a:Option Addr}{n c k:Nat}(h:C9 u (.agg #[.bool b,.slice a n c]) (Cc false k)):Cs u (.slice a n c) (Aa k):=by
 obtain⟨_,_,_,d,e⟩:=h;simp only[Value.agg.injEq,A5b,A3b,Value.bool.injEq,Value.slice.injEq,and_true]at d;obtain⟨_,rfl,rfl,rfl⟩:=d;rw[Ko]at e;exact e
def Iz {V:Value}{la:List Nat}(P:Cs u V la)(D:Low la)(sa:la.length<=1000000000000)(hn:n<1000000000) :
 Fn0 prog 205 [V,.int .i64 n] u fun v T=>Cs T v (Aa (val la*n)):=by
 obtain⟨a,O,rfl,a3⟩:=P.opn;refine Fn0.o func205<|G.l (ι:=Nat×List Nat×Nat×Value) (fun i=>[(0,sV a la.length O),(1,iV n),(5,.v i.2.2.2),(6,iV i.2.2.1),(7,iV i.1)]) (fun _=>[])
  (fun i _ Q=>(i.1<=la.length+1/\(la.length+1<=i.1->i.2.2.1=0))/\Af PH.mt Q i.2.2.2 3 1 (Ai i.2.1)/\Iw la n i.1 i.2.1 i.2.2.1) (fun i=>la.length+2-i.1) (0,[],0,.slice none 0 0)
  ⟨⟨mV,fun _=>rfl⟩,Af.nil _ _ _,Iw.start _ _⟩ ?_
 rintro J ⟨k,ys,c,A⟩ K T Q m ⟨hk,z,d⟩;simp only at hk z d K;have a2:=d.carry;have a0:=D.getD k;have hp:la.getD k 0*n<=999999999*999999999:=A2p oV oV;obtain⟨X,Z,rfl⟩:=z.shape;obtain⟨A,C⟩:∃ A,A=Value.slice X (Ai ys).length Z:=⟨_,rfl⟩;rw[<-C]at z⊢;obtain⟨t,L⟩:∃ t,t=c+la.getD k 0*n:=⟨_,rfl⟩;have f:=d.step D hn L;by_cases h:k<la.length
 ·refine G.lT k la.length<|G.lT k la.length ?_;obtain⟨N,R,rfl,ea⟩:=(P.mono m).at (j:=k) h;refine G.a N R la.length O k 1 h<|G.lU none N (R+k*1) (.int .i64 (la.getD k 0:Nat)) ea<|G.mul (la.getD k 0:Nat) (n:Int) ((la.getD k 0*n:Nat):Int) kV (A3x _ _).symm oV oV<|G.p c (la.getD k 0*n:Nat) t<|G.rem (t:Int) 1000000000 ((t%1000000000:Nat):Int) kV oV oV oV oV<|G.B 3 1 8 (.int .i64 0) [.int .i64 (t%1000000000:Nat)] (A4 [t%1000000000]) ?_;intro g U E H;refine G.append 3 1 8 (.int .i64 0) PH.mt (Ai ys) [.int .i64 (t%1000000000:Nat)] A g 0 1 1 kV rfl rfl oV z H (A4 [t%1000000000]) rfl oV (by rw[Am,d.len];omega) (by rw[Am,d.len];omega) ?_;intro F m2 e;rw[D4]at e;exact G.quo (t:Int) 1000000000 ((t/1000000000:Nat):Int) kV oV oV oV oV<|G.i k<|G.b (K (k+1,ys++[t%1000000000],t/1000000000,F) _ _ _ cV (m.trans E) ⟨⟨oV,dV⟩,e,f⟩ dV)
 have hz:=I1 h;rw[hz,A42,A2w]at L;subst L;refine G.lF k la.length ?_;by_cases a1:0<t
 ·refine G.gT t 0<|G.lF k la.length<|G.rem (t:Int) 1000000000 ((t%1000000000:Nat):Int) kV oV oV oV oV<|G.B 3 1 8 (.int .i64 0) [.int .i64 (t%1000000000:Nat)] (A4 [t%1000000000]) ?_;intro g U E H;refine G.append 3 1 8 (.int .i64 0) PH.mt (Ai ys) [.int .i64 (t%1000000000:Nat)] A g 0 1 1 kV rfl rfl oV z H (A4 [t%1000000000]) rfl oV (by rw[Am,d.len];omega) (by rw[Am,d.len];omega) ?_;intro F m2 e;rw[D4]at e;exact G.quo (t:Int) 1000000000 ((t/1000000000:Nat):Int) kV oV oV oV oV<|G.i k<|G.b (K (k+1,ys++[t%1000000000],t/1000000000,F) _ _ _ cV (m.trans E) ⟨⟨oV,dV⟩,e,f⟩ dV)
 refine G.gF t 0<|G.give PH.mt (Ai ys) A kV z (fun _=>.inl rfl) ?_;intro U E hL;have a4:=d.len;subst C;refine G.c call141 (Ec (b:=false) hL d.low oV) ?_;intro F u2 l2 I;rw[d.over h oV]at I;obtain⟨b5,W,n5,Y,rfl,_,_⟩:=I.opn;exact G.r (.slice W n5 Y) ⟨rfl,I.lim⟩
end
section
variable {R Y hi lo mid:Nat}{z:Int}
def N1 (m n:Nat):((m:Int)).tdiv n=((m/n:Nat):Int):=rfl
def Ra (m n:Nat):((m:Int)).tmod n=((m%n:Nat):Int):=rfl
theorem Anl (y z:Int):Cc (!(decide (y<0)==decide (z<0))) (y.natAbs/z.natAbs)=y.tdiv z:=by
 unfold Cc;rcases A43 y 0 with d|d<;>rcases A43 z 0 with e|e
 ·rw[decide_eq_true d,decide_eq_true e];obtain⟨m,rfl⟩:∃ m:Nat,y = -(m:Int):=⟨y.natAbs,oV⟩;obtain⟨n,rfl⟩:∃ n:Nat,z = -(n:Int):=⟨z.natAbs,oV⟩;rw[A7c,Int.tdiv_neg,Ban,N1,A26,A26];rfl
 ·rw[decide_eq_true d,decide_eq_false (show ¬ z<0 by omega)];obtain⟨m,rfl⟩:∃ m:Nat,y = -(m:Int):=⟨y.natAbs,oV⟩;obtain⟨n,rfl⟩:∃ n:Nat,z=(n:Int):=⟨z.natAbs,oV⟩;rw[A7c,N1,A26];rfl
 ·rw[decide_eq_false (show ¬ y<0 by omega),decide_eq_true e];obtain⟨m,rfl⟩:∃ m:Nat,y=(m:Int):=⟨y.natAbs,oV⟩;obtain⟨n,rfl⟩:∃ n:Nat,z = -(n:Int):=⟨z.natAbs,oV⟩;rw[Int.tdiv_neg,N1,A26];rfl
 grind
theorem Am9 (y z:Int):Cc (decide (y<0)) (y.natAbs%z.natAbs)=y.tmod z:=by
 unfold Cc;have e:∀ m:Nat,((m:Int)).tmod z=((m%z.natAbs:Nat):Int):=by
  intro m;rcases A43 z 0 with f|f
  ·obtain⟨n,rfl⟩:∃ n:Nat,z = -(n:Int):=⟨z.natAbs,oV⟩;rw[Int.tmod_neg,Ra,A26];rfl
  grind
 rcases A43 y 0 with d|d
 ·rw[decide_eq_true d];obtain⟨m,rfl⟩:∃ m:Nat,y = -(m:Int):=⟨y.natAbs,oV⟩;rw[Int.neg_tmod,e,A26];rfl
 grind
def Awa {n:Nat}(h:n≠0):0<(Aa n).getD ((Aa n).length-1) 0:=by
 have d:=Jw (Ar n);rw[Al]at d;have e:=congrArg List.length d;rw[A0q]at e;have hp:0<(Aa n).length:=C5.2 oV;have g:=K6 (Aa n) (Aa n).length;have f:=Ua (Aa n) (Aa n).length oV;rw[show Bz (Aa n) (Aa n).length=(Aa n).length by omega]at f;omega
def Aix (h:z<=0):sgn z<=0:=by
 rcases A4b z 0 with d|d|d
 ·rw[En d];decide
 ·rw[d];decide
 omega
def Awv (h:0<=z):0<=sgn z:=by
 rcases A4b z 0 with d|d|d
 ·omega
 ·rw[d];decide
 rw[Db d];decide
def Asn (g:Nat)(u:PH)(x:Nat)(e:He u g 0 1 [.int .i64 x]):Ab u (.slice (some ⟨g,0,none⟩) 1 1) 1 (Ai [x]):=⟨_,1,rfl,by simp[Ai],fun j v d=>⟨g,0,rfl,e j v d⟩⟩
def Ag0 (x:Nat)(l:List Nat):Ai [x]++Ai l=Ai (x::l):=rfl
structure Yy (Y R lo hi:Nat):Prop where
 a:lo<=R/Y
 b:R/Y<=hi
 c:hi<=999999999
def Yy.up (h:Yy Y R lo hi)(d:0<Y)(e:Y*mid<=R):Yy Y R mid hi:=⟨by rw[A4h d,A1r];exact e,h.b,h.c⟩
def Yy.down (h:Yy Y R lo hi)(d:0<Y)(f:¬ Y*mid<=R)(h0:0<mid)(e:mid<=hi):Yy Y R lo (mid-1):=by
 have:R/Y<mid:=by rw[A2o d,A1r];omega
 exact⟨h.a,oV,by have:=h.c;omega⟩
def R5 {u:PH}{x x':Value}{y z:Int}(hx:C9 u x y)(b9:C9 u x' z)(sy:nl y.natAbs<=100000000000)(sz:nl z.natAbs<=100000000000)(bs:z≠0) :
 Fn0 prog 139 [x,x'] u fun v u'=>∃ a b,v=.tuple #[a,b]/\C9 u' a (y.tdiv z)/\C9 u' b (y.tmod z):=by
 obtain⟨b,a,n,c,rfl,hb,hi⟩:=hx.opn;obtain⟨b',a',n',c',rfl,an,ay⟩:=b9.opn;obtain⟨rfl,_⟩:=hi.len;obtain⟨rfl,_⟩:=ay.len;have b0:=Ar y.natAbs;have bt:(Aa y.natAbs).length<=100000000000:=sy;have bu:(Aa z.natAbs).length<=100000000000:=sz;have O:0<z.natAbs:=oV;have bf:0<(Aa z.natAbs).length:=C5.2 O;have ae:Cc (!(b==b')) (y.natAbs/z.natAbs)=y.tdiv z:=by rw[hb,an];exact Anl y z
 have af:Cc b (y.natAbs%z.natAbs)=y.tmod z:=by rw[hb];exact Am9 y z
 have bi:=Al y.natAbs;rw[<-bi]at ae af;generalize Aa y.natAbs=lx at *
 have hY:=Al z.natAbs;have Z:=Ar z.natAbs;have aa:=Awa (n:=z.natAbs) oV;generalize z.natAbs=Y at *
 clear hb an hx b9 sy sz;refine Fn0.o func139<|G.make 3 1 8 (.int .i64 0) lx.length kV rfl rfl oV oV oV ?_;rintro vq m1 D ⟨aq,rfl⟩;rw[Tz]at D;refine G.sub (lx.length:Int) 1 ((lx.length:Int)-1) kV rfl oV oV<|G.l (ι:=Int×Nat×List Nat×Value) (fun i=>[(2,.p 0 0),(3,.p 1 0),(4,.p 2 0),(5,.p 3 0),(6,.v i.2.2.2),(7,sV (some aq) lx.length lx.length),(8,iV i.1)])
  (fun _=>[(0,⟨82,[bV b,sV a lx.length c]⟩),(1,⟨82,[bV b',sV a' (Aa Y).length c']⟩),(2,⟨82,[bV false,sV none 0 0]⟩),(3,⟨82,[bV false,sV none 0 0]⟩)])
  (fun i u' m'=>(-1<=i.1/\i.1<lx.length)/\T4 lx Y (i.1+1).toNat i.2.2.1 i.2.1/\Cs u' i.2.2.2 (Aa i.2.1)/\Af PH.mt m' (.slice (some aq) lx.length lx.length) 3 1 (Ai i.2.2.1)) (fun i=>(i.1+1).toNat) ((lx.length:Int)-1,0,List.replicate lx.length 0,.slice none 0 0)
  ⟨⟨gV,gV⟩,by rw[show (((lx.length:Int)-1)+1).toNat=lx.length by omega];exact T4.start _ _,by rw[Bn];exact Ab.nil _ _ _ _,D⟩ ?_
 clear D m1;rintro J ⟨zi,R,qs,vr⟩ hJ u' m' aj ⟨bk,C,hR,D⟩;simp only at bk C hR D hJ;obtain⟨ar,cr,rfl,bq⟩:=hR.opn;by_cases b5:0<=zi
 ·obtain⟨k,rfl⟩:=A58 b5;rw[show ((k:Int)+1).toNat=k+1 by omega]at C;have hk:k<lx.length:=oV;have am:R<Y:=by rw[C.rest];exact A2l _ O
  have bb:=b0.getD k;have m:=C.step b0 hk O;have ap:=Zm am bb;obtain⟨H,bn,e⟩:=D.ptr (by intro e;have:=congrArg List.length e;rw[Am,C.len,A3q]at this;omega);simp only[Value.slice.injEq,A0u]at e;obtain⟨rfl,_,_⟩:=e;obtain⟨ba,oa,rfl,ea⟩:=(hi.mono aj).at (j:=k) hk;refine G.hT k 0<|G.a ba oa lx.length c k 1 hk<|G.lU none ba (oa+k*1) (.int .i64 (lx.getD k 0:Nat)) ea<|G.B 3 1 8 (.int .i64 0) [.int .i64 (lx.getD k 0:Nat)] (A4 [lx.getD k 0]) ?_;intro g u1 l1 e1;have ai:(Aa R).length<=(Aa Y).length:=Fb oV;refine G.appendV 3 1 8 (.int .i64 0) (Ai [lx.getD k 0]) (Ai (Aa R)) (some ⟨g,0,none⟩) 1 ar (Aa R).length cr kV oV (Asn g u1 _ e1) (A4 _) (hR.mono l1) (A4 _) (by rw[Am,Am];simp;omega) (by rw[Am,Am];simp;omega) ?_;intro v2 u2 l2 h2;rw[Ag0]at h2;obtain⟨a2,c2,rfl,bo⟩:=Cs.opn h2;refine G.c call141 (Ec (b:=false) (l:=lx.getD k 0::Aa R) h2 (Low.cons bb (Ar R)) gV) ?_;intro v3 u3 l3 h3;rw[show val (lx.getD k 0::Aa R)=lx.getD k 0+1000000000*R by simp only[val];rw[Al]]at h3;generalize lx.getD k 0+1000000000*R=d at *
  obtain⟨b3,a3,n3,c3,rfl,_,_⟩:=h3.opn;have ah:=h3.lim;obtain⟨rfl,bp⟩:=ah.len;have ac:(Aa d).length<=(Aa Y).length+1:=by
   have h5:=ap;rw[A2o O]at h5;refine A8 ?_;have I:=C2 Y;rw[A1w];have h7:1000000000*Y<1000000000*1000000000^nl Y:=Nat.mul_lt_mul_of_pos_left I oV;have h8:(1000000000:Nat)^(Aa Y).length=1000000000^nl Y:=rfl;rw[h8,A1r (1000000000^nl Y)];omega
  have az:=ay.mono (((aj.trans l1).trans l2).trans l3);refine G.c call143 (K1 ah az (by show (Aa d).length<=_;omega) (by show (Aa Y).length<=_;omega)) ?_;rintro v4 u4 l4 rfl;have N:=ah.mono l4;have P:=az.mono l4;have U:PH.le u u4:=(((aj.trans l1).trans l2).trans l3).trans l4;by_cases be:Y<=d
  ·refine G.hT' (sgn ((d:Int)-Y)) 0 (Awv oV) ?_;have ak:(Aa Y).length<=(Aa d).length:=Fb be;obtain⟨rl,bg,bh⟩:=Ayn d (Aa Y).length bf ac ak;obtain⟨br,a0,rfl,er⟩:=N.at (j:=(Aa Y).length-1) oV;have bl:=(Ar d).getD ((Aa Y).length-1);have bm:=(Ar d).getD (Aa Y).length;have ag:=Z.getD ((Aa Y).length-1);obtain⟨Q,oy,rfl,ey⟩:=P.at (j:=(Aa Y).length-1) oV;have a1:Y=(Aa Y).getD ((Aa Y).length-1) 0*1000000000^((Aa Y).length-1)+val ((Aa Y).take ((Aa Y).length-1)):=by
    have h5:=Gi (Aa Y) ((Aa Y).length-1) oV;rw[hY,Cq _ _ (show (Aa Y).length-1<(Aa Y).length by omega),A11 oV]at h5;simp only[val,A29,A2w]at h5;rw[A1r];omega
   have bj:val ((Aa Y).take ((Aa Y).length-1))<1000000000^((Aa Y).length-1):=by
    have:=Ku (Z.take ((Aa Y).length-1));rwa[A0q,A3o oV]at this
   have au:=Auh a1 bj aa bg bh;refine G.s ((Aa Y).length:Int) 1 (((Aa Y).length-1:Nat):Int)<|G.a br a0 (Aa d).length c3 ((Aa Y).length-1) 1 oV<|G.lU none br (a0+((Aa Y).length-1)*1) (.int .i64 ((Aa d).getD ((Aa Y).length-1) 0:Nat)) er ?_;obtain⟨t,al⟩:∃ t,t=(Aa d).getD ((Aa Y).length-1) 0+(Aa d).getD (Aa Y).length 0*1000000000:=⟨_,rfl⟩;rw[<-al]at au;have b4:∀ k:Nat,((min (999999999:Int) (k:Int)))=((min 999999999 k:Nat):Int):=fun k=>oV;obtain⟨h1,W⟩:∃ h1,h1=min 999999999 (t/(Aa Y).getD ((Aa Y).length-1) 0):=⟨_,rfl⟩;obtain⟨l0,X⟩:∃ l0,l0=min h1 (t/((Aa Y).getD ((Aa Y).length-1) 0+1)):=⟨_,rfl⟩;have A:Yy Y d l0 h1:=⟨oV,oV,oV⟩;by_cases a5:(Aa Y).length<(Aa d).length
   ·refine G.gT ((Aa d).length:Int) ((Aa Y).length:Int) ?_;obtain⟨_,_,e9,bd⟩:=N.at (j:=(Aa Y).length) a5;simp only[A0u,Addr.mk.injEq,and_true]at e9;obtain⟨rfl,rfl⟩:=e9;refine G.a br a0 (Aa d).length c3 (Aa Y).length 1 a5<|G.lU none br (a0+(Aa Y).length*1) (.int .i64 ((Aa d).getD (Aa Y).length 0:Nat)) bd<|G.mul ((Aa d).getD (Aa Y).length 0:Nat) 1000000000 (((Aa d).getD (Aa Y).length 0*1000000000:Nat):Int) kV oV oV oV<|G.p ((Aa d).getD ((Aa Y).length-1) 0:Nat) (((Aa d).getD (Aa Y).length 0*1000000000:Nat):Int) (t:Int) ?_;obtain⟨y1,ab⟩:∃ y1,y1=(Aa Y).getD ((Aa Y).length-1) 0:=⟨_,rfl⟩;rw[<-ab]at ey W X aa ag;refine G.s ((Aa Y).length:Int) 1 (((Aa Y).length-1:Nat):Int)<|G.a Q oy (Aa Y).length c' ((Aa Y).length-1) 1 oV<|G.lU none Q (oy+((Aa Y).length-1)*1) (.int .i64 (y1:Nat)) ey<|G.quo (t:Int) (y1:Int) ((t/y1:Nat):Int) kV oV oV oV (A5c _ _).symm<|G.minI [3,3] 999999999 ((t/y1:Nat):Int) (h1:Int) kV (by rw[b4,W])<|G.s ((Aa Y).length:Int) 1 (((Aa Y).length-1:Nat):Int)<|G.a Q oy (Aa Y).length c' ((Aa Y).length-1) 1 oV<|G.lU none Q (oy+((Aa Y).length-1)*1) (.int .i64 (y1:Nat)) ey<|G.i y1<|G.quo (t:Int) ((y1+1:Nat):Int) ((t/(y1+1):Nat):Int) kV oV oV oV (A5c _ _).symm<|G.minI [3,3] (h1:Int) ((t/(y1+1):Nat):Int) (l0:Int) kV (by rw[X];omega)<|G.l (ι:=Nat×Nat) (fun i=>[(2,.p 0 0),(3,.p 1 0),(4,.p 2 0),(5,.p 3 0),(6,sV (some ⟨br,a0,none⟩) (Aa d).length c3),(7,sV (some ⟨H,0,none⟩) lx.length lx.length),(8,iV k),(9,iV i.1),(10,iV i.2)])
     (fun _=>[(0,⟨82,[bV b,sV (some ⟨ba,oa,none⟩) lx.length c]⟩),(1,⟨82,[bV b',sV (some ⟨Q,oy,none⟩) (Aa Y).length c']⟩),(2,⟨82,[bV false,sV none 0 0]⟩),(3,⟨82,[bV false,sV none 0 0]⟩)])
     (fun i _ m'=>Yy Y d i.1 i.2/\Af PH.mt m' (.slice (some ⟨H,0,none⟩) lx.length lx.length) 3 1 (Ai qs)) (fun i=>i.2-i.1) (l0,h1) ⟨A,D⟩ ?_
    clear A D X W;rintro J2 ⟨lo,h⟩ L u5 m' f ⟨T,D⟩;simp only at T D L;have av:=T.a;have aw:=T.b;have ax:=T.c;by_cases b1:lo<h
    ·refine G.lT lo h<|G.p lo h (lo+h:Nat)<|G.p (lo+h:Nat) 1 (lo+h+1:Nat) ?_;obtain⟨mid,ad⟩:∃ mid,mid=(lo+h+1)/2:=⟨_,rfl⟩;refine G.quo ((lo+h+1:Nat):Int) 2 (mid:Int) kV oV oV oV oV<|G.c call205 (Iz (n:=mid) (P.mono f) Z oV oV) ?_;intro v6 u6 V I;rw[hY]at I;obtain⟨a6,c6,rfl,a4⟩:=I.opn;have b7:(Aa (Y*mid)).length<=200000000002:=by
      have h5:=Gp Y mid;have h7:nl mid<=1:=A8 oV;have h8:nl Y=(Aa Y).length:=rfl;have h9:nl (Y*mid)=(Aa (Y*mid)).length:=rfl;omega
     refine G.c call143 (K1 I ((N.mono f).mono V) (by show (Aa (Y*mid)).length<=_;omega) (by show (Aa d).length<=_;omega)) ?_;rintro v7 u7 l7 rfl;by_cases E:Y*mid<=d
     ·exact G.kT' (sgn (((Y*mid:Nat):Int)-d)) 0 (Aix oV)<|G.b (L (mid,h) _ _ _ cV ((f.trans V).trans l7) ⟨T.up O E,D⟩ dV)
     exact G.kF' (sgn (((Y*mid:Nat):Int)-d)) 0 (by rw[Db oV];decide)<|G.s mid 1 (mid-1:Nat)<|G.b (L (lo,mid-1) _ _ _ cV ((f.trans V).trans l7) ⟨T.down O E oV oV,D⟩ dV)
    obtain rfl:lo=d / Y:=oV;refine G.lF (d / Y:Nat) h<|G.a H 0 lx.length lx.length k 1 hk<|G.storeA 1 PH.mt _ H lx.length lx.length k (.int .i64 (d / Y:Nat)) kV D (by rw[Am,C.len];exact hk) rfl rfl ?_;intro m2 K;rw[Lt]at K;by_cases b6:0<d / Y
    ·refine G.gT (d / Y:Nat) 0<|G.c call205 (Iz (n:=d / Y) (P.mono f) Z oV oV) ?_;intro v6 u6 V I;rw[hY]at I;have F:Y*(d / Y)<=d:=A9j d Y;obtain⟨a6,c6,rfl,a4⟩:=I.opn;refine G.c call144 (K7 ((N.mono f).mono V) I (Ar _) (Ar _) oV (Fb F) (by rw[Al,Al];exact F)) ?_;rintro v7 u7 l7 ⟨l,g1,g2,g3,g4⟩;obtain⟨a7,c7,rfl,ao⟩:=g1.opn;refine G.c call141 (Ec (b:=false) g1 g2 oV) ?_;intro v8 u8 l8 h8;rw[g3,Al,Al,show d - Y*(d / Y)=d % Y by have:=A2u d Y;omega]at h8;obtain⟨b8,a8,n8,c8,rfl,_,_⟩:=h8.opn;refine G.sub (k:Int) 1 ((k:Int)-1) kV rfl oV oV<|G.b (hJ ((k:Int)-1,d % Y,qs.set k (d / Y),.slice a8 n8 c8) _ _ _ cV ((((U.trans f).trans V).trans l7).trans l8) ⟨⟨dV,dV⟩,?_,h8.lim,K⟩ dV);rw[show (((k:Int)-1)+1).toNat=k by omega];exact m
    refine G.gF (d / Y:Nat) 0<|G.sub (k:Int) 1 ((k:Int)-1) kV rfl oV oV ?_;have a9:d % Y=d:=by have:=A2u d Y;rw[show d / Y=0 by omega,A29]at this;omega
    rw[a9]at m;refine G.b (hJ ((k:Int)-1,d,qs.set k (d / Y),.slice (some ⟨br,a0,none⟩) (Aa d).length c3) _ _ _ cV (U.trans f) ⟨⟨dV,dV⟩,?_,N.mono f,K⟩ dV);rw[show (((k:Int)-1)+1).toNat=k by omega];exact m
   refine G.gF ((Aa d).length:Int) ((Aa Y).length:Int) ?_;have h0:=I1 (l:=Aa d) (k:=(Aa Y).length) oV;rw[h0,A42,A2w]at al;rw[<-al];obtain⟨y1,ab⟩:∃ y1,y1=(Aa Y).getD ((Aa Y).length-1) 0:=⟨_,rfl⟩;rw[<-ab]at ey W X aa ag;refine G.s ((Aa Y).length:Int) 1 (((Aa Y).length-1:Nat):Int)<|G.a Q oy (Aa Y).length c' ((Aa Y).length-1) 1 oV<|G.lU none Q (oy+((Aa Y).length-1)*1) (.int .i64 (y1:Nat)) ey<|G.quo (t:Int) (y1:Int) ((t/y1:Nat):Int) kV oV oV oV (A5c _ _).symm<|G.minI [3,3] 999999999 ((t/y1:Nat):Int) (h1:Int) kV (by rw[b4,W])<|G.s ((Aa Y).length:Int) 1 (((Aa Y).length-1:Nat):Int)<|G.a Q oy (Aa Y).length c' ((Aa Y).length-1) 1 oV<|G.lU none Q (oy+((Aa Y).length-1)*1) (.int .i64 (y1:Nat)) ey<|G.i y1<|G.quo (t:Int) ((y1+1:Nat):Int) ((t/(y1+1):Nat):Int) kV oV oV oV (A5c _ _).symm<|G.minI [3,3] (h1:Int) ((t/(y1+1):Nat):Int) (l0:Int) kV (by rw[X];omega)<|G.l (ι:=Nat×Nat) (fun i=>[(2,.p 0 0),(3,.p 1 0),(4,.p 2 0),(5,.p 3 0),(6,sV (some ⟨br,a0,none⟩) (Aa d).length c3),(7,sV (some ⟨H,0,none⟩) lx.length lx.length),(8,iV k),(9,iV i.1),(10,iV i.2)])
    (fun _=>[(0,⟨82,[bV b,sV (some ⟨ba,oa,none⟩) lx.length c]⟩),(1,⟨82,[bV b',sV (some ⟨Q,oy,none⟩) (Aa Y).length c']⟩),(2,⟨82,[bV false,sV none 0 0]⟩),(3,⟨82,[bV false,sV none 0 0]⟩)])
    (fun i _ m'=>Yy Y d i.1 i.2/\Af PH.mt m' (.slice (some ⟨H,0,none⟩) lx.length lx.length) 3 1 (Ai qs)) (fun i=>i.2-i.1) (l0,h1) ⟨A,D⟩ ?_
   clear A D X W;rintro J2 ⟨lo,h⟩ L u5 m' f ⟨T,D⟩;simp only at T D L;have av:=T.a;have aw:=T.b;have ax:=T.c;by_cases b1:lo<h
   ·refine G.lT lo h<|G.p lo h (lo+h:Nat)<|G.p (lo+h:Nat) 1 (lo+h+1:Nat) ?_;obtain⟨mid,ad⟩:∃ mid,mid=(lo+h+1)/2:=⟨_,rfl⟩;refine G.quo ((lo+h+1:Nat):Int) 2 (mid:Int) kV oV oV oV oV<|G.c call205 (Iz (n:=mid) (P.mono f) Z oV oV) ?_;intro v6 u6 V I;rw[hY]at I;obtain⟨a6,c6,rfl,a4⟩:=I.opn;have b7:(Aa (Y*mid)).length<=200000000002:=by
     have h5:=Gp Y mid;have h7:nl mid<=1:=A8 oV;have h8:nl Y=(Aa Y).length:=rfl;have h9:nl (Y*mid)=(Aa (Y*mid)).length:=rfl;omega
    refine G.c call143 (K1 I ((N.mono f).mono V) (by show (Aa (Y*mid)).length<=_;omega) (by show (Aa d).length<=_;omega)) ?_;rintro v7 u7 l7 rfl;by_cases E:Y*mid<=d
    ·exact G.kT' (sgn (((Y*mid:Nat):Int)-d)) 0 (Aix oV)<|G.b (L (mid,h) _ _ _ cV ((f.trans V).trans l7) ⟨T.up O E,D⟩ dV)
    exact G.kF' (sgn (((Y*mid:Nat):Int)-d)) 0 (by rw[Db oV];decide)<|G.s mid 1 (mid-1:Nat)<|G.b (L (lo,mid-1) _ _ _ cV ((f.trans V).trans l7) ⟨T.down O E oV oV,D⟩ dV)
   obtain rfl:lo=d / Y:=oV;refine G.lF (d / Y:Nat) h<|G.a H 0 lx.length lx.length k 1 hk<|G.storeA 1 PH.mt _ H lx.length lx.length k (.int .i64 (d / Y:Nat)) kV D (by rw[Am,C.len];exact hk) rfl rfl ?_;intro m2 K;rw[Lt]at K;by_cases b6:0<d / Y
   ·refine G.gT (d / Y:Nat) 0<|G.c call205 (Iz (n:=d / Y) (P.mono f) Z oV oV) ?_;intro v6 u6 V I;rw[hY]at I;have F:Y*(d / Y)<=d:=A9j d Y;obtain⟨a6,c6,rfl,a4⟩:=I.opn;refine G.c call144 (K7 ((N.mono f).mono V) I (Ar _) (Ar _) oV (Fb F) (by rw[Al,Al];exact F)) ?_;rintro v7 u7 l7 ⟨l,g1,g2,g3,g4⟩;obtain⟨a7,c7,rfl,ao⟩:=g1.opn;refine G.c call141 (Ec (b:=false) g1 g2 oV) ?_;intro v8 u8 l8 h8;rw[g3,Al,Al,show d - Y*(d / Y)=d % Y by have:=A2u d Y;omega]at h8;obtain⟨b8,a8,n8,c8,rfl,_,_⟩:=h8.opn;refine G.sub (k:Int) 1 ((k:Int)-1) kV rfl oV oV<|G.b (hJ ((k:Int)-1,d % Y,qs.set k (d / Y),.slice a8 n8 c8) _ _ _ cV ((((U.trans f).trans V).trans l7).trans l8) ⟨⟨dV,dV⟩,?_,h8.lim,K⟩ dV);rw[show (((k:Int)-1)+1).toNat=k by omega];exact m
   refine G.gF (d / Y:Nat) 0<|G.sub (k:Int) 1 ((k:Int)-1) kV rfl oV oV ?_;have a9:d % Y=d:=by have:=A2u d Y;rw[show d / Y=0 by omega,A29]at this;omega
   rw[a9]at m;refine G.b (hJ ((k:Int)-1,d,qs.set k (d / Y),.slice (some ⟨br,a0,none⟩) (Aa d).length c3) _ _ _ cV (U.trans f) ⟨⟨dV,dV⟩,?_,N.mono f,K⟩ dV);rw[show (((k:Int)-1)+1).toNat=k by omega];exact m
  refine G.hF' (sgn ((d:Int)-Y)) 0 (by rw[En oV];decide) ?_;obtain⟨l0,X⟩:∃ l0:Nat,l0=0:=⟨_,rfl⟩;obtain⟨h1,W⟩:∃ h1:Nat,h1=0:=⟨_,rfl⟩;have A:Yy Y d 0 0:=by
   have:d / Y=0:=A4i oV;exact⟨oV,oV,oV⟩
  refine G.l (ι:=Nat×Nat) (fun i=>[(2,.p 0 0),(3,.p 1 0),(4,.p 2 0),(5,.p 3 0),(6,sV a3 (Aa d).length c3),(7,sV (some ⟨H,0,none⟩) lx.length lx.length),(8,iV k),(9,iV i.1),(10,iV i.2)])
   (fun _=>[(0,⟨82,[bV b,sV (some ⟨ba,oa,none⟩) lx.length c]⟩),(1,⟨82,[bV b',sV a' (Aa Y).length c']⟩),(2,⟨82,[bV false,sV none 0 0]⟩),(3,⟨82,[bV false,sV none 0 0]⟩)])
   (fun i _ m'=>Yy Y d i.1 i.2/\Af PH.mt m' (.slice (some ⟨H,0,none⟩) lx.length lx.length) 3 1 (Ai qs)) (fun i=>i.2-i.1) (0,0) ⟨A,D⟩ ?_
  clear A D X W;rintro J2 ⟨lo,h⟩ L u5 m' f ⟨T,D⟩;simp only at T D L;have av:=T.a;have aw:=T.b;have ax:=T.c;by_cases b1:lo<h
  ·refine G.lT lo h<|G.p lo h (lo+h:Nat)<|G.p (lo+h:Nat) 1 (lo+h+1:Nat) ?_;obtain⟨mid,ad⟩:∃ mid,mid=(lo+h+1)/2:=⟨_,rfl⟩;refine G.quo ((lo+h+1:Nat):Int) 2 (mid:Int) kV oV oV oV oV<|G.c call205 (Iz (n:=mid) (P.mono f) Z oV oV) ?_;intro v6 u6 V I;rw[hY]at I;obtain⟨a6,c6,rfl,a4⟩:=I.opn;have b7:(Aa (Y*mid)).length<=200000000002:=by
    have h5:=Gp Y mid;have h7:nl mid<=1:=A8 oV;have h8:nl Y=(Aa Y).length:=rfl;have h9:nl (Y*mid)=(Aa (Y*mid)).length:=rfl;omega
   refine G.c call143 (K1 I ((N.mono f).mono V) (by show (Aa (Y*mid)).length<=_;omega) (by show (Aa d).length<=_;omega)) ?_;rintro v7 u7 l7 rfl;by_cases E:Y*mid<=d
   ·exact G.kT' (sgn (((Y*mid:Nat):Int)-d)) 0 (Aix oV)<|G.b (L (mid,h) _ _ _ cV ((f.trans V).trans l7) ⟨T.up O E,D⟩ dV)
   exact G.kF' (sgn (((Y*mid:Nat):Int)-d)) 0 (by rw[Db oV];decide)<|G.s mid 1 (mid-1:Nat)<|G.b (L (lo,mid-1) _ _ _ cV ((f.trans V).trans l7) ⟨T.down O E oV oV,D⟩ dV)
  obtain rfl:lo=d / Y:=oV;refine G.lF (d / Y:Nat) h<|G.a H 0 lx.length lx.length k 1 hk<|G.storeA 1 PH.mt _ H lx.length lx.length k (.int .i64 (d / Y:Nat)) kV D (by rw[Am,C.len];exact hk) rfl rfl ?_;intro m2 K;rw[Lt]at K;by_cases b6:0<d / Y
  ·refine G.gT (d / Y:Nat) 0<|G.c call205 (Iz (n:=d / Y) (P.mono f) Z oV oV) ?_;intro v6 u6 V I;rw[hY]at I;have F:Y*(d / Y)<=d:=A9j d Y;obtain⟨a6,c6,rfl,a4⟩:=I.opn;refine G.c call144 (K7 ((N.mono f).mono V) I (Ar _) (Ar _) oV (Fb F) (by rw[Al,Al];exact F)) ?_;rintro v7 u7 l7 ⟨l,g1,g2,g3,g4⟩;obtain⟨a7,c7,rfl,ao⟩:=g1.opn;refine G.c call141 (Ec (b:=false) g1 g2 oV) ?_;intro v8 u8 l8 h8;rw[g3,Al,Al,show d - Y*(d / Y)=d % Y by have:=A2u d Y;omega]at h8;obtain⟨b8,a8,n8,c8,rfl,_,_⟩:=h8.opn;refine G.sub (k:Int) 1 ((k:Int)-1) kV rfl oV oV<|G.b (hJ ((k:Int)-1,d % Y,qs.set k (d / Y),.slice a8 n8 c8) _ _ _ cV ((((U.trans f).trans V).trans l7).trans l8) ⟨⟨dV,dV⟩,?_,h8.lim,K⟩ dV);rw[show (((k:Int)-1)+1).toNat=k by omega];exact m
  refine G.gF (d / Y:Nat) 0<|G.sub (k:Int) 1 ((k:Int)-1) kV rfl oV oV ?_;have a9:d % Y=d:=by have:=A2u d Y;rw[show d / Y=0 by omega,A29]at this;omega
  rw[a9]at m;refine G.b (hJ ((k:Int)-1,d,qs.set k (d / Y),.slice a3 (Aa d).length c3) _ _ _ cV (U.trans f) ⟨⟨dV,dV⟩,?_,N.mono f,K⟩ dV);rw[show (((k:Int)-1)+1).toNat=k by omega];exact m
 obtain rfl:zi = -1:=oV;refine G.hF (-1) 0<|G.give PH.mt (Ai qs) _ kV D (fun _=>.inl rfl) ?_;intro u1 l1 hL;have C:T4 lx Y 0 qs R:=C;have hq:=C.quo;have hr:=C.rest;rw[A4v,A4v]at hq;rw[A4v]at hr;have am:R<Y:=by rw[hr];exact A2l _ O
 have ai:(Aa R).length<=(Aa Y).length:=Fb oV;refine G.neB b b' kV<|G.c call141 (Ec (b:=!(b==b')) hL C.low (by rw[C.len];omega)) ?_;intro v2 u2 l2 h2;rw[hq,ae]at h2;obtain⟨b2,a2,n2,c2,rfl,_,_⟩:=h2.opn;refine G.c call141 (Ec (b:=b) (hR.mono (l1.trans l2)) (Ar R) oV) ?_;intro v3 u3 l3 h3;rw[Al,hr,af]at h3;obtain⟨b3,a3,n3,c3,rfl,_,_⟩:=h3.opn;exact G.r (.tuple #[.agg #[.bool b2,.slice a2 n2 c2],.agg #[.bool b3,.slice a3 n3 c3]]) ⟨rfl,_,_,rfl,h2.mono l3,h3⟩
end
section
variable {k n:Nat}{y z:Int}{ys:List Nat}
section rules
variable {P:Program} [A6 P] {fn:Func} {Post:Ca} {st:List KI×S} {u m:PH}
def Att {x y z:Int}(j:-9223372036854775807<=x)(f:x<=9223372036854775807)(t:0<y)(g:x.tdiv y=z):-9223372036854775808<=z/\z<=9223372036854775807:=by
 rw[<-g];rcases A43 x 0 with h|h
 ·obtain⟨k,rfl⟩:∃ k:Int,x = -k:=⟨-x,oV⟩;rw[A7c,A3i oV];have d:=A79 (a:=k) (b:=y) oV oV;have e:=A80 (a:=k) y oV;omega
 rw[A3i h];have d:=A79 (a:=x) (b:=y) h oV;have e:=A80 (a:=x) y h;omega
def G.quoT (x y z:Int)(h:Ak P (adv P st)=.bin .quo (.int .i64 x) (.int .i64 y))(j:-9223372036854775807<=x)(d:x<=9223372036854775807)(A:0<y)(f:x.tdiv y=z)
 (k:G P fn Post (nx (adv P st) (.int .i64 z)) u m):G P fn Post st u m:=by
 refine G.bin _ h Dq (fun t w=>?_) k;have e:=Att j d A f;have g:¬ y=0:=oV
 simp[binOp,Op.intDiv,g,f,Fx e.1 e.2]
def G.remT (x y z:Int)(h:Ak P (adv P st)=.bin .rem (.int .i64 x) (.int .i64 y))(j:0<y)(g:x.tmod y=z)(d:-9223372036854775808<=z)(e:z<=9223372036854775807)
 (k:G P fn Post (nx (adv P st) (.int .i64 z)) u m):G P fn Post st u m:=by
 refine G.bin _ h Dq (fun t w=>?_) k;have f:¬ y=0:=oV
 simp[binOp,Op.intDiv,f,g,Fx d e]
end rules
def C9.nonneg {u:PH}{v:Value}(h:C9 u v (k:Int)):∃ a n c,v=.agg #[.bool false,.slice a n c]/\Cs u (.slice a n c) (Aa k):=by
 obtain⟨a,n,c,d,e⟩:=h;rw[decide_eq_false oV]at d;exact⟨a,n,c,d,e⟩
def Abv {u:PH}{x O:Value}(I:C9 u x y)(g:C9 u O z)(sy:nl y.natAbs<=100000000000)(sz:nl z.natAbs<=100000000000) :
 Fn0 prog 138 [x,O] u fun v f=>C9 f v (Nat.gcd y.natAbs z.natAbs:Nat):=by
 obtain⟨b,a,n,c,rfl,hb,e⟩:=I.opn;obtain⟨b',j,N,t,rfl,X,d⟩:=g.opn;refine Fn0.o func138<|G.l (ι:=(Nat×Nat)×(Option Addr×Nat×Nat)×(Option Addr×Nat×Nat)) (fun _=>[(2,.p 0 0),(3,.p 1 0),(4,.p 2 0)])
  (fun i=>[(0,⟨82,[bV false,sV i.2.1.1 i.2.1.2.1 i.2.1.2.2]⟩),(1,⟨82,[bV false,sV i.2.2.1 i.2.2.2.1 i.2.2.2.2]⟩),(2,⟨82,[bV false,sV none 0 0]⟩)])
  (fun i f L=>(Nat.gcd i.1.1 i.1.2=Nat.gcd y.natAbs z.natAbs/\nl i.1.1<=100000000000/\nl i.1.2<=100000000000)/\Cs f (.slice i.2.1.1 i.2.1.2.1 i.2.1.2.2) (Aa i.1.1)/\Cs f (.slice i.2.2.1 i.2.2.2.1 i.2.2.2.2) (Aa i.1.2)/\L=PH.mt) (fun i=>i.1.2)
  ((y.natAbs,z.natAbs),(a,n,c),(j,N,t)) ⟨⟨rfl,sy,sz⟩,e,d,rfl⟩ ?_
 clear e d I g;rintro J ⟨⟨p,q⟩,⟨a,n,c⟩,⟨j,N,t⟩⟩ H f L D ⟨⟨A,E,sq⟩,e,d,rfl⟩;simp only at A E sq e d H;obtain⟨rfl,_⟩:=e.len;obtain⟨rfl,_⟩:=d.len;have Z:(Aa p).length<=100000000000:=E;have a0:(Aa q).length<=100000000000:=sq;by_cases h0:0<(Aa q).length
 ·have C:=C5.1 h0;refine G.gT ((Aa q).length:Int) 0 ?_;have V:C9 f (.agg #[.bool false,.slice a (Aa p).length c]) (p:Int):=⟨_,_,_,by rw[decide_eq_false oV],e⟩;have W:C9 f (.agg #[.bool false,.slice j (Aa q).length t]) (q:Int):=⟨_,_,_,by rw[decide_eq_false oV],d⟩;refine G.c call139 (R5 V W E sq oV) ?_;rintro v1 u1 K ⟨va,vb,rfl,T,F⟩;rw[Ra]at F;obtain⟨b1,a1,n1,c1,rfl,_,_⟩:=T.opn;obtain⟨Q,Y,R,rfl,U⟩:=F.nonneg;exact G.b (H ((q,p%q),(j,(Aa q).length,t),(Q,Y,R)) _ _ _ cV (D.trans K) ⟨⟨by dsimp only;rw[A8z q,<-Nat.gcd_rec,A8z];exact A,sq,A0l (Cl (A67 (A2l _ C))) sq⟩,d.mono K,U,rfl⟩ (A2l _ C))
 have C:q=0:=by
  rcases A1p q with h|h
  ·exact h
  exact absurd (C5.2 h) h0
 subst C;refine G.gF ((Aa 0).length:Int) 0 ?_;rw[A8j]at A;exact G.r (.agg #[.bool false,.slice a (Aa p).length c]) ⟨rfl,by rw[<-A];exact⟨_,_,_,by rw[decide_eq_false oV],e⟩⟩
structure Ab0 (n k:Nat)(ys:List Nat):Prop where
 low:Low ys
 sum:n=val ys+1000000000^ys.length*k
 top:ys≠[]->k=0->0<ys.getD (ys.length-1) 0
def Ab0.start (n:Nat):Ab0 n n []:=⟨Low.nil,by simp[val],fun h=>absurd rfl h⟩
def Ab0.step (h:Ab0 n k ys)(d:k≠0):Ab0 n (k/1000000000) (ys++[k%1000000000]):=by
 refine⟨h.low.append (Low.cons oV Low.nil),?_,fun _ h0=>?_⟩
 ·have:=h.sum;rw[Jy,A03,A28,A1w,A21,Hz];exact this
 rw[A03,A28,A5h,A0j,A1d (A0s _)];simp;omega
def Aou {l:List Nat}(h:l = []\/0<l.getD (l.length-1) 0):Bz l l.length=l.length:=by
 rcases h with rfl|h
 ·rfl
 cases hl:l.length with
 |zero=>rfl
 |succ n=>rw[hl]at h;simp only[A5h]at h;simp only[Bz];rw[if_neg oV]
def Ab0.done (h:Ab0 n 0 ys):ys=Aa n:=by
 have e:=h.sum;rw[A29,A2w]at e;rw[e,Jw h.low,Aou,A05];by_cases d:ys = []
 ·exact .inl d
 exact .inr (h.top d rfl)
def Zg (b:Bool)(k:Nat):(Cc b k).tmod 1000000000=Cc b (k%1000000000):=by
 unfold Cc;cases b
 ·exact Ra k 1000000000
 show (-(k:Int)).tmod 1000000000 = -((k%1000000000:Nat):Int);rw[Int.neg_tmod];exact congrArg _ (Ra k 1000000000)
def Aa4 (b:Bool)(k:Nat):(Cc b k).tdiv 1000000000=Cc b (k/1000000000):=by
 unfold Cc;cases b
 ·exact N1 k 1000000000
 show (-(k:Int)).tdiv 1000000000 = -((k/1000000000:Nat):Int);rw[A7c];exact congrArg _ (N1 k 1000000000)
def Acw {u:PH}{n:Int}(h1:-9223372036854775807<=n)(h2:n<=9223372036854775807) :
 Fn0 prog 66 [.int .i64 n] u fun v E=>C9 E v n:=by
 refine Fn0.o func66 ?_;have key:∀ b:Bool,b=decide (n<0)->G prog Tryz.f66 ⟨fun v E H=>H=PH.mt/\C9 E v n,PH.mt⟩ (nx (adv prog (st0 Tryz.f66 [.int .i64 n])) (.bool b)) u PH.mt:=by
  intro b W;have Y:=Tb n;rw[<-W]at Y;refine G.loop (ι:=Nat×List Nat×(Option Addr×Nat×Nat)) (fun i=>[(2,.p 0 0),(3,.p 1003 0),(0,iV (Cc b i.1))])
   (fun i=>[(0,⟨82,[bV false,sV none 0 0]⟩),(1003,⟨82,[bV b,sV i.2.2.1 i.2.2.2.1 i.2.2.2.2]⟩)])
   (fun i E H=>(i.1<=9223372036854775807/\(i.1≠0->i.2.1.length<=3)/\i.2.1.length<=4/\i.1*1000000000^i.2.1.length<=9223372036854775807)/\Ab0 n.natAbs i.1 i.2.1/\Af PH.mt H (.slice i.2.2.1 i.2.2.2.1 i.2.2.2.2) 3 1 (Ai i.2.1)) (fun i=>i.1) (n.natAbs,[],(none,0,0)) kV (fun _=>kV) ⟨kV,by rw[Y];kernel_rfl,kV⟩ ⟨⟨dV,mV,mV,gV⟩,Ab0.start _,Af.nil _ _ _⟩ ?_
  rintro J ⟨k,ys,⟨a,I,c⟩⟩ O E H D ⟨⟨hk,A,T,C⟩,j,t⟩;simp only at hk A T C j t O;have U:=t.len;rw[Am]at U;have a1:-9223372036854775807<=Cc b k/\Cc b k<=9223372036854775807:=by unfold Cc;split<;>omega
  by_cases h0:k=0
  ·subst h0;refine G.nF' (Cc b 0) 0 (by unfold Cc;split<;>simp) ?_
   refine G.give PH.mt (Ai ys) _ kV t (fun _=>.inl rfl) ?_;intro Z F hL;refine G.r (.agg #[.bool b,.slice a I c]) ⟨rfl,a,I,c,by rw[W],?_⟩;rw[<-j.done];exact hL
  have X:=A h0;refine G.nT' (Cc b k) 0 (by unfold Cc;split<;>omega) ?_
  have f:(k/1000000000<=9223372036854775807/\(k/1000000000≠0->(ys++[k%1000000000]).length<=3)/\(ys++[k%1000000000]).length<=4/\k/1000000000*1000000000^(ys++[k%1000000000]).length<=9223372036854775807):=by
   have V:k/1000000000*1000000000^(ys.length+1)<=9223372036854775807:=by
    rw[A1w,A1r (1000000000^ys.length),<-A1o];exact A0l (A1x _ (A63 _ _)) C
   refine⟨oV,fun a0=>?_,gV,by simpa using V⟩;rcases A16 ys.length 3 with h|h
   ·simp;omega
   exfalso;have:ys.length=3:=oV;rw[this]at V;have h1:1*1000000000^(3+1)<=k/1000000000*1000000000^(3+1):=A1x _ oV;have h2:(9223372036854775807:Nat)<1*1000000000^(3+1):=fV;omega
  by_cases Q:b=true/\k%1000000000≠0
  ·obtain⟨R,hm⟩:=Q;refine G.remT (Cc b k) 1000000000 (-((k%1000000000:Nat):Int)) kV oV (by rw[Zg,R];rfl) oV oV<|G.lT (-((k%1000000000:Nat):Int)) 0<|G.neg (-((k%1000000000:Nat):Int)) ((k%1000000000:Nat):Int) kV oV oV oV<|G.B 3 1 8 (.int .i64 0) [.int .i64 (k%1000000000:Nat)] (A4 [k%1000000000]) ?_;intro g Z F N;refine G.append 3 1 8 (.int .i64 0) PH.mt (Ai ys) [.int .i64 (k%1000000000:Nat)] (.slice a I c) g 0 1 1 kV rfl rfl oV t N (A4 [k%1000000000]) rfl oV (by rw[Am];omega) (by rw[Am];omega) ?_;intro v2 m2 d;rw[D4]at d;obtain⟨K,L,rfl⟩:=d.shape;exact G.quoT (Cc b k) 1000000000 (Cc b (k/1000000000)) kV oV oV oV (Aa4 b k)<|G.b (O (k/1000000000,ys++[k%1000000000],(K,(Ai (ys++[k%1000000000])).length,L)) _ _ _ cV (D.trans F) ⟨f,j.step h0,d⟩ dV)
  refine G.remT (Cc b k) 1000000000 ((k%1000000000:Nat):Int) kV oV (by rw[Zg];unfold Cc;split<;>simp_all) oV oV ?_
  refine G.lF (k%1000000000:Nat) 0<|G.B 3 1 8 (.int .i64 0) [.int .i64 (k%1000000000:Nat)] (A4 [k%1000000000]) ?_;intro g Z F N;refine G.append 3 1 8 (.int .i64 0) PH.mt (Ai ys) [.int .i64 (k%1000000000:Nat)] (.slice a I c) g 0 1 1 kV rfl rfl oV t N (A4 [k%1000000000]) rfl oV (by rw[Am];omega) (by rw[Am];omega) ?_;intro v2 m2 d;rw[D4]at d;obtain⟨K,L,rfl⟩:=d.shape;exact G.quoT (Cc b k) 1000000000 (Cc b (k/1000000000)) kV oV oV oV (Aa4 b k)<|G.b (O (k/1000000000,ys++[k%1000000000],(K,(Ai (ys++[k%1000000000])).length,L)) _ _ _ cV (D.trans F) ⟨f,j.step h0,d⟩ dV)
 by_cases e:n<0
 ·exact G.lssT n 0 kV e (key true (by simpa using e))
 exact G.lssF n 0 kV e (key false (by simpa using e))
end
section
variable {k:Nat}{q r:Rat}{u:PH}{x x':Value}{y z:Int}
def QP (u:PH)(v:Value)(q:Rat):Prop :=
 ∃ a n c a' n' c',v=.agg #[.bool (decide (q.num<0)),.slice a n c,.bool false,.slice a' n' c']/\Cs u (.slice a n c) (Aa q.num.natAbs)/\Cs u (.slice a' n' c') (Aa q.den)
def QP.mono {u u':PH}{v:Value}{q:Rat}(h:QP u v q)(hl:PH.le u u'):QP u' v q:=by
 obtain⟨a,n,c,a',n',c',h1,h2,h3⟩:=h;exact⟨a,n,c,a',n',c',h1,h2.mono hl,h3.mono hl⟩
def QP.opn {v:Value}(h:QP u v q):∃ b a n c d f e,v=.agg #[.bool b,.slice a n c,.bool false,.slice d f e]/\b=decide (q.num<0)/\C9 u (.agg #[.bool b,.slice a n c]) q.num/\C9 u (.agg #[.bool false,.slice d f e]) (q.den:Int):=by
 obtain⟨a,n,c,d,f,e,rfl,g,j⟩:=h;exact⟨_,a,n,c,d,f,e,rfl,rfl,⟨a,n,c,rfl,g⟩,⟨d,f,e,by rw[decide_eq_false oV],j⟩⟩
def QP.mk {b b':Bool}{a d:Option Addr}{n c f e:Nat}(j:C9 u (.agg #[.bool b,.slice a n c]) y)(m:C9 u (.agg #[.bool b',.slice d f e]) z)(t:q.num=y)(A:(q.den:Int)=z) :
 QP u (.agg #[.bool b,.slice a n c,.bool b',.slice d f e]) q:=by
 obtain⟨_,_,_,g,C⟩:=j;obtain⟨_,_,_,h,D⟩:=m;subst t A;obtain⟨rfl,rfl,rfl,rfl⟩:=g;obtain⟨rfl,rfl,rfl,rfl⟩:=h;exact⟨_,_,_,_,_,_,rfl,C,D⟩
def Ag8 (y:Int)(z:Nat):y.tdiv (Nat.gcd y.natAbs z:Nat)=y/(Nat.gcd y.natAbs z:Nat):=by
 apply Int.tdiv_eq_ediv_of_dvd;exact Int.ofNat_dvd_left.2 (Nat.gcd_dvd_left _ _)
theorem Ok (e:0<z):(Rat.divInt y z).num=y.tdiv (Nat.gcd y.natAbs z.natAbs:Nat)/\((Rat.divInt y z).den:Int)=z.tdiv (Nat.gcd y.natAbs z.natAbs:Nat)/\0<z.tdiv (Nat.gcd y.natAbs z.natAbs:Nat):=by
 have h:=Xr (y:=y) e rfl;have d:((Rat.divInt y z).den:Int)=z.tdiv (Nat.gcd y.natAbs z.natAbs:Nat):=by grind
 refine⟨by rw[h.1,Ag8],d,?_⟩;rw[<-d];have:=(Rat.divInt y z).den_pos;omega
def Atp (d:z<0):(Rat.divInt y z).num = -(y.tdiv (Nat.gcd y.natAbs z.natAbs:Nat))/\((Rat.divInt y z).den:Int) = -(z.tdiv (Nat.gcd y.natAbs z.natAbs:Nat))/\z.tdiv (Nat.gcd y.natAbs z.natAbs:Nat)<0:=by
 have h:=Ok (y:=-y) (z:=-z) oV;rw[M5,A26,A26,A7c,A7c]at h;exact⟨h.1,h.2.1,oV⟩
def Vh {g k:Nat}(h:nl y.natAbs<=k):nl (y.tdiv g).natAbs<=k:=by
 refine A0l (Cl ?_) h;rw[A8a];exact A24 _ _
def Od (A:-9223372036854775807<=z)(C:z<=9223372036854775807):Fn0 prog 24 [.int .i64 z] u fun v F=>QP F v (z:Rat):=by
 refine Fn0.o func24<|G.c call66 (Acw A C) ?_;intro K I H d;obtain⟨h,f,D,m,rfl,_,_⟩:=d.opn;refine G.c call66 (Acw (n:=1) oV oV) ?_;intro L J l2 e;obtain⟨j,g,E,t,rfl,_,_⟩:=e.opn;exact G.r (.agg #[.bool h,.slice f D m,.bool j,.slice g E t]) ⟨rfl,QP.mk (d.mono l2) e rfl rfl⟩
def U4 (t:C9 u x y)(e:C9 u x' z)(F:nl y.natAbs<=100000000000)(sz:nl z.natAbs<=100000000000)(hz:z≠0) :
 Fn0 prog 67 [x,x'] u fun v u'=>QP u' v (Rat.divInt y z):=by
 obtain⟨b,a,n,c,rfl,_,_⟩:=t.opn;obtain⟨b',a',n',c',rfl,_,m⟩:=e.opn;obtain⟨rfl,_⟩:=m.len;have a0:0<(Aa z.natAbs).length:=C5.2 oV;have Y:0<Nat.gcd y.natAbs z.natAbs:=A7a _ oV;have f:nl (Nat.gcd y.natAbs z.natAbs)<=100000000000:=A0l (Cl (Nat.gcd_le_right _ oV)) sz;refine Fn0.o func67<|G.eF ((Aa z.natAbs).length:Int) 0<|G.c call138 (Abv t e F sz) ?_;intro v1 u1 K A;obtain⟨b1,a1,n1,c1,rfl,_,_⟩:=A.opn;refine G.c call139 (R5 (t.mono K) A F (by simpa using f) oV) ?_;rintro v2 u2 l2 ⟨va,vb,rfl,g,C⟩;obtain⟨Q,L,n2,U,rfl,_,_⟩:=g.opn;obtain⟨b3,a3,n3,c3,rfl,_,_⟩:=C.opn;refine G.c call139 (R5 (e.mono (K.trans l2)) (A.mono l2) sz (by simpa using f) oV) ?_;rintro v4 u4 l4 ⟨va,vb,rfl,D,E⟩;obtain⟨b4,N,n4,V,rfl,d,_⟩:=D.opn;obtain⟨b5,a5,n5,c5,rfl,_,_⟩:=E.opn;have g:=g.mono l4;rcases A95 hz with Z|hp
 ·obtain⟨h,j,H⟩:=Atp (y:=y) Z;rw[decide_eq_true H]at d;subst d;refine G.c call140 (Tt g (A0l (Vh F) oV)) ?_;intro v6 u6 l6 I;obtain⟨R,O,n6,W,rfl,_,_⟩:=I.opn;refine G.c call140 (Tt (D.mono l6) (A0l (Vh sz) oV)) ?_;intro v7 u7 l7 J;obtain⟨T,P,n7,X,rfl,_,_⟩:=J.opn;exact G.r (.agg #[.bool R,.slice O n6 W,.bool T,.slice P n7 X]) ⟨rfl,QP.mk (I.mono l7) J h j⟩
 obtain⟨h,j,H⟩:=Ok (y:=y) hp;rw[decide_eq_false oV]at d;subst d;exact G.r (.agg #[.bool Q,.slice L n2 U,.bool false,.slice N n4 V]) ⟨rfl,QP.mk g D h j⟩
def Nj (h:QP u x q)(C:nl q.num.natAbs<=100000000000):Fn0 prog 151 [x] u fun v E=>v=.bool (decide (q.num=0)):=by
 obtain⟨b,a,n,c,g,D,j,rfl,A,e,m⟩:=h.opn;obtain⟨_,_,_,d,f⟩:=e;obtain⟨_,rfl,rfl,rfl⟩:=d;obtain⟨rfl,_⟩:=f.len;have hp:=C5 (n:=q.num.natAbs);refine Fn0.o func151 ?_;by_cases h0:q.num=0
 ·exact G.eT' ((Aa q.num.natAbs).length:Int) 0 (by rw[h0];simp[Bn])<|G.r (.bool true) ⟨rfl,by simp[h0]⟩
 have t:0<(Aa q.num.natAbs).length:=hp.2 oV;exact G.eF ((Aa q.num.natAbs).length:Int) 0<|G.r (.bool false) ⟨rfl,by simp[h0]⟩
def Ad7 (h:QP u x q)(f:nl q.num.natAbs<=100000000000):Fn0 prog 137 [x] u fun v D=>v=.int .i64 (sgn q.num):=by
 obtain⟨b,a,n,c,g,C,j,rfl,d,m,t⟩:=h.opn;refine Fn0.o func137 ?_;by_cases e:q.num<0
 ·rw[decide_eq_true e]at d;subst d;exact G.r (.int .i64 (-1)) ⟨rfl,by simp[sgn,e]⟩
 rw[decide_eq_false e]at d;subst d;refine G.c call151 (Nj h f) ?_;rintro F E A rfl;by_cases h0:q.num=0
 ·rw[decide_eq_true h0];exact G.r (.int .i64 0) ⟨rfl,by simp[sgn,h0]⟩
 rw[decide_eq_false h0];exact G.r (.int .i64 1) ⟨rfl,by simp[sgn];omega⟩
def Avo (q r:Rat):Rat.divInt (q.num*(r.den:Int)-r.num*(q.den:Int)) ((q.den:Int)*(r.den:Int))=q-r:=by
 have h:=Vd q (-r);rw[A9e,A9f,A8h,<-A69]at h;rw[h,A7b]
def Acm (d:nl y.natAbs<=k)(e:nl z.natAbs<=k):nl (y-z).natAbs<=k+1:=by
 rw[A69];exact Vf d (by rw[A26];exact e)
def D7 (L:QP u x q)(m:QP u x' r)(d:Sz q 10000000000)(e:Sz r 10000000000) :
 Fn0 prog 127 [x,x'] u fun v T=>QP T v (q*r):=by
 obtain⟨b,a,n,c,U,n',X,rfl,_,K,J⟩:=L.opn;obtain⟨W,V,n2,Y,D,Q,H,rfl,_,j,h⟩:=m.opn;refine Fn0.o func127<|G.c call68 (F2 K j (A0l d.1 oV) (A0l e.1 oV)) ?_;intro v3 u3 C N;refine G.c call68 (F2 (J.mono C) (h.mono C) (A0l d.2 oV) (A0l e.2 oV)) ?_;intro v4 u4 P O;refine G.c call67 (U4 (N.mono P) O (A0l (B5 d.1 e.1) oV) (A0l (B5 (k:=10000000000) (by simpa using d.2) (by simpa using e.2)) oV) (Wi q r)) ?_;intro v5 u5 Z t;rw[Ada]at t;obtain⟨F,E,R,I,f,A,g,rfl,_⟩:=t.opn;exact G.r (.agg #[.bool F,.slice E R I,.bool false,.slice f A g]) ⟨rfl,t⟩
def Oo (Q:QP u x q)(C:QP u x' r)(h:Sz q 10000000000)(j:Sz r 10000000000) :
 Fn0 prog 25 [x,x'] u fun v Z=>QP Z v (q+r):=by
 obtain⟨b,a,n,c,a',n',c',rfl,_,P,H⟩:=Q.opn;obtain⟨b2,a2,n2,c2,J,X,N,rfl,_,A,f⟩:=C.opn;have d:nl ((q.den:Int)).natAbs<=10000000000:=by simpa using h.2
 have e:nl ((r.den:Int)).natAbs<=10000000000:=by simpa using j.2
 refine Fn0.o func25<|G.c call68 (F2 P f (A0l h.1 oV) (A0l e oV)) ?_;intro v3 u3 g R;refine G.c call68 (F2 (A.mono g) (H.mono g) (A0l j.1 oV) (A0l d oV)) ?_;intro v4 u4 E T;refine G.c call69 (Aju (R.mono E) T (A0l (B5 h.1 e) oV) (A0l (B5 j.1 d) oV)) ?_;intro v6 u6 I U;refine G.c call68 (F2 (H.mono ((g.trans E).trans I)) (f.mono ((g.trans E).trans I)) (A0l d oV) (A0l e oV)) ?_;intro v7 u7 W V;refine G.c call67 (U4 (U.mono W) V (A0l (Vf (B5 h.1 e) (B5 j.1 d)) oV) (A0l (B5 d e) oV) (Wi q r)) ?_;intro v5 u5 l5 D;rw[Vd]at D;obtain⟨L,K,Y,O,m,F,t,rfl,_⟩:=D.opn;exact G.r (.agg #[.bool L,.slice K Y O,.bool false,.slice m F t]) ⟨rfl,D⟩
def Vj (Q:QP u x q)(C:QP u x' r)(h:Sz q 10000000000)(j:Sz r 10000000000) :
 Fn0 prog 136 [x,x'] u fun v Z=>QP Z v (q-r):=by
 obtain⟨b,a,n,c,a',n',c',rfl,_,P,H⟩:=Q.opn;obtain⟨b2,a2,n2,c2,J,X,N,rfl,_,A,f⟩:=C.opn;have d:nl ((q.den:Int)).natAbs<=10000000000:=by simpa using h.2
 have e:nl ((r.den:Int)).natAbs<=10000000000:=by simpa using j.2
 refine Fn0.o func136<|G.c call68 (F2 P f (A0l h.1 oV) (A0l e oV)) ?_;intro v3 u3 g R;refine G.c call68 (F2 (A.mono g) (H.mono g) (A0l j.1 oV) (A0l d oV)) ?_;intro v4 u4 E T;refine G.c call204 (Aul (R.mono E) T (A0l (B5 h.1 e) oV) (A0l (B5 j.1 d) oV)) ?_;intro v6 u6 I U;refine G.c call68 (F2 (H.mono ((g.trans E).trans I)) (f.mono ((g.trans E).trans I)) (A0l d oV) (A0l e oV)) ?_;intro v7 u7 W V;refine G.c call67 (U4 (U.mono W) V (A0l (Acm (B5 h.1 e) (B5 j.1 d)) oV) (A0l (B5 d e) oV) (Wi q r)) ?_;intro v5 u5 l5 D;rw[Avo]at D;obtain⟨L,K,Y,O,m,F,t,rfl,_⟩:=D.opn;exact G.r (.agg #[.bool L,.slice K Y O,.bool false,.slice m F t]) ⟨rfl,D⟩
def Akc (Q:QP u x q)(j:QP u x' r)(A:Sz q 10000000000)(C:Sz r 10000000000)(P:r≠0) :
 Fn0 prog 27 [x,x'] u fun v Y=>QP Y v (q/r):=by
 obtain⟨b,a,n,c,Z,n',c',rfl,_,O,N⟩:=Q.opn;obtain⟨b2,a2,n2,c2,H,W,K,rfl,_,g,f⟩:=j.opn;have D:nl ((q.den:Int)).natAbs<=10000000000:=by simpa using A.2
 have E:nl ((r.den:Int)).natAbs<=10000000000:=by simpa using C.2
 have R:(q.den:Int)*r.num≠0:=A6g (by have:=q.den_nz;omega) (fun h=>P (A4d.1 h));refine Fn0.o func27<|G.c call68 (F2 O f (A0l A.1 oV) (A0l E oV)) ?_;intro v3 u3 F T;refine G.c call68 (F2 (N.mono F) (g.mono F) (A0l D oV) (A0l C.1 oV)) ?_;intro v4 u4 V U;refine G.c call67 (U4 (T.mono V) U (A0l (B5 A.1 E) oV) (A0l (B5 D C.1) oV) R) ?_;intro v5 u5 l5 m;rw[Acy]at m;obtain⟨J,I,X,L,d,t,e,rfl,_⟩:=m.opn;exact G.r (.agg #[.bool J,.slice I X L,.bool false,.slice d t e]) ⟨rfl,m⟩
end
section
open Go.Lib
variable {j k n:Nat}
def ld (n k:Nat):List UInt8:=(List.range k).map (dg n)
def U0 (n k:Nat):ld n (k+1)=ld n k++[dg n k]:=by simp[ld,A65]
def C3 (n k:Nat):(ld n k).length=k:=by simp[ld]
def Abo (h:j<k):(ld n k)[j]?=some (dg n j):=by simp[ld,h]
def Atd (h:j<=k):(ld n k).take j=ld n j:=by
 apply A4m;intro i;rw[A3f];split
 ·rw[Abo oV,Abo oV]
 rw[A1k (by rw[C3];omega)]
def Ac0 (n:Nat):(ld n (nDigits n)).reverse=decDigits n:=by
 rw[decDigits_eq];apply A4m;intro i;by_cases h:i<nDigits n
 ·rw[A9k (by rw[C3];exact h),C3,Abo oV];simp[h]
 rw[A1k (by simp[C3];omega),A1k gV]
def Pw (n i:Nat):(Aa n).getD i 0=n/1000000000^i%1000000000:=by
 induction i generalizing n with
 |zero =>
  by_cases h:n=0
  ·subst h;simp[Bn]
  rw[Gf h];simp
 |succ i ih =>
  by_cases h:n=0
  ·subst h;simp[Bn]
  rw[Gf h,A4p,ih,A1w,A1r,A4s]
def Aie (i:Nat):(1000000000:Nat)^i=10^(9*i):=by rw[Nat.pow_mul]
def Ava (n i t:Nat)(d:t<9):dg n (9*i+t)=UInt8.ofNat (48+(Aa n).getD i 0/10^t%10):=by
 rw[Pw,Aie];have e:(1000000000:Nat)=10^t*10^(9-t):=by rw[<-A4k,show t+(9-t)=9 by omega]
 rw[e,Nat.mod_mul_right_div_self,Nat.mod_mod_of_dvd _ (by rw[show 9-t=(8-t)+1 by omega,A1w];exact Nat.dvd_mul_left _ _),A4s,<-A4k];rfl
def Rm (h:k<256):(UInt8.ofNat k).toNat=k:=gV
def Ri (n j:Nat):(dg n j).toNat=48+n/10^j%10:=by
 unfold dg;have:n/10^j%10<10:=A2l _ oV;exact Rm oV
def Ae8 (h:n<10^(k+1)):n/10^k%10=0↔n<10^k:=by
 have hp:0<10^k:=A60 oV;have d:n/10^k<10:=by rw[A2o hp,A1r,<-A1w];exact h
 rw[A52 d,Nat.div_eq_zero_iff];constructor
 ·rintro (h|h)
  ·omega
  exact h
 exact .inr
def Re (n:Nat):n<10^(9*(Aa n).length):=by rw[<-Aie];exact C2 n
def Ph (h:10^j<=n):nDigits n=j+nDigits (n/10^j):=by
 induction j generalizing n with
 |zero=>simp
 |succ j ih =>
  have hp:0<10^j:=A60 oV;rw[A1w]at h;rw[nDigits_big oV,ih (n:=n/10) (by rw[A4h oV];exact h),A1w,A1r (10^j),<-A4s];omega
def Uc (h:n≠0):nDigits n=9*((Aa n).length-1)+nDigits ((Aa n).getD ((Aa n).length-1) 0):=by
 have f:=R1 h;rw[Aie]at f;rw[Pw,Ph f,Aie,A52];rfl;rw[A2o (A60 oV)];have d:=C2 n;have g:0<nl n:=by
  rcases A1p (nl n) with h0|h0
  ·rw[h0]at d;simp at d;omega
  exact h0
 have e:(1000000000:Nat)*10^(9*((Aa n).length-1))=1000000000^nl n:=by
  rw[<-Aie,A1r,<-A1w];congr 1;show nl n-1+1=nl n;omega
 rw[e];exact d
def Ht (l:List UInt8):Prop:=∀ b∈l,48<=b.toNat/\b.toNat<=57
def rdA (a:Nat)(l:List UInt8):Nat:=l.foldl (fun a b=>10*a+(b.toNat-48)) a
def rd (l:List UInt8):Nat:=rdA 0 l
def Ai5 (a:Nat)(l d:List UInt8):rdA a (l++d)=rdA (rdA a l) d:=by simp[rdA]
def Ain (a:Nat)(l:List UInt8):rdA a l=a*10^l.length+rd l:=by
 induction l generalizing a with
 |nil=>simp[rdA,rd]
 |cons b l ih =>
  have d:rdA a (b::l)=rdA (10*a+(b.toNat-48)) l:=rfl;have e:rd (b::l)=rdA (10*0+(b.toNat-48)) l:=rfl;rw[d,e,ih,ih (10*0+(b.toNat-48)),A1y,A1w,A29,A2e,<-A21]
  congr 1
  rw[A1m];congr 1;rw[A1r 10 a,A1o,A1r 10]
def Aan (l d:List UInt8):rd (l++d)=rd l*10^d.length+rd d:=by rw[rd,Ai5,Ain];rfl
def Aaw {l:List UInt8}(h:Ht l):rd l<10^l.length:=by
 induction l with
 |nil=>simp[rd,rdA]
 |cons b l ih =>
  have d:rd (b::l)=rdA (10*0+(b.toNat-48)) l:=rfl;have g:=h b mV;have:=ih fun x e=>h x (by simp[e]);rw[d,Ain,A1y,A1w];have f:(10*0+(b.toNat-48))*10^l.length<=9*10^l.length:=A1x _ oV;omega
def Mo (n:Nat):Ht (decDigits n):=by
 rw[decDigits_eq];intro b d;simp only[A0r]at d;obtain⟨t,_,rfl⟩:=d;rw[Ri];have:=A2l (n/10^(nDigits n-1-t)) (show 0<10 by omega);omega
def Ahh (n:Nat):rd (decDigits n)=n:=by
 induction n using Nat.strongRecOn with
 |ind n ih =>
  rw[decDigits];by_cases h:n<10
  ·rw[dif_pos h];have:(UInt8.ofNat (48+n)).toNat=48+n:=Rm oV;show 10*0+((UInt8.ofNat (48+n)).toNat-48)=n;omega
  rw[dif_neg h,Aan,ih _ oV];have:(UInt8.ofNat (48+n%10)).toNat=48+n%10:=Rm oV;show n/10*10^1+(10*0+((UInt8.ofNat (48+n%10)).toNat-48))=n;omega
def Jn (n:Nat):decDigits n≠[]:=by
 intro h;have:=decDigits_length n;rw[h]at this;have:=nDigits_pos n;simp at *;omega
def Af4 (n:Nat):(decDigits n)[0]?=some (dg n (nDigits n-1)):=by
 rw[decDigits_eq];have h:0<nDigits n:=nDigits_pos n;simp[h]
def G3 (h:n≠0):10^(nDigits n-1)<=n:=by
 induction n using Nat.strongRecOn with
 |ind n ih =>
  by_cases d:n<10
  ·rw[nDigits_small d];simp;omega
  rw[nDigits_big d];have e:=ih (n/10) oV oV;have f:=nDigits_pos (n/10);rw[show nDigits (n/10)+1-1=(nDigits (n/10)-1)+1 by omega,A1w];omega
def Al7 (h:n≠0):49<=(dg n (nDigits n-1)).toNat:=by
 rw[Ri];have e:=nDigits_pos n;have d:=lt_pow_nDigits n;rw[show nDigits n=(nDigits n-1)+1 by omega]at d;have f:¬ _:=fun h0=>absurd ((Ae8 d).1 h0) (by have:=G3 h;omega);omega
end
section
variable {R l:List UInt8}{i:Nat}{u:PH}{x:Value}{z:Int}
def Qk (h:C9 u x z)(m:nl z.natAbs<=100000000000):Fn0 prog 145 [x] u fun v _=>v=.int .i64 (Lib.nDigits z.natAbs:Nat):=by
 obtain⟨b,a,n,c,rfl,V,H⟩:=h.opn;obtain⟨rfl,_⟩:=H.len;have P:(Aa z.natAbs).length<=100000000000:=m;refine Fn0.o func145 ?_;by_cases h0:z.natAbs=0
 ·exact G.eT' ((Aa z.natAbs).length:Int) 0 (by rw[h0,Bn];rfl)<|G.r (.int .i64 1) ⟨rfl,by rw[h0,Lib.nDigits_small oV];rfl⟩
 have hp:0<(Aa z.natAbs).length:=C5.2 oV;have I:=Uc h0;have D:=Pj h0;have d:=(Ar z.natAbs).getD ((Aa z.natAbs).length-1);generalize Aa z.natAbs=l at *
 generalize U:Lib.nDigits z.natAbs=N at *
 have f:∀ k,k<1000000000->Lib.nDigits k<=9:=by
  intro k A;rcases A1p k with h|h
  ·subst h;rw[Lib.nDigits_small oV];omega
  have e:=G3 (n:=k) oV;have F:10^(Lib.nDigits k-1)<10^9:=A2i e oV;have Q:=(A7d (by omega:1<10)).1 F;omega
 refine G.eF l.length 0<|G.s l.length 1 (l.length-1:Nat)<|G.mul 9 ((l.length-1:Nat):Int) ((9*(l.length-1):Nat):Int) kV oV oV oV<|G.s l.length 1 (l.length-1:Nat) ?_;obtain⟨E,g,rfl,O⟩:=H.at (j:=l.length-1) oV;refine G.a E g l.length c (l.length-1) 1 oV<|G.lU none E (g+(l.length-1)*1) (.int .i64 (l.getD (l.length-1) 0:Nat)) O ?_;have T:=f _ d;refine G.l (ι:=Nat×Nat) (fun i=>[(3,iV i.1),(4,iV i.2)]) (fun _=>[])
  (fun i _ K=>(i.1+(if i.2=0 then 0 else Lib.nDigits i.2)=N/\i.2<1000000000)/\K=PH.mt) (fun i=>i.2) (9*(l.length-1),l.getD (l.length-1) 0) ⟨⟨by dsimp only;rw[if_neg D];omega,d⟩,rfl⟩ ?_
 rintro J ⟨t,k⟩ L W K C ⟨⟨e,F⟩,rfl⟩;by_cases A:k=0
 ·subst A;exact G.gF (0:Nat) 0<|G.r (.int .i64 t) ⟨rfl,by simp at e;rw[e]⟩
 rw[if_neg A]at e;refine G.gT k 0<|G.i t<|G.quo (k:Int) 10 ((k/10:Nat):Int) kV oV oV oV oV<|G.b (L (t+1,k/10) _ _ _ cV C ⟨⟨?_,dV⟩,rfl⟩ dV);dsimp only;by_cases m:k<10
 ·rw[Lib.nDigits_small m]at e;rw[if_pos oV];omega
 rw[Lib.nDigits_big m]at e;rw[if_neg oV];omega
structure N6 (R l:List UInt8)(i:Nat):Prop where
 len:l.length=R.length
 at_:∀ k,k<R.length->l[k]?=if k<i\/R.length-i<=k then R[R.length-1-k]? else R[k]?
def N6.start (R:List UInt8):N6 R R 0:=⟨rfl,fun k d=>by rw[if_neg oV]⟩
theorem N6.step (h:N6 R l i)(m:i<R.length-1-i):N6 R ((l.set i (l.getD (R.length-1-i) 0)).set (R.length-1-i) (l.getD i 0)) (i+1):=by
 have e:=h.len;have f:l.getD (R.length-1-i) 0=R.getD (R.length-1-i) 0:=by
  rw[A0j,h.at_ _ oV,if_neg oV,A0j]
 have g:l.getD i 0=R.getD i 0:=by
  rw[A0j,h.at_ _ oV,if_neg oV,A0j]
 refine⟨by simp[e],fun k d=>?_⟩;rw[A2g];split
 ·grind
 rw[A2g];split
 ·grind
 rw[h.at_ k d];by_cases j:k<i\/R.length-i<=k
 ·grind
 grind
theorem N6.done (h:N6 R l i)(e:¬ i<R.length-1-i):l=R.reverse:=by
 apply A4m;intro k;by_cases d:k<R.length
 ·rw[h.at_ k d,A9k d];split
  ·rfl
  grind
 rw[A1k (by rw[h.len];omega),A1k gV]
def Hh {j:Nat}(h:j<l.length):(Bv l)[j]?=some (.int .u8 ((l.getD j 0).toNat:Int)):=by
 rw[Bv,A0n,A0i h,A0j,A0i h];rfl
def Mq (l:List UInt8)(j:Nat)(b:UInt8):(Bv l).set j (.int .u8 (b.toNat:Int))=Bv (l.set j b):=by simp[Bv,A10]
def Wj (h:z<0):Lib.itoa z=45::Lib.decDigits z.natAbs:=by rw[Lib.itoa,if_pos h]
def Eg (h:¬ z<0):Lib.itoa z=Lib.decDigits z.natAbs:=by rw[Lib.itoa,if_neg h];congr 1;omega
def Ady (h:C9 u x z)(hs:nl z.natAbs<=100000000000):Fn0 prog 146 [x] u fun v _=>v=.string (mkS (Lib.itoa z)):=by
 obtain⟨b,a,n,c,rfl,hb,hi⟩:=h.opn;obtain⟨rfl,_⟩:=hi.len;have aq:(Aa z.natAbs).length<=100000000000:=hs;refine Fn0.o func146 ?_;by_cases h0:z.natAbs=0
 ·exact G.eT' ((Aa z.natAbs).length:Int) 0 (by rw[h0,Bn];rfl)<|G.r (.string (mkS [48])) ⟨rfl,by rw[Eg oV,h0,Lib.decDigits_one oV];rfl⟩
 have hp:0<(Aa z.natAbs).length:=C5.2 oV;refine G.eF ((Aa z.natAbs).length:Int) 0 ?_;have ab:=Re z.natAbs;generalize hN:z.natAbs=N at *
 generalize hL:Aa N=l at *
 refine G.l (ι:=Nat×(Option Addr×Nat×Nat)) (fun i=>[(1,.p 0 0),(3,sV i.2.1 i.2.2.1 i.2.2.2),(4,iV i.1)]) (fun _=>[(0,⟨82,[bV b,sV a l.length c]⟩)])
  (fun i _ U=>i.1<=l.length/\Af PH.mt U (.slice i.2.1 i.2.2.1 i.2.2.2) 5 1 (Bv (ld N (9*i.1)))) (fun i=>l.length-i.1) (0,(none,0,0)) ⟨mV,Af.nil _ _ _⟩ ?_
 rintro J ⟨i,a1,n1,A⟩ hJ u1 m1 a7 ⟨ae,d⟩;simp only at ae d hJ;by_cases ap:i<l.length
 ·refine G.lT i l.length ?_;obtain⟨bb,a0,rfl,he⟩:=(hi.mono a7).at (j:=i) oV;refine G.a bb a0 l.length c i 1 oV<|G.lU none bb (a0+i*1) (.int .i64 (l.getD i 0:Nat)) he ?_;have a9:l.getD i 0<1000000000:=by rw[<-hL];exact (Ar N).getD i
  refine G.loop (ι:=Nat×(Option Addr×Nat×Nat)) (fun q=>[(1,.p 0 0),(3,sV q.2.1 q.2.2.1 q.2.2.2),(4,iV i),(5,iV (l.getD i 0/10^q.1:Nat)),(6,iV q.1)]) (fun _=>[(0,⟨82,[bV b,sV (some ⟨bb,a0,none⟩) l.length c]⟩)])
   (fun q _ U=>q.1<=9/\Af PH.mt U (.slice q.2.1 q.2.2.1 q.2.2.2) 5 1 (Bv (ld N (9*i+q.1)))) (fun q=>9-q.1) (0,(a1,n1,A)) kV (fun _=>kV) ⟨kV,by rw[A8y,Bap];kernel_rfl,kV⟩ ⟨mV,d⟩ ?_
  clear d;rintro J2 ⟨t,a2,n2,c2⟩ a5 u2 m2 V ⟨ht,d⟩;simp only at ht d a5;have ag:=d.len;rw[Az,C3]at ag;by_cases al:t<9
  ·refine G.lT t 9 ?_;have ad:l.getD i 0/10^t<1000000000:=A2i (A24 _ _) a9;have ac:(Lib.dg N (9*i+t)).toNat=48+l.getD i 0/10^t%10:=by
    rw[Ava N i t al,hL];exact Rm oV
   generalize hD:l.getD i 0/10^t=D at ad ac⊢;refine G.rem ((D:Nat):Int) 10 ((D%10:Nat):Int) kV oV oV oV oV<|G.p 48 (D%10:Nat) ((Lib.dg N (9*i+t)).toNat:Int)<|G.convI .i64 .u8 .i64 ((Lib.dg N (9*i+t)).toNat:Int) ((Lib.dg N (9*i+t)).toNat:Int) kV (Ajd oV oV)<|G.B 5 1 1 (.int .u8 0) [.int .u8 ((Lib.dg N (9*i+t)).toNat:Int)] (Oh [Lib.dg N (9*i+t)]) ?_;intro g u3 l3 e3;refine G.append 5 1 1 (.int .u8 0) PH.mt (Bv (ld N (9*i+t))) [.int .u8 ((Lib.dg N (9*i+t)).toNat:Int)] (.slice a2 n2 c2) g 0 1 1 kV rfl rfl oV d e3 (Oh [Lib.dg N (9*i+t)]) rfl oV (by rw[Az,C3];omega) (by rw[Az,C3];omega) ?_;intro v4 m4 W;rw[show Bv (ld N (9*i+t))++[.int .u8 ((Lib.dg N (9*i+t)).toNat:Int)]=Bv (ld N (9*i+(t+1))) by rw[show 9*i+(t+1)=9*i+t+1 by omega,U0,Pd];rfl]at W;obtain⟨a4,c4,rfl⟩:=W.shape;exact G.quo ((D:Nat):Int) 10 ((l.getD i 0/10^(t+1):Nat):Int) kV oV oV oV (by rw[A1w,<-A4s,hD];omega)<|G.i t<|G.b (a5 (t+1,(a4,(Bv (ld N (9*i+(t+1)))).length,c4)) _ _ _ cV (V.trans l3) ⟨dV,W⟩ dV)
  have:t=9:=oV;subst this;exact G.lF (9:Nat) 9<|G.i i<|G.b (hJ (i+1,(a2,n2,c2)) _ _ _ cV (a7.trans V) ⟨dV,d⟩ dV)
 have:i=l.length:=oV;subst this;refine G.lF l.length l.length ?_;obtain⟨m,co,e⟩:=d.ptr (by intro e;have:=congrArg List.length e;rw[Az,C3,A3q]at this;omega);rw[Az,C3]at e;simp only[Value.slice.injEq]at e;obtain⟨rfl,rfl,rfl⟩:=e;refine G.loop (ι:=Nat) (fun k=>[(1,.p 0 0),(3,sV (some ⟨m,0,none⟩) (k+1) A)]) (fun _=>[(0,⟨82,[bV b,sV a l.length c]⟩)])
  (fun k _ U=>(N<10^(k+1)/\k+1<=9*l.length)/\Af PH.mt U (.slice (some ⟨m,0,none⟩) (k+1) A) 5 1 (Bv (ld N (k+1)))) (fun k=>k) (9*l.length-1) kV (fun _=>kV) ⟨kV,by rw[show 9*l.length-1+1=9*l.length by omega];kernel_rfl,kV⟩ (by rw[show 9*l.length-1+1=9*l.length by omega];exact⟨⟨ab,A0s _⟩,d⟩) ?_
 clear d hJ;rintro J3 k a6 u3 m3 a8 ⟨⟨hk,ao⟩,d⟩;refine G.s (k+1:Nat) 1 k<|G.a m 0 (k+1) A k 1 oV<|G.lM none m (0+k*1) (.int .u8 ((Lib.dg N k).toNat:Int)) (d.el (by rw[Bv,A0n,Abo oV];rfl)) ?_;have aa:=Ae8 hk;have an:=Ri N k;by_cases hz:N<10^k
 ·refine G.cmpG .eql .u8 ((Lib.dg N k).toNat:Int) 48 true kV rfl (by simp only[C8,decide_eq_true_eq];have:=aa.2 hz;omega)<|G.s (k+1:Nat) 1 k ?_;have am:k+1<=A:=d.cap;refine G.sliceTo 1 (some ⟨m,0,none⟩) (k+1) A k kV oV ?_;have a3:=d.take (k:=k) (by rw[Az,C3];omega);rw[show (Bv (ld N (k+1))).take k=Bv (ld N k) by rw[Bv,<-A37,Atd oV];rfl]at a3;rcases k with _|k
  ·simp at hz;omega
  exact G.b (a6 k _ _ _ cV a8 ⟨⟨hz,oV⟩,a3⟩ oV)
 refine G.cmpG .eql .u8 ((Lib.dg N k).toNat:Int) 48 false kV rfl (by simp only[C8,decide_eq_false_iff_not];intro h;exact hz (aa.1 oV)) ?_;have af:Lib.nDigits N=k+1:=Lib.nDigits_unique k N oV hk;clear a6;have X:=Ac0 N;rw[af]at X;cases b
 ·have Z:¬ z<0:=by simpa using hb.symm
  have P:(ld N (k+1)).reverse=Lib.itoa z:=by rw[X,Eg Z,hN]
  generalize hR:ld N (k+1)=R at *
  generalize aj:k+1=nR at *
  have ak:nR<=1000000000000:=oV;have ai:1<=nR:=oV;have C:=d.len;rw[Az]at C;refine G.s nR 1 (nR-1:Nat)<|G.l (ι:=Nat×List UInt8) (fun i=>[(3,sV (some ⟨m,0,none⟩) nR A),(7,iV i.1),(8,iV (nR-1-i.1:Nat))]) (fun _=>[])
   (fun i _ U=>i.1<=nR-1/\N6 R i.2 i.1/\Af PH.mt U (.slice (some ⟨m,0,none⟩) nR A) 5 1 (Bv i.2)) (fun i=>nR-i.1) (0,R) ⟨mV,N6.start R,d⟩ ?_
  clear d;rintro J5 ⟨i,l⟩ L u5 m5 O ⟨Y,f,d⟩;simp only at Y f d L;have ah:=f.len;by_cases E:i<nR-1-i
  ·refine G.lT i (nR-1-i:Nat)<|G.a m 0 nR A (nR-1-i) 1 oV<|G.lM none m (0+(nR-1-i)*1) (.int .u8 ((l.getD (nR-1-i) 0).toNat:Int)) (d.el (Hh oV))<|G.a m 0 nR A i 1 oV<|G.lM none m (0+i*1) (.int .u8 ((l.getD i 0).toNat:Int)) (d.el (Hh oV))<|G.a m 0 nR A i 1 oV<|G.storeA 1 PH.mt (Bv l) m nR A i (.int .u8 ((l.getD (nR-1-i) 0).toNat:Int)) kV d (by rw[Az];omega) rfl rfl ?_;intro m6 I;rw[Mq]at I;refine G.a m 0 nR A (nR-1-i) 1 oV<|G.storeA 1 PH.mt _ m nR A (nR-1-i) (.int .u8 ((l.getD i 0).toNat:Int)) kV I (by rw[Az,A3r];omega) rfl rfl ?_;intro m7 K;rw[Mq]at K;exact G.i i<|G.s (nR-1-i:Nat) 1 ((nR-1-(i+1):Nat):Int)<|G.b (L (i+1,(l.set i (l.getD (nR-1-i) 0)).set (nR-1-i) (l.getD i 0)) _ _ _ cV O ⟨dV,by dsimp only;rw[C]at E⊢;exact f.step E,K⟩ dV)
  refine G.lF i (nR-1-i:Nat) ?_;have T:=f.done (by rw[<-C];exact E);refine G.convB PH.mt 5 5 l m nR A kV kV d<|G.give PH.mt (Bv l) _ kV d (fun _=>.inl rfl) ?_;intro u8 l8 _;refine G.r (.string (mkS l)) ⟨rfl,?_⟩;rw[T,P]
 have Z:z<0:=by simpa using hb.symm
 refine G.B 5 1 1 (.int .u8 0) [.int .u8 45] (Oh [45]) ?_;intro g u4 l4 e4;refine G.append 5 1 1 (.int .u8 0) PH.mt (Bv (ld N (k+1))) [.int .u8 45] (.slice (some ⟨m,0,none⟩) (k+1) A) g 0 1 1 kV rfl rfl oV d e4 (Oh [45]) rfl oV (by rw[Az,C3];omega) (by rw[Az,C3];omega) ?_;intro v5 m5 H;rw[show Bv (ld N (k+1))++[.int .u8 45]=Bv (ld N (k+1)++[45]) by rw[Pd];rfl]at H;obtain⟨F,Q,rfl⟩:=H.ptr (by simp[Bv]);rw[Az,A03,C3,A28]at H⊢;have P:(ld N (k+1)++[45]).reverse=Lib.itoa z:=by rw[A8f,X,Wj Z,hN];rfl
 clear d;have d:=H;clear H;have T:(ld N (k+1)++[45]).length=k+1+1:=by rw[A03,C3];rfl
 generalize hR:ld N (k+1)++[45]=R at *
 generalize aj:k+1+1=nR at *
 have ak:nR<=1000000000000:=oV;have ai:1<=nR:=oV;have C:=d.len;rw[Az]at C;refine G.s nR 1 (nR-1:Nat)<|G.l (ι:=Nat×List UInt8) (fun i=>[(3,sV (some ⟨F,0,none⟩) nR Q),(7,iV i.1),(8,iV (nR-1-i.1:Nat))]) (fun _=>[])
  (fun i _ U=>i.1<=nR-1/\N6 R i.2 i.1/\Af PH.mt U (.slice (some ⟨F,0,none⟩) nR Q) 5 1 (Bv i.2)) (fun i=>nR-i.1) (0,R) ⟨mV,N6.start R,d⟩ ?_
 clear d;rintro J5 ⟨i,l⟩ L u5 m5 O ⟨Y,f,d⟩;simp only at Y f d L;have ah:=f.len;by_cases E:i<nR-1-i
 ·refine G.lT i (nR-1-i:Nat)<|G.a F 0 nR Q (nR-1-i) 1 oV<|G.lM none F (0+(nR-1-i)*1) (.int .u8 ((l.getD (nR-1-i) 0).toNat:Int)) (d.el (Hh oV))<|G.a F 0 nR Q i 1 oV<|G.lM none F (0+i*1) (.int .u8 ((l.getD i 0).toNat:Int)) (d.el (Hh oV))<|G.a F 0 nR Q i 1 oV<|G.storeA 1 PH.mt (Bv l) F nR Q i (.int .u8 ((l.getD (nR-1-i) 0).toNat:Int)) kV d (by rw[Az];omega) rfl rfl ?_;intro m6 I;rw[Mq]at I;refine G.a F 0 nR Q (nR-1-i) 1 oV<|G.storeA 1 PH.mt _ F nR Q (nR-1-i) (.int .u8 ((l.getD i 0).toNat:Int)) kV I (by rw[Az,A3r];omega) rfl rfl ?_;intro m7 K;rw[Mq]at K;exact G.i i<|G.s (nR-1-i:Nat) 1 ((nR-1-(i+1):Nat):Int)<|G.b (L (i+1,(l.set i (l.getD (nR-1-i) 0)).set (nR-1-i) (l.getD i 0)) _ _ _ cV O ⟨dV,by dsimp only;rw[C]at E⊢;exact f.step E,K⟩ dV)
 refine G.lF i (nR-1-i:Nat) ?_;have T:=f.done (by rw[<-C];exact E);refine G.convB PH.mt 5 5 l F nR Q kV kV d<|G.give PH.mt (Bv l) _ kV d (fun _=>.inl rfl) ?_;intro u8 l8 _;refine G.r (.string (mkS l)) ⟨rfl,?_⟩;rw[T,P]
def Aew (h:C9 u x z)(d:nl z.natAbs<=100000000000)(g:Lib.nDigits z.natAbs<=400):Fn0 prog 72 [x] u fun v _=>v=.tuple #[.string (mkS (Lib.itoa z)),.int .i64 0]:=by
 obtain⟨b,a,n,c,rfl,f,j⟩:=h.opn;refine Fn0.o func72<|G.c call145 (Qk h d) ?_;rintro A m e rfl;refine G.gF (Lib.nDigits z.natAbs:Nat) 400<|G.c call146 (Ady (h.mono e) d) ?_;rintro C t l2 rfl;exact G.r _ ⟨rfl,rfl⟩
end
section
variable {k:Nat}{l:List UInt8}
def Ht.drop (h:Ht l)(k:Nat):Ht (l.drop k):=fun b d=>h b (A3w d)
def Ht.take (h:Ht l)(k:Nat):Ht (l.take k):=fun b d=>h b (A23 d)
def Ea {k j:Nat}(h:k+j<l.length):(l.drop k).take (j+1)=(l.drop k).take j++[l.getD (k+j) 0]:=by
 rw[A0t];rw[A3m,A0i h,A0j,A0i h];rfl
def Ox (l:List UInt8)(b:UInt8):rd (l++[b])=10*rd l+(b.toNat-48):=by simp[rd,rdA]
def Lm (h:Ht l)(d:k<l.length):48<=(l.getD k 0).toNat/\(l.getD k 0).toNat<=57:=by
 rw[A0j,A0i d];exact h _ (A0y d)
theorem Dx (d:k<l.length):l[k]?=some (l.getD k 0):=by grind
def Bu (b:Bool)(l:List UInt8):List UInt8:=if b then 45::l else l
structure S5 (N:Nat)(s:List UInt8)(ys:List Nat):Prop where
 low:Low ys
 dig:Ht s
 sum:N=val ys+1000000000^ys.length*rd s
theorem S5.step {N:Nat}{s:List UInt8}{ys:List Nat}(h:S5 N s ys):S5 N (s.take (s.length-9)) (ys++[rd (s.drop (s.length-9))]):=by
 have d:rd (s.drop (s.length-9))<1000000000:=by
  have:=Aaw (h.dig.drop (s.length-9));rw[A7y]at this;exact A12 this (by rw[show (1000000000:Nat)=10^9 from rfl];exact A1h oV oV)
 refine⟨h.low.append (Low.cons d Low.nil),h.dig.take _,?_⟩;have e:rd s=rd (s.take (s.length-9))*1000000000+rd (s.drop (s.length-9)):=by
  have:=Aan (s.take (s.length-9)) (s.drop (s.length-9));rw[A4g]at this;by_cases f:9<=s.length
  ·grind
  rw[show s.length-9=0 by omega];simp[rd,rdA]
 rw[Jy,A03,A28,A1w,h.sum,e,A1z,A1o,A1r (rd _) 1000000000];omega
theorem Arp {b:Bool}(f:Ht l)(g:l≠[])(h:¬ b=true):(Bu b l).getD 0 0≠45:=by
 cases b
 ·have e:0<l.length:=by cases l;exact absurd rfl g;simp
  have:=Lm f e;intro d;rw[show Bu false l=l from rfl]at d;rw[d]at this;simp at this
 grind
def Apn {u:PH}(b:Bool)(l:List UInt8)(hd:Ht l)(hl:l≠[])(a3:l.length<=1000000000):Fn0 prog 71 [.string (mkS (Bu b l))] u fun v u'=>C9 u' v (Cc b (rd l)):=by
 have a6:0<l.length:=by cases l;exact absurd rfl hl;simp
 refine Fn0.o func71 ?_;have K:Bu b l≠[]:=by cases b<;>simp[Bu,hl]
 refine G.x (Bu b l) [] K ?_;have a0:(Bu b l)[0]?=some ((Bu b l).getD 0 0):=Dx (by cases b<;>simp[Bu];omega)
 refine G.idxS (Bu b l) 0 _ kV a0 ?_;cases b
 ·have K:=Arp (b:=false) hd hl mV;refine G.cmpG .eql .u8 (((Bu false l).getD 0 0).toNat:Int) 45 false kV rfl (by simp only[C8,decide_eq_false_iff_not];intro h;exact K (A8b.1 (by simpa using (by omega:((Bu false l).getD 0 0).toNat=45))))<|G.l (ι:=List UInt8×List Nat×(Option Addr×Nat×Nat)) (fun i=>[(2,.p 0 0),(3,tV i.1),(4,.p 2001 0)])
   (fun i=>[(0,⟨82,[bV false,sV none 0 0]⟩),(2001,⟨82,[bV false,sV i.2.2.1 i.2.2.2.1 i.2.2.2.2]⟩)])
   (fun i _ D=>i.1.length+i.2.1.length<=l.length/\S5 (rd l) i.1 i.2.1/\Af PH.mt D (.slice i.2.2.1 i.2.2.2.1 i.2.2.2.2) 3 1 (Ai i.2.1)) (fun i=>i.1.length) (l,[],(none,0,0)) ⟨mV,⟨Low.nil,hd,by simp[val]⟩,Af.nil _ _ _⟩ ?_
  rintro J ⟨s,ys,⟨a,E,c⟩⟩ R u' D I ⟨N,f,m⟩;simp only at N f m R;have P:=m.len;rw[Am]at P;have A:=f.dig;have a2:(mkS s).size=s.length:=Go.Lib.size_mk s;by_cases h0:0<s.length
  ·refine G.gT s.length 0<|G.sub (s.length:Int) 9 ((s.length:Int)-9) kV rfl oV oV<|G.maxI [3,3] 0 ((s.length:Int)-9) ((s.length-9:Nat):Int) kV oV<|G.loop (ι:=Nat) (fun i=>[(2,.p 0 0),(3,tV s),(4,.p 2001 0),(5,iV (s.length-9:Nat)),(6,iV (rd ((s.drop (s.length-9)).take i):Nat)),(7,iV (s.length-9+i:Nat))])
    (fun _=>[(0,⟨82,[bV false,sV none 0 0]⟩),(2001,⟨82,[bV false,sV a E c]⟩)])
    (fun i _ D=>s.length-9+i<=s.length/\Af PH.mt D (.slice a E c) 3 1 (Ai ys)) (fun i=>s.length-i) 0 kV (fun _=>kV) ⟨kV,by rw[A5y];kernel_rfl,kV⟩ ⟨oV,m⟩ ?_
   clear m;rintro J2 i F u2 m2 t ⟨hi,m⟩;by_cases e:s.length-9+i<s.length
   ·refine G.lT (s.length-9+i:Nat) s.length ?_;have H:rd ((s.drop (s.length-9)).take (i+1))<1000000000:=by
     have:=Aaw ((A.drop (s.length-9)).take (i+1));refine A12 this ?_;rw[show (1000000000:Nat)=10^9 from rfl];exact A1h oV gV
    have a1:=Lm A e;rw[Ea e,Ox]at H;exact G.mul 10 ((rd ((s.drop (s.length-9)).take i):Nat):Int) ((10*rd ((s.drop (s.length-9)).take i):Nat):Int) kV oV oV oV<|G.idxS s (s.length-9+i) _ kV (Dx e)<|G.sub8 ((s.getD (s.length-9+i) 0).toNat:Int) 48 (((s.getD (s.length-9+i) 0).toNat-48:Nat):Int) kV oV oV oV<|G.convI .u8 .i64 .u8 (((s.getD (s.length-9+i) 0).toNat-48:Nat):Int) (((s.getD (s.length-9+i) 0).toNat-48:Nat):Int) kV (Fx oV oV)<|G.add ((10*rd ((s.drop (s.length-9)).take i):Nat):Int) (((s.getD (s.length-9+i) 0).toNat-48:Nat):Int) ((rd ((s.drop (s.length-9)).take (i+1)):Nat):Int) kV (by rw[Ea e,Ox];omega) oV (by rw[Ea e,Ox];omega)<|G.p (s.length-9+i:Nat) 1 ((s.length-9+(i+1):Nat):Int)<|G.b (F (i+1) _ _ _ cV t ⟨oV,m⟩ oV)
   refine G.lF (s.length-9+i:Nat) s.length ?_;have O:(s.drop (s.length-9)).take i=s.drop (s.length-9):=A00 gV;rw[O];have j:=f.step;have C:(s.take (s.length-9)).length=s.length-9:=mV;generalize rd (s.drop (s.length-9))=d at j⊢;refine G.B 3 1 8 (.int .i64 0) [.int .i64 d] (A4 [d]) ?_;intro g u3 T Z;refine G.append 3 1 8 (.int .i64 0) PH.mt (Ai ys) [.int .i64 d] (.slice a E c) g 0 1 1 kV rfl rfl oV m Z (A4 [d]) rfl oV (by rw[Am];omega) (by rw[Am];omega) ?_;intro v4 m4 z;rw[D4]at z;obtain⟨U,X,rfl⟩:=z.shape;exact G.sliceSTo s (s.length-9) kV kV oV<|G.b (R (s.take (s.length-9),ys++[d],(U,(Ai (ys++[d])).length,X)) _ _ _ cV ((I.trans t).trans T) ⟨by dsimp only;rw[C,A03,A28];omega,j,z⟩ (by dsimp only;rw[C];omega))
  have L:s = []:=A14 oV;subst L;refine G.gF (0:Nat) 0<|G.give PH.mt (Ai ys) _ kV m (fun _=>.inl rfl) ?_;intro u3 T hL;refine G.c call141 (Ec (b:=false) (a:=a) (n:=E) (c:=c) (l:=ys) hL f.low oV) ?_;intro v5 u5 l5 Q;have hv:val ys=rd l:=by have:=f.sum;simpa[rd,rdA] using this.symm
  rw[hv]at Q;obtain⟨W,V,n5,Y,rfl,_,_⟩:=Q.opn;exact G.r (.agg #[.bool W,.slice V n5 Y]) ⟨rfl,Q⟩
 refine G.cmpG .eql .u8 (((Bu true l).getD 0 0).toNat:Int) 45 true kV rfl (by simp[C8,Bu])<|G.sliceSFrom (Bu true l) 1 kV kV (by simp[Bu]) ?_;rw[show (Bu true l).drop 1=l from rfl];refine G.l (ι:=List UInt8×List Nat×(Option Addr×Nat×Nat)) (fun i=>[(2,.p 0 0),(3,tV i.1),(4,.p 2001 0)])
  (fun i=>[(0,⟨82,[bV false,sV none 0 0]⟩),(2001,⟨82,[bV true,sV i.2.2.1 i.2.2.2.1 i.2.2.2.2]⟩)])
  (fun i _ D=>i.1.length+i.2.1.length<=l.length/\S5 (rd l) i.1 i.2.1/\Af PH.mt D (.slice i.2.2.1 i.2.2.2.1 i.2.2.2.2) 3 1 (Ai i.2.1)) (fun i=>i.1.length) (l,[],(none,0,0)) ⟨mV,⟨Low.nil,hd,by simp[val]⟩,Af.nil _ _ _⟩ ?_
 rintro J ⟨s,ys,⟨a,E,c⟩⟩ R u' D I ⟨N,f,m⟩;simp only at N f m R;have P:=m.len;rw[Am]at P;have A:=f.dig;have a2:(mkS s).size=s.length:=Go.Lib.size_mk s;by_cases h0:0<s.length
 ·refine G.gT s.length 0<|G.sub (s.length:Int) 9 ((s.length:Int)-9) kV rfl oV oV<|G.maxI [3,3] 0 ((s.length:Int)-9) ((s.length-9:Nat):Int) kV oV<|G.loop (ι:=Nat) (fun i=>[(2,.p 0 0),(3,tV s),(4,.p 2001 0),(5,iV (s.length-9:Nat)),(6,iV (rd ((s.drop (s.length-9)).take i):Nat)),(7,iV (s.length-9+i:Nat))])
   (fun _=>[(0,⟨82,[bV false,sV none 0 0]⟩),(2001,⟨82,[bV true,sV a E c]⟩)])
   (fun i _ D=>s.length-9+i<=s.length/\Af PH.mt D (.slice a E c) 3 1 (Ai ys)) (fun i=>s.length-i) 0 kV (fun _=>kV) ⟨kV,by rw[A5y];kernel_rfl,kV⟩ ⟨oV,m⟩ ?_
  clear m;rintro J2 i F u2 m2 t ⟨hi,m⟩;by_cases e:s.length-9+i<s.length
  ·refine G.lT (s.length-9+i:Nat) s.length ?_;have H:rd ((s.drop (s.length-9)).take (i+1))<1000000000:=by
    have:=Aaw ((A.drop (s.length-9)).take (i+1));refine A12 this ?_;rw[show (1000000000:Nat)=10^9 from rfl];exact A1h oV gV
   have a1:=Lm A e;rw[Ea e,Ox]at H;exact G.mul 10 ((rd ((s.drop (s.length-9)).take i):Nat):Int) ((10*rd ((s.drop (s.length-9)).take i):Nat):Int) kV oV oV oV<|G.idxS s (s.length-9+i) _ kV (Dx e)<|G.sub8 ((s.getD (s.length-9+i) 0).toNat:Int) 48 (((s.getD (s.length-9+i) 0).toNat-48:Nat):Int) kV oV oV oV<|G.convI .u8 .i64 .u8 (((s.getD (s.length-9+i) 0).toNat-48:Nat):Int) (((s.getD (s.length-9+i) 0).toNat-48:Nat):Int) kV (Fx oV oV)<|G.add ((10*rd ((s.drop (s.length-9)).take i):Nat):Int) (((s.getD (s.length-9+i) 0).toNat-48:Nat):Int) ((rd ((s.drop (s.length-9)).take (i+1)):Nat):Int) kV (by rw[Ea e,Ox];omega) oV (by rw[Ea e,Ox];omega)<|G.p (s.length-9+i:Nat) 1 ((s.length-9+(i+1):Nat):Int)<|G.b (F (i+1) _ _ _ cV t ⟨oV,m⟩ oV)
  refine G.lF (s.length-9+i:Nat) s.length ?_;have O:(s.drop (s.length-9)).take i=s.drop (s.length-9):=A00 gV;rw[O];have j:=f.step;have C:(s.take (s.length-9)).length=s.length-9:=mV;generalize rd (s.drop (s.length-9))=d at j⊢;refine G.B 3 1 8 (.int .i64 0) [.int .i64 d] (A4 [d]) ?_;intro g u3 T Z;refine G.append 3 1 8 (.int .i64 0) PH.mt (Ai ys) [.int .i64 d] (.slice a E c) g 0 1 1 kV rfl rfl oV m Z (A4 [d]) rfl oV (by rw[Am];omega) (by rw[Am];omega) ?_;intro v4 m4 z;rw[D4]at z;obtain⟨U,X,rfl⟩:=z.shape;exact G.sliceSTo s (s.length-9) kV kV oV<|G.b (R (s.take (s.length-9),ys++[d],(U,(Ai (ys++[d])).length,X)) _ _ _ cV ((I.trans t).trans T) ⟨by dsimp only;rw[C,A03,A28];omega,j,z⟩ (by dsimp only;rw[C];omega))
 have L:s = []:=A14 oV;subst L;refine G.gF (0:Nat) 0<|G.give PH.mt (Ai ys) _ kV m (fun _=>.inl rfl) ?_;intro u3 T hL;refine G.c call141 (Ec (b:=true) (a:=a) (n:=E) (c:=c) (l:=ys) hL f.low oV) ?_;intro v5 u5 l5 Q;have hv:val ys=rd l:=by have:=f.sum;simpa[rd,rdA] using this.symm
 rw[hv]at Q;obtain⟨W,V,n5,Y,rfl,_,_⟩:=Q.opn;exact G.r (.agg #[.bool W,.slice V n5 Y]) ⟨rfl,Q⟩
end
section
variable {j k n:Nat}{q:Rat}{u:PH}{y z:Int}
def Dz (z:Int):Lib.itoa z=Bu (decide (z<0)) (Lib.decDigits z.natAbs):=by
 by_cases h:z<0
 ·rw[Wj h,decide_eq_true h];rfl
 rw[Eg h,decide_eq_false h];rfl
def Aaf (z:Int):Cc (decide (z<0)) (rd (Lib.decDigits z.natAbs))=z:=by rw[Ahh];exact Tb z
def Ahl (h:Lib.nDigits n<=k):nl n<=k:=by
 refine A8 (A12 (Lib.lt_pow_nDigits n) ?_);rw[Aie];exact A1h oV oV
def Bh (h:Lib.nDigits n<=400):nl n<=400:=Ahl h
def Gy (h:Lib.nDigits z.natAbs<=400):(Lib.itoa z).length<=401:=by
 rw[Dz];unfold Bu;split<;>simp[Lib.decDigits_length]<;>omega
def Nl (h:Lib.nDigits z.natAbs<=400):Fn0 prog 71 [.string (mkS (Lib.itoa z))] u fun v d=>C9 d v z:=by
 have:=Apn (u:=u) (decide (z<0)) (Lib.decDigits z.natAbs) (Mo _) (Jn _) (by rw[Lib.decDigits_length];omega);rw[Aaf,<-Dz]at this;exact this
def Oq (g:0<z)(e:nl y.natAbs<=j)(f:nl z.natAbs<=k):nl (Rat.divInt y z).num.natAbs<=j/\nl (Rat.divInt y z).den<=k:=by
 obtain⟨d,h,_⟩:=Ok (y:=y) g;refine⟨by rw[d];exact Vh e,?_⟩;have:(Rat.divInt y z).den=(z.tdiv (Nat.gcd y.natAbs z.natAbs:Nat)).natAbs:=oV
 rw[this];exact Vh f
def Agf (q r:Rat):0<(q.den:Int)*(r.den:Int):=Int.mul_pos (by have:=q.den_pos;omega) (by have:=r.den_pos;omega)
def Arq:Lib.decDigits 0 = [48]:=Lib.decDigits_one oV
def Asb:Lib.decDigits 1 = [49]:=Lib.decDigits_one oV
def Ew:Lib.itoa 0 = [48]:=by rw[Eg oV];exact Arq
def H5:Lib.itoa 1 = [49]:=by rw[Eg oV];exact Asb
def Wc (n:Nat):Lib.itoa (n:Int)=Lib.decDigits n:=by rw[Eg oV];congr 1
def rdZ (t:List UInt8):Int:=match t with
 |45::l=>-(rd l:Int)
 |l=>rd l
theorem Aff (z:Int):rdZ (Lib.itoa z)=z:=by
 by_cases h:z<0
 ·rw[Wj h];simp only[rdZ,Ahh];omega
 rw[Eg h];have f:=Af4 z.natAbs;have m:=Ahh z.natAbs;have g:=Mo z.natAbs;generalize Lib.decDigits z.natAbs=l at *
 cases l with
 |nil=>simp at f
 |cons b l =>
  have d:=g b mV;unfold rdZ;split
  ·rename_i e;simp at e;rw[e.1]at d;simp at d
  grind
def H0 (h:Lib.itoa y=Lib.itoa z):y=z:=by rw[<-Aff y,h,Aff]
def Qc (d:0<=z)(h0:z≠0):∃ b,(Lib.itoa z)[0]?=some b/\49<=b.toNat/\b.toNat<=57:=by
 rw[Eg oV];refine⟨_,Af4 _,Al7 oV,?_⟩;rw[Ri];have:=A2l (z.natAbs/10^(Lib.nDigits z.natAbs-1)) (show 0<10 by omega);omega
def Sr (h:Lib.nDigits z.natAbs<=400):Fn0 prog 206 [.string (mkS (Lib.itoa z))] u fun v _=>v=.bool true:=by
 refine Fn0.o func206 ?_;by_cases h0:z=0
 ·subst h0;exact G.q (Lib.itoa 0) [48] Ew<|G.r (.bool true) ⟨rfl,rfl⟩
 refine G.w (Lib.itoa z) [48] (fun e=>h0 (H0 (e.trans Ew.symm))) ?_;have N:=Lib.decDigits_length z.natAbs;have O:=Lib.nDigits_pos z.natAbs;have A:=Mo z.natAbs;obtain⟨m,f,I,K⟩:=Qc (z:=(z.natAbs:Int)) oV oV;rw[Wc]at f;have t:=Dz z;generalize U:Lib.decDigits z.natAbs=L at *
 generalize hT:Lib.itoa z=T at *
 have H:0<T.length:=by rw[t];unfold Bu;split;simp;omega
 refine G.gT T.length 0 ?_;by_cases F:z<0
 ·rw[decide_eq_true F]at t;refine G.idxS T 0 45 kV (by rw[t];rfl)<|G.cmpG .eql .u8 45 45 true kV rfl rfl<|G.sliceSFrom T 1 kV kV oV ?_;rw[show T.drop 1=L by rw[t];rfl];refine G.eF L.length 0<|G.gF L.length 400<|G.idxS L 0 m kV f<|G.cmpG .eql .u8 (m.toNat:Int) 48 false kV rfl (by simp only[C8,decide_eq_false_iff_not];omega)<|G.l (ι:=Nat) (fun i=>[(3,tV L),(4,iV i)]) (fun _=>[]) (fun i _ C=>i<=L.length/\C=PH.mt) (fun i=>L.length-i) 0 ⟨oV,rfl⟩ ?_;rintro J i D R C g ⟨Q,rfl⟩;by_cases d:i<L.length
  ·refine G.lT i L.length ?_;have P:=Lm A d;exact G.idxS L i _ kV (Dx d)<|G.cmpG .lss .u8 ((L.getD i 0).toNat:Int) 48 false kV rfl (by simp only[C8,decide_eq_false_iff_not];omega)<|G.idxS L i _ kV (Dx d)<|G.cmpG .gtr .u8 ((L.getD i 0).toNat:Int) 57 false kV rfl (by simp only[C8,decide_eq_false_iff_not];omega)<|G.i i<|G.b (D (i+1) _ _ _ cV g ⟨oV,rfl⟩ oV)
  exact G.lF i L.length<|G.r (.bool true) ⟨rfl,rfl⟩
 rw[decide_eq_false F]at t;have E:T=L:=t;subst E;refine G.idxS T 0 m kV f<|G.cmpG .eql .u8 (m.toNat:Int) 45 false kV rfl (by simp only[C8,decide_eq_false_iff_not];omega)<|G.eF T.length 0<|G.gF T.length 400<|G.idxS T 0 m kV f<|G.cmpG .eql .u8 (m.toNat:Int) 48 false kV rfl (by simp only[C8,decide_eq_false_iff_not];omega)<|G.l (ι:=Nat) (fun i=>[(3,tV T),(4,iV i)]) (fun _=>[]) (fun i _ C=>i<=T.length/\C=PH.mt) (fun i=>T.length-i) 0 ⟨oV,rfl⟩ ?_;rintro J i D R C g ⟨Q,rfl⟩;by_cases d:i<T.length
 ·refine G.lT i T.length ?_;have P:=Lm A d;exact G.idxS T i _ kV (Dx d)<|G.cmpG .lss .u8 ((T.getD i 0).toNat:Int) 48 false kV rfl (by simp only[C8,decide_eq_false_iff_not];omega)<|G.idxS T i _ kV (Dx d)<|G.cmpG .gtr .u8 ((T.getD i 0).toNat:Int) 57 false kV rfl (by simp only[C8,decide_eq_false_iff_not];omega)<|G.i i<|G.b (D (i+1) _ _ _ cV g ⟨oV,rfl⟩ oV)
 exact G.lF i T.length<|G.r (.bool true) ⟨rfl,rfl⟩
theorem Anh {T:List UInt8}(h:∀ b∈T,b≠47)(A:T.length<=1000000):Fn0 prog 70 [.string (mkS T)] u fun v _=>v=.tuple #[.string (mkS T),.string (mkS [49]),.bool false]:=by
 refine Fn0.o func70<|G.l (ι:=Nat) (fun i=>[(0,tV T),(5,iV i)]) (fun _=>[]) (fun i _ g=>i<=T.length/\g=PH.mt) (fun i=>T.length-i) 0 ⟨oV,rfl⟩ ?_;rintro J i m C g d ⟨t,rfl⟩;by_cases e:i<T.length
 ·refine G.lT i T.length<|G.idxS T i _ kV (Dx e) ?_;have f:T.getD i 0≠47:=by grind
  exact G.cmpG .eql .u8 ((T.getD i 0).toNat:Int) 47 false kV rfl (by simp only[C8,decide_eq_false_iff_not];intro h;exact f (A8b.1 (by simpa using (by omega:(T.getD i 0).toNat=47))))<|G.i i<|G.b (m (i+1) _ _ _ cV d ⟨oV,rfl⟩ oV)
 exact G.lF i T.length<|G.r (.tuple #[.string (mkS T),.string (mkS [49]),.bool false]) ⟨rfl,rfl⟩
theorem Ami {A B:List UInt8}(h:∀ b∈A,b≠47)(H:(A++47::B).length<=1000000):Fn0 prog 70 [.string (mkS (A++47::B))] u fun v _=>v=.tuple #[.string (mkS A),.string (mkS B),.bool true]:=by
 have hT:∀ i,i<A.length->(A++47::B).getD i 0≠47:=by grind
 have D:(A++47::B)[A.length]?=some 47:=by grind
 have t:(A++47::B).length=A.length+1+B.length:=by grind
 have m:(A++47::B).take A.length=A:=mV;have d:(A++47::B).drop (A.length+1)=B:=mV;generalize A++47::B=T at *
 refine Fn0.o func70<|G.l (ι:=Nat) (fun i=>[(0,tV T),(5,iV i)]) (fun _=>[]) (fun i _ C=>i<=A.length/\C=PH.mt) (fun i=>T.length-i) 0 ⟨oV,rfl⟩ ?_;rintro J i E I C e ⟨F,rfl⟩;refine G.lT i T.length ?_;by_cases f:i<A.length
 ·refine G.idxS T i _ kV (Dx oV) ?_;have g:=hT i f;exact G.cmpG .eql .u8 ((T.getD i 0).toNat:Int) 47 false kV rfl (by simp only[C8,decide_eq_false_iff_not];intro h;exact g (A8b.1 (by simpa using (by omega:(T.getD i 0).toNat=47))))<|G.i i<|G.b (E (i+1) _ _ _ cV e ⟨oV,rfl⟩ oV)
 have:i=A.length:=oV;subst this;refine G.idxS T A.length 47 kV D<|G.cmpG .eql .u8 47 47 true kV rfl rfl<|G.sliceSTo T A.length kV kV oV ?_;rw[m];refine G.p A.length 1 (A.length+1:Nat)<|G.sliceSFrom T (A.length+1) kV kV oV ?_;rw[d];exact G.r (.tuple #[.string (mkS A),.string (mkS B),.bool true]) ⟨rfl,rfl⟩
def Ag (q:Rat):List UInt8:=if q.den=1 then Lib.itoa q.num else Lib.itoa q.num++47::Lib.itoa (q.den:Int)
def Tx (q:Rat):Prop:=Lib.nDigits q.num.natAbs<=400/\Lib.nDigits q.den<=400
def Tx.den (h:Tx q):Lib.nDigits ((q.den:Int)).natAbs<=400:=by simpa using h.2
def Tx.sz (h:Tx q):Sz q 400:=⟨Bh h.1,Bh h.2⟩
def Sz.mono (h:Sz q j)(hjk:j<=k):Sz q k:=⟨A0l h.1 hjk,A0l h.2 hjk⟩
def Hi (z:Int):∀ b∈Lib.itoa z,b≠47:=by
 have f:=Mo z.natAbs;intro b d e;subst e;rw[Dz]at d;unfold Bu at d;split at d
 ·simp at d;have:=f _ d;simp at this
 have:=f _ d;simp at this
def Aa9 (h:Tx q):Fn0 prog 70 [.string (mkS (Ag q))] u fun v _=>v=.tuple #[.string (mkS (Lib.itoa q.num)),.string (mkS (Lib.itoa (q.den:Int))),.bool (decide (q.den≠1))]:=by
 have e:=Gy h.1;have l2:=Gy h.den;unfold Ag;by_cases d:q.den=1
 ·rw[if_pos d,d,show ((1:Nat):Int)=1 from rfl,H5];exact Anh (Hi _) oV
 rw[if_neg d,decide_eq_true d];exact Ami (Hi _) gV
def H9 (h:Tx q):Fn0 prog 26 [.string (mkS (Ag q))] u fun v H=>QP H v q:=by
 refine Fn0.o func26<|G.c call70 (Aa9 h) ?_;rintro N J I rfl;refine G.c call71 (Nl h.1) ?_;intro O K l2 d;obtain⟨m,f,E,A,rfl,_,_⟩:=d.opn;refine G.c call71 (Nl h.den) ?_;intro P L D e;obtain⟨t,g,F,C,rfl,_,_⟩:=e.opn;exact G.r (.agg #[.bool m,.slice f E A,.bool t,.slice g F C]) ⟨rfl,QP.mk (d.mono D) e rfl rfl⟩
def Aqe (h:Tx q):(Ag q).length<=802:=by
 have d:=Gy h.1;have l2:=Lib.decDigits_length q.den;have e:=h.2;unfold Ag;split
 ·omega
 rw[Wc];simp;omega
def Arw (h:q.den≠1):q.num≠0:=fun h0=>h (by have:=A4d.1 h0;subst this;rfl)
def Ta (h:Tx q):Fn0 prog 152 [.string (mkS (Ag q))] u fun v _=>v=.tuple #[.string (mkS (Lib.itoa q.num)),.string (mkS (Lib.itoa (q.den:Int))),.bool true]:=by
 have m:=Aqe h;refine Fn0.o func152<|G.gF ((Ag q).length:Int) 802<|G.c call70 (Aa9 h) ?_;rintro X P J rfl;refine G.c call206 (Sr h.1) ?_;rintro Y Q l2 rfl;refine G.c call206 (Sr h.den) ?_;rintro Z R K rfl;by_cases f:q.den=1
 ·rw[show decide (q.den≠1)=false by simp[f]];exact G.r (.tuple #[.string (mkS (Lib.itoa q.num)),.string (mkS (Lib.itoa (q.den:Int))),.bool true]) ⟨rfl,rfl⟩
 rw[show decide (q.den≠1)=true by simp[f]];have E:=Arw f;have D:=q.den_nz;refine G.w (Lib.itoa q.num) [48] (fun e=>E (H0 (e.trans Ew.symm)))<|G.w (Lib.itoa (q.den:Int)) [49] (fun e=>by have:=H0 (e.trans H5.symm);omega)<|G.w (Lib.itoa (q.den:Int)) [48] (fun e=>by have:=H0 (e.trans Ew.symm);omega) ?_;obtain⟨g,d,A,C⟩:=Qc (z:=(q.den:Int)) oV oV;refine G.idxS (Lib.itoa (q.den:Int)) 0 g kV d<|G.cmpG .eql .u8 (g.toNat:Int) 45 false kV rfl (by simp only[C8,decide_eq_false_iff_not];omega)<|G.c call71 (Nl h.1) ?_;intro v4 T L F;refine G.c call71 (Nl h.den) ?_;intro v5 U I H;refine G.c call138 (Abv (F.mono I) H (A0l (Bh h.1) oV) (A0l (Bh h.den) oV)) ?_;intro v6 V N t;rw[show Nat.gcd q.num.natAbs ((q.den:Int)).natAbs=1 from q.reduced]at t;refine G.c call146 (Ady t (A0l S9 oV)) ?_;rintro v7 W O rfl;exact G.y (Lib.itoa ((1:Nat):Int)) [49] H5<|G.r (.tuple #[.string (mkS (Lib.itoa q.num)),.string (mkS (Lib.itoa (q.den:Int))),.bool true]) ⟨rfl,rfl⟩
def D9 (h:Tx q):Fn0 prog 86 [.string (mkS (Ag q))] u fun v _=>v=.bool true:=by
 refine Fn0.o func86<|G.c call152 (Ta h) ?_;rintro f e d rfl;exact G.r (.bool true) ⟨rfl,rfl⟩
def Nh {x:Value}(m:QP u x q)(h:Tx q):Fn0 prog 28 [x] u fun v _=>v=.tuple #[.string (mkS (Ag q)),.int .i64 0]:=by
 obtain⟨b,a,n,c,A,F,C,rfl,_,g,f⟩:=m.opn;refine Fn0.o func28<|G.c call72 (Aew g (A0l (Bh h.1) oV) h.1) ?_;rintro J H t rfl;refine G.c call72 (Aew (f.mono t) (A0l (Bh h.den) oV) h.den) ?_;rintro K I l2 rfl;refine G.nF 0 0<|G.nF 0 0 ?_;by_cases d:q.den=1
 ·exact G.q (Lib.itoa (q.den:Int)) [49] (by rw[d];exact H5)<|G.r (.tuple #[.string (mkS (Lib.itoa q.num)),.int .i64 0]) ⟨rfl,by rw[Ag,if_pos d]⟩
 refine G.w (Lib.itoa (q.den:Int)) [49] (fun e=>by have:=H0 (e.trans H5.symm);omega) ?_;have D:=Gy h.1;have E:=Gy h.den;exact G.addS (Lib.itoa q.num) [47] kV gV<|G.addS (Lib.itoa q.num++[47]) (Lib.itoa (q.den:Int)) kV gV<|G.r (.tuple #[.string (mkS (Lib.itoa q.num++[47]++Lib.itoa (q.den:Int))),.int .i64 0]) ⟨rfl,by rw[Ag,if_neg d];simp⟩
def Auf {q r:Rat}(h:Tx q)(d:Tx r)(e:Tx (q+r)):Fn0 prog 84 [.string (mkS (Ag q)),.string (mkS (Ag r))] u fun v _=>v=.tuple #[.string (mkS (Ag (q+r))),.int .i64 0]:=by
 refine Fn0.o func84<|G.c call86 (D9 h) ?_;rintro N F A rfl;refine G.c call86 (D9 d) ?_;rintro O H l2 rfl;refine G.c call26 (H9 h) ?_;intro P I C f;refine G.c call26 (H9 d) ?_;intro Q J t g;refine G.c call25 (Oo (f.mono t) g (h.sz.mono oV) (d.sz.mono oV)) ?_;intro R K D m;refine G.c call28 (Nh m e) ?_;rintro T L E rfl;exact G.r _ ⟨rfl,rfl⟩
end
end Go.Proofs.YtdgncafgglafjaaGreatDoor
