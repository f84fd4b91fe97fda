/- Parts of one proof, joined by a program. -/
import Derived.Test.YtnafchoihfnkeaaGreatDoorS03
import Derived.Lib.ItoaNum
set_option linter.defProp false
set_option linter.unusedVariables false
set_option linter.unusedSimpArgs false
set_option linter.unusedSectionVars false
set_option maxHeartbeats 16000000
namespace Go.Proofs.YtnafchoihfnkeaaGreatDoor
open Go.Proofs.Tryz
open Go.RowKit
def Ayu:=@List.set_append_left
def Ayv:=@List.replicate_succ'
def Axn:=@Int.lt_or_le
def Azb:=@Int.neg_tdiv
def Axi:=@Int.natCast_ediv
def A1n:=@Nat.mul_div_le
def A19:=@Int.ofNat_dvd_left
def A04:=@Nat.gcd_dvd_left
def Az7:=@Int.natAbs_tdiv
def Ayh:=@List.range_succ
def A1o:=@List.getElem?_reverse
def Awy:=@Nat.div_div_eq_div_mul
def Aym:=@Nat.pow_pos
def Azc:=@Nat.pow_lt_pow_iff_right
def Au5:=@List.getElem?_set
def Aty:=@List.getElem?_map
def A2q:=@Nat.div_one
def A0c:=@List.reverse_append
def Az8:=@UInt8.toNat_inj
section
variable {a:Option Addr}{c n:Nat}{l:List Nat}{u:PH}{x:Value}{z:Int}
def Dj (u:PH)(v:Value)(z:Int):Prop:=∃ a n c,v=.agg #[.bool (decide (z<0)),.slice a n c]/\Cb u (.slice a n c) (Aa z.natAbs)
def Dj.mono {u d:PH}{v:Value}{z:Int}(h:Dj u v z)(g:PH.le u d):Dj d v z:=by
 obtain⟨a,n,c,e,f⟩:=h;exact⟨a,n,c,e,f.mono g⟩
def Dj.opn {v:Value}(h:Dj u v z):∃ b a n c,v=.agg #[.bool b,.slice a n c]/\b=decide (z<0)/\Cb u (.slice a n c) (Aa z.natAbs):=by
 obtain⟨a,n,c,rfl,d⟩:=h;exact⟨_,a,n,c,rfl,rfl,d⟩
def Ali (d:Low l):0<Bl l l.length↔0<val l:=by
 have:=H8 d;rw[<-Cl (n:=val l),this,Atm];have:=Jx l l.length;omega
def Aa7 (b:Bool)(h:Cb u (.slice a n c) l)(d:Low l):Dj u (.agg #[.bool (b&&decide (0<Bl l l.length)),.slice a (Bl l l.length) c]) (Bt b (val l)):=by
 refine⟨a,Bl l l.length,c,?_,?_⟩
 ·rw[Sh,decide_eq_decide.2 (Ali d)]
 rw[I2,H8 d];exact h.take _ (Jx _ _)
def Ds {b:Bool}(h:Cb u (.slice a n c) l)(C:Low l)(D:l.length<=1000000000000000000) :
 Fn0 prog 130 [.agg #[.bool b,.slice a n c]] u fun v d=>Dj d v (Bt b (val l)):=by
 intro w g;refine Calls.mono (Ako (b:=b) h D w g) fun e w' A=>?_;obtain⟨v,d,E,j,m,f,t,rfl⟩:=A;exact⟨_,d,E,j,m,f,t,Aa7 b (h.mono (f.le g.pu)) C⟩
def Wd (h:Dj u x z)(f:nl z.natAbs<=1000000000000000000):Fn0 prog 129 [x] u fun v m=>Dj m v (-z):=by
 obtain⟨b,a,n,c,rfl,e,hi⟩:=h.opn;obtain⟨rfl,t⟩:=hi.len;have g:(Aa z.natAbs).length<=1000000000000000000:=f;refine Fn0.o func129 ?_;have hp:=Cl (n:=z.natAbs);have fin:∀ b':Bool,b'=decide (-z<0)->Dj u (.agg #[.bool b',.slice a (Aa z.natAbs).length c]) (-z):=fun b' d=>⟨a,(Aa z.natAbs).length,c,by rw[d],by rw[Avp];exact hi⟩;cases b
 ·have j:0<=z:=by simpa using e.symm
  by_cases h0:0<(Aa z.natAbs).length
  ·exact G.gT ((Aa z.natAbs).length:Int) 0<|G.r (.agg #[.bool true,.slice a (Aa z.natAbs).length c]) ⟨rfl,fin true (by have:=hp.1 h0;simp;omega)⟩
  exact G.gF ((Aa z.natAbs).length:Int) 0<|G.r (.agg #[.bool false,.slice a (Aa z.natAbs).length c]) ⟨rfl,fin false (by have:¬ 0<z.natAbs:=fun h=>h0 (hp.2 h);simp;omega)⟩
 have j:z<0:=by simpa using e.symm
 exact G.r (.agg #[.bool false,.slice a (Aa z.natAbs).length c]) ⟨rfl,fin false gV⟩
def El {m n:Nat}(h:n<=m):(Aa n).length<=(Aa m).length:=Ct h
def Apk {x X:Value}{y z:Int}(Y:Dj u x y)(Q:Dj u X z)(Z:nl y.natAbs<=1000000000000)(sz:nl z.natAbs<=1000000000000):Fn0 prog 63 [x,X] u fun v u'=>Dj u' v (y+z):=by
 obtain⟨b,a,n,c,rfl,O,hi⟩:=Y.opn;obtain⟨b',a',n',c',rfl,m,f⟩:=Q.opn;have L:(Aa y.natAbs).length<=1000000000000:=Z;have N:(Aa z.natAbs).length<=1000000000000:=sz;refine Fn0.o func63<|G.eqB b b' kV ?_;by_cases e:b=b'
 ·have j:=Z9 (y:=y) (z:=z) (by rw[<-O,<-m,e]);rw[<-O]at j;rw[show (b==b')=true by rw[e];simp];refine G.c call131 (Amp hi f (Am _) (Am _) L N) ?_;rintro R u1 J ⟨l,g,E,F,V⟩;obtain⟨T,U,rfl,H⟩:=g.opn;refine G.c call130 (Ds (b:=b) g E oV) ?_;intro W P l2 d;rw[F,Ai,Ai,j]at d;obtain⟨C,A,K,D,rfl,_,_⟩:=d.opn;exact G.r (.agg #[.bool C,.slice A K D]) ⟨rfl,d⟩
 rw[show (b==b')=false by simpa using e];have I:decide (y<0)≠decide (z<0):=by rw[<-O,<-m];exact e
 refine G.c call132 (Jj hi f oV oV) ?_;rintro R u1 J rfl;by_cases t:z.natAbs<=y.natAbs
 ·have j:=V3 (y:=y) (z:=z) I t;rw[<-O]at j;refine G.hT' (sgn ((y.natAbs:Int)-z.natAbs)) 0 (by rcases Awd ((y.natAbs:Int)-z.natAbs) 0 with h|h|h<;>first|omega|(rw[h];decide)|(rw[Cg h];decide)) ?_
  refine G.c call133 (Kd (hi.mono J) (f.mono J) (Am _) (Am _) L (El t) (by rw[Ai,Ai];exact t)) ?_;rintro R P l2 ⟨l,g,E,F,V⟩;obtain⟨T,U,rfl,H⟩:=g.opn;refine G.c call130 (Ds (b:=b) g E oV) ?_;intro W P l2 d;rw[F,Ai,Ai,j]at d;obtain⟨C,A,K,D,rfl,_,_⟩:=d.opn;exact G.r (.agg #[.bool C,.slice A K D]) ⟨rfl,d⟩
 have j:=Wp (y:=y) (z:=z) I oV;rw[<-m]at j;refine G.hF' (sgn ((y.natAbs:Int)-z.natAbs)) 0 (by rw[Dc oV];decide)<|G.c call133 (Kd (f.mono J) (hi.mono J) (Am _) (Am _) N (El oV) (by rw[Ai,Ai];omega)) ?_;rintro R P l2 ⟨l,g,E,F,V⟩;obtain⟨T,U,rfl,H⟩:=g.opn;refine G.c call130 (Ds (b:=b') g E oV) ?_;intro W P l2 d;rw[F,Ai,Ai,j]at d;obtain⟨C,A,K,D,rfl,_,_⟩:=d.opn;exact G.r (.agg #[.bool C,.slice A K D]) ⟨rfl,d⟩
end
section
variable {j:Nat}{l:List Nat}
def Jo (l:List Nat)(j n:Nat):(Ah l).set j (.int .i64 n)=Ah (l.set j n):=by simp[Ah,Axb]
def Ww (h:j<l.length):(Ah l)[j]?=some (.int .i64 (l.getD j 0:Nat)):=by simp[Ah,h]
def Q7 (n:Nat):List.replicate n (Value.int .i64 0)=Ah (List.replicate n 0):=by simp[Ah]
def Aau (h:j<l.length)(r:List Nat):(l++r).getD j 0=l.getD j 0:=by
 rw[As7,As7,Atl h]
def Agn (h:j<l.length)(r:List Nat)(d:Nat):(l++r).set j d=l.set j d++r:=Ayu _ _ h
def Aly (h:j<l.length)(h0:l.getD j 0=0):l.set j 0=l:=by
 refine Awe fun i=>?_;by_cases hi:j=i
 ·subst hi;rw[Awv h,As5 h];rw[As7,As5 h]at h0;simpa using h0.symm
 rw[A1u hi]
def Ash (la lb:List Nat)(i k:Nat)(o:List Nat)(c:Nat):Prop:=(k<=lb.length/\Fn la lb i k o c)\/(k=lb.length+1/\c=0/\Fn la lb (i+1) 0 o 0)
def Ox {u:PH}{x x':Value}{y z:Int}(hx:Dj u x y)(a3:Dj u x' z)(sy:nl y.natAbs<=1000000000000)(sz:nl z.natAbs<=1000000000000):Fn0 prog 62 [x,x'] u fun v u'=>Dj u' v (y*z):=by
 obtain⟨b,a,n,c,rfl,hb,hi⟩:=hx.opn;obtain⟨b',a',n',c',rfl,Z,T⟩:=a3.opn;obtain⟨rfl,_⟩:=hi.len;obtain⟨rfl,_⟩:=T.len;have U:=Am y.natAbs;have L:=Am z.natAbs;have aa:(Aa y.natAbs).length<=1000000000000:=sy;have ab:(Aa z.natAbs).length<=1000000000000:=sz;have K:∀ l:List Nat,Low l->val l=y.natAbs*z.natAbs->Bt (!(b==b')) (val l)=y*z:=by
  intro l _ hv;rw[hv,hb,Z];exact Aba y z
 have a1:=Ai y.natAbs;have a2:=Ai z.natAbs;rw[<-a1,<-a2]at K;generalize Aa y.natAbs=la at *
 generalize Aa z.natAbs=lb at *
 refine Fn0.o func62<|G.p la.length lb.length (la.length+lb.length:Nat)<|G.p (la.length+lb.length:Nat) 1 (la.length+lb.length+1:Nat)<|G.make 3 1 8 (.int .i64 0) (la.length+lb.length+1) kV rfl rfl oV oV oV ?_;intro vo m1 m _;rw[Q7]at m;obtain⟨E,I,rfl⟩:=m.ptr (by intro e;have:=congrArg List.length e;rw[Ag,Aur,Av1]at this;omega);rw[Ag,Aur]at m⊢;rw[show List.replicate (la.length+lb.length+1) 0=List.replicate (la.length+lb.length) 0++[0] from Ayv ..]at m;refine G.l (ι:=Nat×List Nat) (fun i=>[(2,.p 0 0),(3,.p 1 0),(4,.p 2 0),(5,sV (some ⟨E,0,none⟩) (la.length+lb.length+1) I),(6,iV i.1)])
  (fun _=>[(0,⟨55,[bV b,sV a la.length c]⟩),(1,⟨55,[bV b',sV a' lb.length c']⟩),(2,⟨55,[bV false,sV none 0 0]⟩)])
  (fun i _ R=>i.1<=la.length/\Fn la lb i.1 0 i.2 0/\Ae PH.mt R (.slice (some ⟨E,0,none⟩) (la.length+lb.length+1) I) 3 1 (Ah (i.2++[0]))) (fun i=>la.length-i.1) (0,List.replicate (la.length+lb.length) 0)
  ⟨mV,Fn.start _ _,m⟩ ?_
 clear m m1;rintro J ⟨i,o⟩ hJ u' R Q ⟨hk,d,m⟩;simp only at hk d m hJ;by_cases H:i<la.length
 ·refine G.lT i la.length ?_;obtain⟨X,oa,rfl,ea⟩:=(hi.mono Q).at (j:=i) H;have a4:=U.getD i;refine G.l (ι:=Nat×List Nat×Nat) (fun q=>[(2,.p 0 0),(3,.p 1 0),(4,.p 2 0),(5,sV (some ⟨E,0,none⟩) (la.length+lb.length+1) I),(6,iV i),(7,iV q.2.2),(8,iV q.1)])
   (fun _=>[(0,⟨55,[bV b,sV (some ⟨X,oa,none⟩) la.length c]⟩),(1,⟨55,[bV b',sV a' lb.length c']⟩),(2,⟨55,[bV false,sV none 0 0]⟩)])
   (fun q _ R=>Ash la lb i q.1 q.2.1 q.2.2/\Ae PH.mt R (.slice (some ⟨E,0,none⟩) (la.length+lb.length+1) I) 3 1 (Ah (q.2.1++[0]))) (fun q=>lb.length+1-q.1) (0,o,0)
   ⟨.inl ⟨mV,d⟩,m⟩ ?_
  clear m d R;rintro J2 ⟨k,o,g⟩ O u2 R C ⟨D,m⟩;simp only at D m O;have a0:o.length=la.length+lb.length:=by rcases D with ⟨_,h⟩|⟨_,_,h⟩<;>exact h.len
  have a8:g<1000000000:=by rcases D with ⟨_,h⟩|⟨_,h,_⟩;exact h.carry;omega
  have a9:=(show Low o by rcases D with ⟨_,h⟩|⟨_,_,h⟩<;>exact h.low).getD (i+k)
  by_cases P:k<lb.length
  ·have d:Fn la lb i k o g:=by rcases D with ⟨_,h⟩|⟨h,_⟩;exact h;omega
   obtain⟨bb,ob,rfl,eb⟩:=(T.mono (Q.trans C)).at (j:=k) P;have a6:=L.getD k;have A:i+k<(o++[0]).length:=gV;refine G.lT k lb.length<|G.p i k (i+k:Nat)<|G.a E 0 (la.length+lb.length+1) I (i+k) 1 oV<|G.lM none E (0+(i+k)*1) (.int .i64 ((o++[0]).getD (i+k) 0:Nat)) (m.el (Ww A)) ?_;rw[Aau oV];refine G.p g (o.getD (i+k) 0:Nat) ((g+o.getD (i+k) 0:Nat):Int)<|G.lT k lb.length<|G.a X oa la.length c i 1 H<|G.lU none X (oa+i*1) (.int .i64 (la.getD i 0:Nat)) (ea.mono C)<|G.a bb ob lb.length c' k 1 P<|G.lU none bb (ob+k*1) (.int .i64 (lb.getD k 0:Nat)) eb ?_;have hp:la.getD i 0*lb.getD k 0<=999999999*999999999:=Aut oV oV;refine G.mul (la.getD i 0:Nat) (lb.getD k 0:Nat) ((la.getD i 0*lb.getD k 0:Nat):Int) kV (Aws _ _).symm oV oV ?_;obtain⟨t,ht⟩:∃ t,t=o.getD (i+k) 0+la.getD i 0*lb.getD k 0+g:=⟨_,rfl⟩;refine G.p ((g+o.getD (i+k) 0:Nat):Int) ((la.getD i 0*lb.getD k 0:Nat):Int) (t:Int)<|G.p i k (i+k:Nat)<|G.rem (t:Int) 1000000000 ((t%1000000000:Nat):Int) kV oV oV oV oV<|G.a E 0 (la.length+lb.length+1) I (i+k) 1 oV<|G.storeA 1 PH.mt _ E (la.length+lb.length+1) I (i+k) (.int .i64 (t%1000000000:Nat)) kV m (by rw[Ag];exact A) rfl rfl ?_;intro m2 F;rw[Jo,Agn oV]at F;exact G.quo (t:Int) 1000000000 ((t/1000000000:Nat):Int) kV oV oV oV oV<|G.i k<|G.b (O (k+1,o.set (i+k) (t%1000000000),t/1000000000) _ _ _ cV C ⟨.inl ⟨oV,d.step U L P H rfl rfl rfl ht⟩,F⟩ dV)
  refine G.lF k lb.length ?_;by_cases a7:0<g
  ·have d:Fn la lb i lb.length o g/\k=lb.length:=by
    rcases D with ⟨h1,h⟩|⟨_,h,_⟩
    ·obtain rfl:k=lb.length:=oV;exact⟨h,rfl⟩
    omega
   obtain⟨d,rfl⟩:=d;obtain⟨W,f⟩:=d.next H;have A:i+lb.length<(o++[0]).length:=gV;refine G.gT g 0<|G.p i lb.length (i+lb.length:Nat)<|G.a E 0 (la.length+lb.length+1) I (i+lb.length) 1 oV<|G.lM none E (0+(i+lb.length)*1) (.int .i64 ((o++[0]).getD (i+lb.length) 0:Nat)) (m.el (Ww A)) ?_;rw[Aau oV];refine G.p g (o.getD (i+lb.length) 0:Nat) (g:Int)<|G.lF lb.length lb.length<|G.p i lb.length (i+lb.length:Nat)<|G.rem (g:Int) 1000000000 (g:Int) kV oV oV oV oV<|G.a E 0 (la.length+lb.length+1) I (i+lb.length) 1 oV<|G.storeA 1 PH.mt _ E (la.length+lb.length+1) I (i+lb.length) (.int .i64 g) kV m (by rw[Ag];exact A) rfl rfl ?_;intro m2 F;rw[Jo,Agn oV]at F;exact G.quo (g:Int) 1000000000 0 kV oV oV oV oV<|G.p lb.length 1 (lb.length+1:Nat)<|G.b (O (lb.length+1,o.set (i+lb.length) g,0) _ _ _ cV C ⟨.inr ⟨rfl,rfl,f⟩,F⟩ dV)
  refine G.gF g 0 ?_;have d:Fn la lb (i+1) 0 o 0:=by
   rcases D with ⟨h1,h⟩|⟨_,_,h⟩
   ·obtain rfl:k=lb.length:=oV;obtain rfl:g=0:=oV;obtain⟨W,f⟩:=h.next H;rw[Aly oV W]at f;exact f
   exact h
  exact G.i i<|G.b (hJ (i+1,o) _ _ _ cV (Q.trans C) ⟨oV,d,m⟩ dV)
 obtain rfl:i=la.length:=oV;refine G.lF la.length la.length<|G.give PH.mt (Ah (o++[0])) _ kV m (fun _=>.inl rfl) ?_;intro u1 l1 hL;have N:Low (o++[0]):=d.low.append (Low.cons oV Low.nil);have V:val (o++[0])=val la*val lb:=by rw[Ia,Avw,Avb];exact d.done
 have a0:=d.len;refine G.neB b b' kV<|G.c call130 (Ds (b:=!(b==b')) hL N gV) ?_;intro v2 u2 l2 Y;rw[K _ N V]at Y;obtain⟨b5,a5,n5,c5,rfl,_,_⟩:=Y.opn;exact G.r (.agg #[.bool b5,.slice a5 n5 c5]) ⟨rfl,Y⟩
end
section
variable {R Y c k n:Nat}{a ys:List Nat}
structure Ht (a:List Nat)(n k:Nat)(ys:List Nat)(c:Nat):Prop where
 len:ys.length=k
 low:Low ys
 carry:c<1000000000
 sum:val ys+1000000000^k*c=val (a.take k)*n
def Ht.start (a:List Nat)(n:Nat):Ht a n 0 [] 0:=⟨rfl,Low.nil,oV,by simp[val]⟩
def Ht.step {n k c t:Nat}(h:Ht a n k ys c)(d:Low a)(j:n<1000000000)(e:t=c+a.getD k 0*n):Ht a n (k+1) (ys++[t%1000000000]) (t/1000000000):=by
 have f:=d.getD k;have g:=h.carry;have hp:a.getD k 0*n<=999999999*999999999:=Aut oV oV;refine⟨by simp[h.len],h.low.append (Low.cons oV Low.nil),oV,?_⟩;rw[Ia,Aw,h.len,Auc,Avl,G9,At2];have:=h.sum;rw[e,Aui,<-Avl,this,Atz]
def Ht.over (h:Ht a n k ys c)(e:¬ k<a.length)(d:c=0):val ys=val a*n:=by
 have:=h.sum;rw[Atp oV,d]at this;simpa using this
structure Q2 (lx:List Nat)(Y k:Nat)(qs:List Nat)(R:Nat):Prop where
 len:qs.length=lx.length
 low:Low qs
 quo:val (qs.drop k)=val (lx.drop k)/Y
 rest:R=val (lx.drop k)%Y
def Q2.start (d:List Nat)(Y:Nat):Q2 d Y d.length (List.replicate d.length 0) 0:=by
 refine⟨mV,Low.zeros _,?_,?_⟩
 ·rw[Aue mV,Aue oV];simp[val]
 rw[Aue oV];simp[val]
def W6 {R Y x:Nat}(d:R<Y)(e:x<1000000000):(x+1000000000*R)/Y<1000000000:=by
 rw[Au4 oV];have:1000000000*(R+1)<=1000000000*Y:=Aul _ d;omega
def Q2.step {d e:List Nat}(h:Q2 d Y (k+1) e R)(A:Low d)(v:k<d.length)(g:0<Y) :
 Q2 d Y k (e.set k ((d.getD k 0+1000000000*R)/Y)) ((d.getD k 0+1000000000*R)%Y):=by
 have u:R<Y:=by rw[h.rest];exact Au3 _ g
 have z:=h.len;have j:(e.set k ((d.getD k 0+1000000000*R)/Y)).drop k=(d.getD k 0+1000000000*R)/Y::e.drop (k+1):=by
  rw[B6 _ k gV,Ay5 oV]
  congr 1
  rw[As7,Awv oV];rfl
 have m:=B6 d k v;have f:val (d.drop k)=d.getD k 0+1000000000*R+Y*(1000000000*(val (d.drop (k+1))/Y)):=by
  rw[m];simp only[val];have:=Avf (val (d.drop (k+1))) Y;rw[<-h.rest]at this;have t:1000000000*val (d.drop (k+1))=1000000000*(Y*(val (d.drop (k+1))/Y))+1000000000*R:=by rw[<-Aui,this]
  rw[t,Nat.mul_left_comm Y 1000000000];omega
 refine⟨by simpa using z,h.low.set _ (W6 u (A.getD k)),?_,?_⟩
 ·rw[j,f,Nat.add_mul_div_left _ _ g];simp only[val];rw[h.quo]
 rw[f,Nat.add_mul_mod_self_left]
def Anm {Y R y1 p j top h:Nat}(z:Y=y1*p+j)(u:j<p)(d:0<y1)(v:R=top*p+h)(t:h<p):top/(y1+1)<=R/Y/\R/Y<=top/y1:=by
 have hp:0<p:=oV;have e:0<Y:=by have:=Axa d hp;omega
 constructor
 ·rw[Awn e];have f:Y<=(y1+1)*p:=by rw[At2];omega
  have g:top/(y1+1)*(y1+1)<=top:=Ay7 _ _
  calc top/(y1+1)*Y<=top/(y1+1)*((y1+1)*p):=Aul _ f
   _=top/(y1+1)*(y1+1)*p:=by rw[Atz]
   _<=top*p:=Ats _ g
   _<=R:=oV
 rw[Awn d];have f:R/Y*Y<=R:=Ay7 _ _;have g:R/Y*(y1*p)<=R/Y*Y:=Aul _ oV;have m:R/Y*y1*p<(top+1)*p:=by rw[Atz,At2];omega
 exact Nat.le_of_lt_succ (Ayz m)
def Aqn (R n:Nat)(t:0<n)(m:(Aa R).length<=n+1)(j:n<=(Aa R).length) :
 ∃ g,R=((Aa R).getD (n-1) 0+(Aa R).getD n 0*1000000000)*1000000000^(n-1)+g/\g<1000000000^(n-1):=by
 refine⟨val ((Aa R).take (n-1)),?_,?_⟩
 ·have h:=Fj (Aa R) (n-1) oV;rw[Ai]at h;have f:=B6 (Aa R) (n-1) oV;rw[show n-1+1=n by omega]at f;rcases At8 n (Aa R).length with e|e
  ·have d:=B6 (Aa R) n e;rw[Aue (show (Aa R).length<=n+1 by omega)]at d;rw[f,d]at h;simp only[val,Avw,Avb]at h;rw[At7 _ (1000000000^(n-1)),At7 ((Aa R).getD n 0)];omega
  rw[Aue e]at f;rw[f]at h;simp only[val]at h;have h0:(Aa R).getD n 0=0:=by rw[As7,Att e];rfl
  rw[h0,At7 _ (1000000000^(n-1))];simp only[Ax5,Avw,Avb]at h⊢;omega
 have:=I9 ((Am R).take (n-1));rwa[Atm,Av6 oV]at this
end
section
variable {n:Nat}{u:PH}
def Dj.lim {b:Bool}{a:Option Addr}{n c k:Nat}(h:Dj u (.agg #[.bool b,.slice a n c]) (Bt false k)):Cb u (.slice a n c) (Aa k):=by
 obtain⟨_,_,_,d,e⟩:=h;simp only[Value.agg.injEq,Axh,Ave,Value.bool.injEq,Value.slice.injEq,and_true]at d;obtain⟨_,rfl,rfl,rfl⟩:=d;rw[I2]at e;exact e
def H1 {V:Value}{la:List Nat}(P:Cb u V la)(D:Low la)(sa:la.length<=1000000000000)(hn:n<1000000000) :
 Fn0 prog 187 [V,.int .i64 n] u fun v T=>Cb T v (Aa (val la*n)):=by
 obtain⟨a,O,rfl,a3⟩:=P.opn;refine Fn0.o func187<|G.l (ι:=Nat×List Nat×Nat×Value) (fun i=>[(0,sV a la.length O),(1,iV n),(5,.v i.2.2.2),(6,iV i.2.2.1),(7,iV i.1)]) (fun _=>[])
  (fun i _ Q=>(i.1<=la.length+1/\(la.length+1<=i.1->i.2.2.1=0))/\Ae PH.mt Q i.2.2.2 3 1 (Ah i.2.1)/\Ht la n i.1 i.2.1 i.2.2.1) (fun i=>la.length+2-i.1) (0,[],0,.slice none 0 0)
  ⟨⟨mV,fun _=>rfl⟩,Ae.nil _ _ _,Ht.start _ _⟩ ?_
 rintro J ⟨k,ys,c,A⟩ K T Q m ⟨hk,z,d⟩;simp only at hk z d K;have a2:=d.carry;have a0:=D.getD k;have hp:la.getD k 0*n<=999999999*999999999:=Aut oV oV;obtain⟨X,Z,rfl⟩:=z.shape;obtain⟨A,C⟩:∃ A,A=Value.slice X (Ah ys).length Z:=⟨_,rfl⟩;rw[<-C]at z⊢;obtain⟨t,L⟩:∃ t,t=c+la.getD k 0*n:=⟨_,rfl⟩;have f:=d.step D hn L;by_cases h:k<la.length
 ·refine G.lT k la.length<|G.lT k la.length ?_;obtain⟨N,R,rfl,ea⟩:=(P.mono m).at (j:=k) h;refine G.a N R la.length O k 1 h<|G.lU none N (R+k*1) (.int .i64 (la.getD k 0:Nat)) ea<|G.mul (la.getD k 0:Nat) (n:Int) ((la.getD k 0*n:Nat):Int) kV (Aws _ _).symm oV oV<|G.p c (la.getD k 0*n:Nat) t<|G.rem (t:Int) 1000000000 ((t%1000000000:Nat):Int) kV oV oV oV oV<|G.B 3 1 8 (.int .i64 0) [.int .i64 (t%1000000000:Nat)] (Az [t%1000000000]) ?_;intro g U E H;refine G.append 3 1 8 (.int .i64 0) PH.mt (Ah ys) [.int .i64 (t%1000000000:Nat)] A g 0 1 1 kV rfl rfl oV z H (Az [t%1000000000]) rfl oV (by rw[Ag,d.len];omega) (by rw[Ag,d.len];omega) ?_;intro F m2 e;rw[Cr]at e;exact G.quo (t:Int) 1000000000 ((t/1000000000:Nat):Int) kV oV oV oV oV<|G.i k<|G.b (K (k+1,ys++[t%1000000000],t/1000000000,F) _ _ _ cV (m.trans E) ⟨⟨oV,dV⟩,e,f⟩ dV)
 have hz:=Hx h;rw[hz,Ax5,Avb]at L;subst L;refine G.lF k la.length ?_;by_cases a1:0<t
 ·refine G.gT t 0<|G.lF k la.length<|G.rem (t:Int) 1000000000 ((t%1000000000:Nat):Int) kV oV oV oV oV<|G.B 3 1 8 (.int .i64 0) [.int .i64 (t%1000000000:Nat)] (Az [t%1000000000]) ?_;intro g U E H;refine G.append 3 1 8 (.int .i64 0) PH.mt (Ah ys) [.int .i64 (t%1000000000:Nat)] A g 0 1 1 kV rfl rfl oV z H (Az [t%1000000000]) rfl oV (by rw[Ag,d.len];omega) (by rw[Ag,d.len];omega) ?_;intro F m2 e;rw[Cr]at e;exact G.quo (t:Int) 1000000000 ((t/1000000000:Nat):Int) kV oV oV oV oV<|G.i k<|G.b (K (k+1,ys++[t%1000000000],t/1000000000,F) _ _ _ cV (m.trans E) ⟨⟨oV,dV⟩,e,f⟩ dV)
 refine G.gF t 0<|G.give PH.mt (Ah ys) A kV z (fun _=>.inl rfl) ?_;intro U E hL;have a4:=d.len;subst C;refine G.c call130 (Ds (b:=false) hL d.low oV) ?_;intro F u2 l2 I;rw[d.over h oV]at I;obtain⟨b5,W,n5,Y,rfl,_,_⟩:=I.opn;exact G.r (.slice W n5 Y) ⟨rfl,I.lim⟩
end
section
variable {R Y hi lo mid:Nat}{z:Int}
def L3 (m n:Nat):((m:Int)).tdiv n=((m/n:Nat):Int):=rfl
def Po (m n:Nat):((m:Int)).tmod n=((m%n:Nat):Int):=rfl
theorem Aik (y z:Int):Bt (!(decide (y<0)==decide (z<0))) (y.natAbs/z.natAbs)=y.tdiv z:=by
 unfold Bt;rcases Axn y 0 with d|d<;>rcases Axn z 0 with e|e
 ·rw[decide_eq_true d,decide_eq_true e];obtain⟨m,rfl⟩:∃ m:Nat,y = -(m:Int):=⟨y.natAbs,oV⟩;obtain⟨n,rfl⟩:∃ n:Nat,z = -(n:Int):=⟨z.natAbs,oV⟩;rw[Azb,Int.tdiv_neg,A0l,L3,Avp,Avp];rfl
 ·rw[decide_eq_true d,decide_eq_false (show ¬ z<0 by omega)];obtain⟨m,rfl⟩:∃ m:Nat,y = -(m:Int):=⟨y.natAbs,oV⟩;obtain⟨n,rfl⟩:∃ n:Nat,z=(n:Int):=⟨z.natAbs,oV⟩;rw[Azb,L3,Avp];rfl
 ·rw[decide_eq_false (show ¬ y<0 by omega),decide_eq_true e];obtain⟨m,rfl⟩:∃ m:Nat,y=(m:Int):=⟨y.natAbs,oV⟩;obtain⟨n,rfl⟩:∃ n:Nat,z = -(n:Int):=⟨z.natAbs,oV⟩;rw[Int.tdiv_neg,L3,Avp];rfl
 grind
theorem Ahi (y z:Int):Bt (decide (y<0)) (y.natAbs%z.natAbs)=y.tmod z:=by
 unfold Bt;have e:∀ m:Nat,((m:Int)).tmod z=((m%z.natAbs:Nat):Int):=by
  intro m;rcases Axn z 0 with f|f
  ·obtain⟨n,rfl⟩:∃ n:Nat,z = -(n:Int):=⟨z.natAbs,oV⟩;rw[Int.tmod_neg,Po,Avp];rfl
  grind
 rcases Axn y 0 with d|d
 ·rw[decide_eq_true d];obtain⟨m,rfl⟩:∃ m:Nat,y = -(m:Int):=⟨y.natAbs,oV⟩;rw[Int.neg_tmod,e,Avp];rfl
 grind
def Aqa {n:Nat}(h:n≠0):0<(Aa n).getD ((Aa n).length-1) 0:=by
 have d:=H8 (Am n);rw[Ai]at d;have e:=congrArg List.length d;rw[Atm]at e;have hp:0<(Aa n).length:=Cl.2 oV;have g:=Jx (Aa n) (Aa n).length;have f:=Rh (Aa n) (Aa n).length oV;rw[show Bl (Aa n) (Aa n).length=(Aa n).length by omega]at f;omega
def Ad5 (h:z<=0):sgn z<=0:=by
 rcases Awd z 0 with d|d|d
 ·rw[Dc d];decide
 ·rw[d];decide
 omega
def Ak3 (h:0<=z):0<=sgn z:=by
 rcases Awd z 0 with d|d|d
 ·omega
 ·rw[d];decide
 rw[Cg d];decide
def Ani (g:Nat)(u:PH)(x:Nat)(e:Ex u g 0 1 [.int .i64 x]):Ad u (.slice (some ⟨g,0,none⟩) 1 1) 1 (Ah [x]):=⟨_,1,rfl,by simp[Ah],fun j v d=>⟨g,0,rfl,e j v d⟩⟩
def Ad2 (x:Nat)(l:List Nat):Ah [x]++Ah l=Ah (x::l):=rfl
structure Tt (Y R lo hi:Nat):Prop where
 a:lo<=R/Y
 b:R/Y<=hi
 c:hi<=999999999
def Tt.up (h:Tt Y R lo hi)(d:0<Y)(e:Y*mid<=R):Tt Y R mid hi:=⟨by rw[Awn d,At7];exact e,h.b,h.c⟩
def Tt.down (h:Tt Y R lo hi)(d:0<Y)(f:¬ Y*mid<=R)(h0:0<mid)(e:mid<=hi):Tt Y R lo (mid-1):=by
 have:R/Y<mid:=by rw[Au4 d,At7];omega
 exact⟨h.a,oV,by have:=h.c;omega⟩
def Yl {u:PH}{x x':Value}{y z:Int}(hx:Dj u x y)(b7:Dj u x' z)(sy:nl y.natAbs<=100000000000)(sz:nl z.natAbs<=100000000000)(bq:z≠0) :
 Fn0 prog 128 [x,x'] u fun v u'=>∃ a b,v=.tuple #[a,b]/\Dj u' a (y.tdiv z)/\Dj u' b (y.tmod z):=by
 obtain⟨b,a,n,c,rfl,hb,hi⟩:=hx.opn;obtain⟨b',a',n',c',rfl,am,ax⟩:=b7.opn;obtain⟨rfl,_⟩:=hi.len;obtain⟨rfl,_⟩:=ax.len;have az:=Am y.natAbs;have bs:(Aa y.natAbs).length<=100000000000:=sy;have bt:(Aa z.natAbs).length<=100000000000:=sz;have N:0<z.natAbs:=oV;have be:0<(Aa z.natAbs).length:=Cl.2 N;have ad:Bt (!(b==b')) (y.natAbs/z.natAbs)=y.tdiv z:=by rw[hb,am];exact Aik y z
 have ae:Bt b (y.natAbs%z.natAbs)=y.tmod z:=by rw[hb];exact Ahi y z
 have bh:=Ai y.natAbs;rw[<-bh]at ad ae;generalize Aa y.natAbs=lx at *
 have hY:=Ai z.natAbs;have X:=Am z.natAbs;have a9:=Aqa (n:=z.natAbs) oV;generalize z.natAbs=Y at *
 clear hb am hx b7 sy sz;refine Fn0.o func128<|G.make 3 1 8 (.int .i64 0) lx.length kV rfl rfl oV oV oV ?_;rintro vq m1 C ⟨aq,rfl⟩;rw[Q7]at C;refine G.sub (lx.length:Int) 1 ((lx.length:Int)-1) kV rfl oV oV<|G.l (ι:=Int×Nat×List Nat×Value) (fun i=>[(2,.p 0 0),(3,.p 1 0),(4,.p 2 0),(5,.p 3 0),(6,.v i.2.2.2),(7,sV (some aq) lx.length lx.length),(8,iV i.1)])
  (fun _=>[(0,⟨55,[bV b,sV a lx.length c]⟩),(1,⟨55,[bV b',sV a' (Aa Y).length c']⟩),(2,⟨55,[bV false,sV none 0 0]⟩),(3,⟨55,[bV false,sV none 0 0]⟩)])
  (fun i u' m'=>(-1<=i.1/\i.1<lx.length)/\Q2 lx Y (i.1+1).toNat i.2.2.1 i.2.1/\Cb u' i.2.2.2 (Aa i.2.1)/\Ae PH.mt m' (.slice (some aq) lx.length lx.length) 3 1 (Ah i.2.2.1)) (fun i=>(i.1+1).toNat) ((lx.length:Int)-1,0,List.replicate lx.length 0,.slice none 0 0)
  ⟨⟨gV,gV⟩,by rw[show (((lx.length:Int)-1)+1).toNat=lx.length by omega];exact Q2.start _ _,by rw[Bc];exact Ad.nil _ _ _ _,C⟩ ?_
 clear C m1;rintro J ⟨zi,R,qs,vr⟩ hJ u' m' ai ⟨bj,A,hR,C⟩;simp only at bj A hR C hJ;obtain⟨ar,cr,rfl,bp⟩:=hR.opn;by_cases b4:0<=zi
 ·obtain⟨k,rfl⟩:=Ax9 b4;rw[show ((k:Int)+1).toNat=k+1 by omega]at A;have hk:k<lx.length:=oV;have al:R<Y:=by rw[A.rest];exact Au3 _ N
  have b9:=az.getD k;have m:=A.step az hk N;have ao:=W6 al b9;obtain⟨F,bm,e⟩:=C.ptr (by intro e;have:=congrArg List.length e;rw[Ag,A.len,Av1]at this;omega);simp only[Value.slice.injEq,Atd]at e;obtain⟨rfl,_,_⟩:=e;obtain⟨ba,oa,rfl,ea⟩:=(hi.mono ai).at (j:=k) hk;refine G.hT k 0<|G.a ba oa lx.length c k 1 hk<|G.lU none ba (oa+k*1) (.int .i64 (lx.getD k 0:Nat)) ea<|G.B 3 1 8 (.int .i64 0) [.int .i64 (lx.getD k 0:Nat)] (Az [lx.getD k 0]) ?_;intro g u1 l1 e1;have ah:(Aa R).length<=(Aa Y).length:=El oV;refine G.appendV 3 1 8 (.int .i64 0) (Ah [lx.getD k 0]) (Ah (Aa R)) (some ⟨g,0,none⟩) 1 ar (Aa R).length cr kV oV (Ani g u1 _ e1) (Az _) (hR.mono l1) (Az _) (by rw[Ag,Ag];simp;omega) (by rw[Ag,Ag];simp;omega) ?_;intro v2 u2 l2 h2;rw[Ad2]at h2;obtain⟨a2,c2,rfl,bn⟩:=Cb.opn h2;refine G.c call130 (Ds (b:=false) (l:=lx.getD k 0::Aa R) h2 (Low.cons b9 (Am R)) gV) ?_;intro v3 u3 l3 h3;rw[show val (lx.getD k 0::Aa R)=lx.getD k 0+1000000000*R by simp only[val];rw[Ai]]at h3;generalize lx.getD k 0+1000000000*R=d at *
  obtain⟨b3,a3,n3,c3,rfl,_,_⟩:=h3.opn;have ag:=h3.lim;obtain⟨rfl,bo⟩:=ag.len;have ab:(Aa d).length<=(Aa Y).length+1:=by
   have h5:=ao;rw[Au4 N]at h5;refine A0 ?_;have H:=Ck Y;rw[Auc];have h7:1000000000*Y<1000000000*1000000000^nl Y:=Nat.mul_lt_mul_of_pos_left H oV;have h8:(1000000000:Nat)^(Aa Y).length=1000000000^nl Y:=rfl;rw[h8,At7 (1000000000^nl Y)];omega
  have ay:=ax.mono (((ai.trans l1).trans l2).trans l3);refine G.c call132 (Jj ag ay (by show (Aa d).length<=_;omega) (by show (Aa Y).length<=_;omega)) ?_;rintro v4 u4 l4 rfl;have L:=ag.mono l4;have O:=ay.mono l4;have T:PH.le u u4:=(((ai.trans l1).trans l2).trans l3).trans l4;by_cases bc:Y<=d
  ·refine G.hT' (sgn ((d:Int)-Y)) 0 (Ak3 oV) ?_;have aj:(Aa Y).length<=(Aa d).length:=El bc;obtain⟨rl,bf,bg⟩:=Aqn d (Aa Y).length be ab aj;obtain⟨br,Z,rfl,er⟩:=L.at (j:=(Aa Y).length-1) oV;have bk:=(Am d).getD ((Aa Y).length-1);have bl:=(Am d).getD (Aa Y).length;have af:=X.getD ((Aa Y).length-1);obtain⟨P,oy,rfl,ey⟩:=O.at (j:=(Aa Y).length-1) oV;have a0:Y=(Aa Y).getD ((Aa Y).length-1) 0*1000000000^((Aa Y).length-1)+val ((Aa Y).take ((Aa Y).length-1)):=by
    have h5:=Fj (Aa Y) ((Aa Y).length-1) oV;rw[hY,B6 _ _ (show (Aa Y).length-1<(Aa Y).length by omega),Aue oV]at h5;simp only[val,Avw,Avb]at h5;rw[At7];omega
   have bi:val ((Aa Y).take ((Aa Y).length-1))<1000000000^((Aa Y).length-1):=by
    have:=I9 (X.take ((Aa Y).length-1));rwa[Atm,Av6 oV]at this
   have ap:=Anm a0 bi a9 bf bg;refine G.s ((Aa Y).length:Int) 1 (((Aa Y).length-1:Nat):Int)<|G.a br Z (Aa d).length c3 ((Aa Y).length-1) 1 oV<|G.lU none br (Z+((Aa Y).length-1)*1) (.int .i64 ((Aa d).getD ((Aa Y).length-1) 0:Nat)) er ?_;obtain⟨top,ak⟩:∃ top,top=(Aa d).getD ((Aa Y).length-1) 0+(Aa d).getD (Aa Y).length 0*1000000000:=⟨_,rfl⟩;rw[<-ak]at ap;have b1:∀ k:Nat,((min (999999999:Int) (k:Int)))=((min 999999999 k:Nat):Int):=fun k=>oV;obtain⟨h1,V⟩:∃ h1,h1=min 999999999 (top/(Aa Y).getD ((Aa Y).length-1) 0):=⟨_,rfl⟩;obtain⟨l0,W⟩:∃ l0,l0=min h1 (top/((Aa Y).getD ((Aa Y).length-1) 0+1)):=⟨_,rfl⟩;have t:Tt Y d l0 h1:=⟨oV,oV,oV⟩;by_cases a4:(Aa Y).length<(Aa d).length
   ·refine G.gT ((Aa d).length:Int) ((Aa Y).length:Int) ?_;obtain⟨_,_,e9,bb⟩:=L.at (j:=(Aa Y).length) a4;simp only[Atd,Addr.mk.injEq,and_true]at e9;obtain⟨rfl,rfl⟩:=e9;refine G.a br Z (Aa d).length c3 (Aa Y).length 1 a4<|G.lU none br (Z+(Aa Y).length*1) (.int .i64 ((Aa d).getD (Aa Y).length 0:Nat)) bb<|G.mul ((Aa d).getD (Aa Y).length 0:Nat) 1000000000 (((Aa d).getD (Aa Y).length 0*1000000000:Nat):Int) kV oV oV oV<|G.p ((Aa d).getD ((Aa Y).length-1) 0:Nat) (((Aa d).getD (Aa Y).length 0*1000000000:Nat):Int) (top:Int) ?_;obtain⟨y1,aa⟩:∃ y1,y1=(Aa Y).getD ((Aa Y).length-1) 0:=⟨_,rfl⟩;rw[<-aa]at ey V W a9 af;refine G.s ((Aa Y).length:Int) 1 (((Aa Y).length-1:Nat):Int)<|G.a P oy (Aa Y).length c' ((Aa Y).length-1) 1 oV<|G.lU none P (oy+((Aa Y).length-1)*1) (.int .i64 (y1:Nat)) ey<|G.quo (top:Int) (y1:Int) ((top/y1:Nat):Int) kV oV oV oV (Axi _ _).symm<|G.minI [3,3] 999999999 ((top/y1:Nat):Int) (h1:Int) kV (by rw[b1,V])<|G.s ((Aa Y).length:Int) 1 (((Aa Y).length-1:Nat):Int)<|G.a P oy (Aa Y).length c' ((Aa Y).length-1) 1 oV<|G.lU none P (oy+((Aa Y).length-1)*1) (.int .i64 (y1:Nat)) ey<|G.i y1<|G.quo (top:Int) ((y1+1:Nat):Int) ((top/(y1+1):Nat):Int) kV oV oV oV (Axi _ _).symm<|G.minI [3,3] (h1:Int) ((top/(y1+1):Nat):Int) (l0:Int) kV (by rw[W];omega)<|G.l (ι:=Nat×Nat) (fun i=>[(2,.p 0 0),(3,.p 1 0),(4,.p 2 0),(5,.p 3 0),(6,sV (some ⟨br,Z,none⟩) (Aa d).length c3),(7,sV (some ⟨F,0,none⟩) lx.length lx.length),(8,iV k),(9,iV i.1),(10,iV i.2)])
     (fun _=>[(0,⟨55,[bV b,sV (some ⟨ba,oa,none⟩) lx.length c]⟩),(1,⟨55,[bV b',sV (some ⟨P,oy,none⟩) (Aa Y).length c']⟩),(2,⟨55,[bV false,sV none 0 0]⟩),(3,⟨55,[bV false,sV none 0 0]⟩)])
     (fun i _ m'=>Tt Y d i.1 i.2/\Ae PH.mt m' (.slice (some ⟨F,0,none⟩) lx.length lx.length) 3 1 (Ah qs)) (fun i=>i.2-i.1) (l0,h1) ⟨t,C⟩ ?_
    clear t C W V;rintro J2 ⟨lo,h⟩ K u5 m' f ⟨Q,C⟩;simp only at Q C K;have au:=Q.a;have av:=Q.b;have aw:=Q.c;by_cases b0:lo<h
    ·refine G.lT lo h<|G.p lo h (lo+h:Nat)<|G.p (lo+h:Nat) 1 (lo+h+1:Nat) ?_;obtain⟨mid,ac⟩:∃ mid,mid=(lo+h+1)/2:=⟨_,rfl⟩;refine G.quo ((lo+h+1:Nat):Int) 2 (mid:Int) kV oV oV oV oV<|G.c call187 (H1 (n:=mid) (O.mono f) X oV oV) ?_;intro v6 u6 U H;rw[hY]at H;obtain⟨a6,c6,rfl,a1⟩:=H.opn;have b6:(Aa (Y*mid)).length<=200000000002:=by
      have h5:=Fz Y mid;have h7:nl mid<=1:=A0 oV;have h8:nl Y=(Aa Y).length:=rfl;have h9:nl (Y*mid)=(Aa (Y*mid)).length:=rfl;omega
     refine G.c call132 (Jj H ((L.mono f).mono U) (by show (Aa (Y*mid)).length<=_;omega) (by show (Aa d).length<=_;omega)) ?_;rintro v7 u7 l7 rfl;by_cases D:Y*mid<=d
     ·exact G.kT' (sgn (((Y*mid:Nat):Int)-d)) 0 (Ad5 oV)<|G.b (K (mid,h) _ _ _ cV ((f.trans U).trans l7) ⟨Q.up N D,C⟩ dV)
     exact G.kF' (sgn (((Y*mid:Nat):Int)-d)) 0 (by rw[Cg oV];decide)<|G.s mid 1 (mid-1:Nat)<|G.b (K (lo,mid-1) _ _ _ cV ((f.trans U).trans l7) ⟨Q.down N D oV oV,C⟩ dV)
    obtain rfl:lo=d / Y:=oV;refine G.lF (d / Y:Nat) h<|G.a F 0 lx.length lx.length k 1 hk<|G.storeA 1 PH.mt _ F lx.length lx.length k (.int .i64 (d / Y:Nat)) kV C (by rw[Ag,A.len];exact hk) rfl rfl ?_;intro m2 I;rw[Jo]at I;by_cases b5:0<d / Y
    ·refine G.gT (d / Y:Nat) 0<|G.c call187 (H1 (n:=d / Y) (O.mono f) X oV oV) ?_;intro v6 u6 U H;rw[hY]at H;have E:Y*(d / Y)<=d:=A1n d Y;obtain⟨a6,c6,rfl,a1⟩:=H.opn;refine G.c call133 (Kd ((L.mono f).mono U) H (Am _) (Am _) oV (El E) (by rw[Ai,Ai];exact E)) ?_;rintro v7 u7 l7 ⟨l,g1,g2,g3,g4⟩;obtain⟨a7,c7,rfl,an⟩:=g1.opn;refine G.c call130 (Ds (b:=false) g1 g2 oV) ?_;intro v8 u8 l8 h8;rw[g3,Ai,Ai,show d - Y*(d / Y)=d % Y by have:=Avf d Y;omega]at h8;obtain⟨b8,a8,n8,c8,rfl,_,_⟩:=h8.opn;refine G.sub (k:Int) 1 ((k:Int)-1) kV rfl oV oV<|G.b (hJ ((k:Int)-1,d % Y,qs.set k (d / Y),.slice a8 n8 c8) _ _ _ cV ((((T.trans f).trans U).trans l7).trans l8) ⟨⟨dV,dV⟩,?_,h8.lim,I⟩ dV);rw[show (((k:Int)-1)+1).toNat=k by omega];exact m
    refine G.gF (d / Y:Nat) 0<|G.sub (k:Int) 1 ((k:Int)-1) kV rfl oV oV ?_;have a5:d % Y=d:=by have:=Avf d Y;rw[show d / Y=0 by omega,Avw]at this;omega
    rw[a5]at m;refine G.b (hJ ((k:Int)-1,d,qs.set k (d / Y),.slice (some ⟨br,Z,none⟩) (Aa d).length c3) _ _ _ cV (T.trans f) ⟨⟨dV,dV⟩,?_,L.mono f,I⟩ dV);rw[show (((k:Int)-1)+1).toNat=k by omega];exact m
   refine G.gF ((Aa d).length:Int) ((Aa Y).length:Int) ?_;have h0:=Hx (l:=Aa d) (k:=(Aa Y).length) oV;rw[h0,Ax5,Avb]at ak;rw[<-ak];obtain⟨y1,aa⟩:∃ y1,y1=(Aa Y).getD ((Aa Y).length-1) 0:=⟨_,rfl⟩;rw[<-aa]at ey V W a9 af;refine G.s ((Aa Y).length:Int) 1 (((Aa Y).length-1:Nat):Int)<|G.a P oy (Aa Y).length c' ((Aa Y).length-1) 1 oV<|G.lU none P (oy+((Aa Y).length-1)*1) (.int .i64 (y1:Nat)) ey<|G.quo (top:Int) (y1:Int) ((top/y1:Nat):Int) kV oV oV oV (Axi _ _).symm<|G.minI [3,3] 999999999 ((top/y1:Nat):Int) (h1:Int) kV (by rw[b1,V])<|G.s ((Aa Y).length:Int) 1 (((Aa Y).length-1:Nat):Int)<|G.a P oy (Aa Y).length c' ((Aa Y).length-1) 1 oV<|G.lU none P (oy+((Aa Y).length-1)*1) (.int .i64 (y1:Nat)) ey<|G.i y1<|G.quo (top:Int) ((y1+1:Nat):Int) ((top/(y1+1):Nat):Int) kV oV oV oV (Axi _ _).symm<|G.minI [3,3] (h1:Int) ((top/(y1+1):Nat):Int) (l0:Int) kV (by rw[W];omega)<|G.l (ι:=Nat×Nat) (fun i=>[(2,.p 0 0),(3,.p 1 0),(4,.p 2 0),(5,.p 3 0),(6,sV (some ⟨br,Z,none⟩) (Aa d).length c3),(7,sV (some ⟨F,0,none⟩) lx.length lx.length),(8,iV k),(9,iV i.1),(10,iV i.2)])
    (fun _=>[(0,⟨55,[bV b,sV (some ⟨ba,oa,none⟩) lx.length c]⟩),(1,⟨55,[bV b',sV (some ⟨P,oy,none⟩) (Aa Y).length c']⟩),(2,⟨55,[bV false,sV none 0 0]⟩),(3,⟨55,[bV false,sV none 0 0]⟩)])
    (fun i _ m'=>Tt Y d i.1 i.2/\Ae PH.mt m' (.slice (some ⟨F,0,none⟩) lx.length lx.length) 3 1 (Ah qs)) (fun i=>i.2-i.1) (l0,h1) ⟨t,C⟩ ?_
   clear t C W V;rintro J2 ⟨lo,h⟩ K u5 m' f ⟨Q,C⟩;simp only at Q C K;have au:=Q.a;have av:=Q.b;have aw:=Q.c;by_cases b0:lo<h
   ·refine G.lT lo h<|G.p lo h (lo+h:Nat)<|G.p (lo+h:Nat) 1 (lo+h+1:Nat) ?_;obtain⟨mid,ac⟩:∃ mid,mid=(lo+h+1)/2:=⟨_,rfl⟩;refine G.quo ((lo+h+1:Nat):Int) 2 (mid:Int) kV oV oV oV oV<|G.c call187 (H1 (n:=mid) (O.mono f) X oV oV) ?_;intro v6 u6 U H;rw[hY]at H;obtain⟨a6,c6,rfl,a1⟩:=H.opn;have b6:(Aa (Y*mid)).length<=200000000002:=by
     have h5:=Fz Y mid;have h7:nl mid<=1:=A0 oV;have h8:nl Y=(Aa Y).length:=rfl;have h9:nl (Y*mid)=(Aa (Y*mid)).length:=rfl;omega
    refine G.c call132 (Jj H ((L.mono f).mono U) (by show (Aa (Y*mid)).length<=_;omega) (by show (Aa d).length<=_;omega)) ?_;rintro v7 u7 l7 rfl;by_cases D:Y*mid<=d
    ·exact G.kT' (sgn (((Y*mid:Nat):Int)-d)) 0 (Ad5 oV)<|G.b (K (mid,h) _ _ _ cV ((f.trans U).trans l7) ⟨Q.up N D,C⟩ dV)
    exact G.kF' (sgn (((Y*mid:Nat):Int)-d)) 0 (by rw[Cg oV];decide)<|G.s mid 1 (mid-1:Nat)<|G.b (K (lo,mid-1) _ _ _ cV ((f.trans U).trans l7) ⟨Q.down N D oV oV,C⟩ dV)
   obtain rfl:lo=d / Y:=oV;refine G.lF (d / Y:Nat) h<|G.a F 0 lx.length lx.length k 1 hk<|G.storeA 1 PH.mt _ F lx.length lx.length k (.int .i64 (d / Y:Nat)) kV C (by rw[Ag,A.len];exact hk) rfl rfl ?_;intro m2 I;rw[Jo]at I;by_cases b5:0<d / Y
   ·refine G.gT (d / Y:Nat) 0<|G.c call187 (H1 (n:=d / Y) (O.mono f) X oV oV) ?_;intro v6 u6 U H;rw[hY]at H;have E:Y*(d / Y)<=d:=A1n d Y;obtain⟨a6,c6,rfl,a1⟩:=H.opn;refine G.c call133 (Kd ((L.mono f).mono U) H (Am _) (Am _) oV (El E) (by rw[Ai,Ai];exact E)) ?_;rintro v7 u7 l7 ⟨l,g1,g2,g3,g4⟩;obtain⟨a7,c7,rfl,an⟩:=g1.opn;refine G.c call130 (Ds (b:=false) g1 g2 oV) ?_;intro v8 u8 l8 h8;rw[g3,Ai,Ai,show d - Y*(d / Y)=d % Y by have:=Avf d Y;omega]at h8;obtain⟨b8,a8,n8,c8,rfl,_,_⟩:=h8.opn;refine G.sub (k:Int) 1 ((k:Int)-1) kV rfl oV oV<|G.b (hJ ((k:Int)-1,d % Y,qs.set k (d / Y),.slice a8 n8 c8) _ _ _ cV ((((T.trans f).trans U).trans l7).trans l8) ⟨⟨dV,dV⟩,?_,h8.lim,I⟩ dV);rw[show (((k:Int)-1)+1).toNat=k by omega];exact m
   refine G.gF (d / Y:Nat) 0<|G.sub (k:Int) 1 ((k:Int)-1) kV rfl oV oV ?_;have a5:d % Y=d:=by have:=Avf d Y;rw[show d / Y=0 by omega,Avw]at this;omega
   rw[a5]at m;refine G.b (hJ ((k:Int)-1,d,qs.set k (d / Y),.slice (some ⟨br,Z,none⟩) (Aa d).length c3) _ _ _ cV (T.trans f) ⟨⟨dV,dV⟩,?_,L.mono f,I⟩ dV);rw[show (((k:Int)-1)+1).toNat=k by omega];exact m
  refine G.hF' (sgn ((d:Int)-Y)) 0 (by rw[Dc oV];decide) ?_;obtain⟨l0,W⟩:∃ l0:Nat,l0=0:=⟨_,rfl⟩;obtain⟨h1,V⟩:∃ h1:Nat,h1=0:=⟨_,rfl⟩;have t:Tt Y d 0 0:=by
   have:d / Y=0:=Aw1 oV;exact⟨oV,oV,oV⟩
  refine G.l (ι:=Nat×Nat) (fun i=>[(2,.p 0 0),(3,.p 1 0),(4,.p 2 0),(5,.p 3 0),(6,sV a3 (Aa d).length c3),(7,sV (some ⟨F,0,none⟩) lx.length lx.length),(8,iV k),(9,iV i.1),(10,iV i.2)])
   (fun _=>[(0,⟨55,[bV b,sV (some ⟨ba,oa,none⟩) lx.length c]⟩),(1,⟨55,[bV b',sV a' (Aa Y).length c']⟩),(2,⟨55,[bV false,sV none 0 0]⟩),(3,⟨55,[bV false,sV none 0 0]⟩)])
   (fun i _ m'=>Tt Y d i.1 i.2/\Ae PH.mt m' (.slice (some ⟨F,0,none⟩) lx.length lx.length) 3 1 (Ah qs)) (fun i=>i.2-i.1) (0,0) ⟨t,C⟩ ?_
  clear t C W V;rintro J2 ⟨lo,h⟩ K u5 m' f ⟨Q,C⟩;simp only at Q C K;have au:=Q.a;have av:=Q.b;have aw:=Q.c;by_cases b0:lo<h
  ·refine G.lT lo h<|G.p lo h (lo+h:Nat)<|G.p (lo+h:Nat) 1 (lo+h+1:Nat) ?_;obtain⟨mid,ac⟩:∃ mid,mid=(lo+h+1)/2:=⟨_,rfl⟩;refine G.quo ((lo+h+1:Nat):Int) 2 (mid:Int) kV oV oV oV oV<|G.c call187 (H1 (n:=mid) (O.mono f) X oV oV) ?_;intro v6 u6 U H;rw[hY]at H;obtain⟨a6,c6,rfl,a1⟩:=H.opn;have b6:(Aa (Y*mid)).length<=200000000002:=by
    have h5:=Fz Y mid;have h7:nl mid<=1:=A0 oV;have h8:nl Y=(Aa Y).length:=rfl;have h9:nl (Y*mid)=(Aa (Y*mid)).length:=rfl;omega
   refine G.c call132 (Jj H ((L.mono f).mono U) (by show (Aa (Y*mid)).length<=_;omega) (by show (Aa d).length<=_;omega)) ?_;rintro v7 u7 l7 rfl;by_cases D:Y*mid<=d
   ·exact G.kT' (sgn (((Y*mid:Nat):Int)-d)) 0 (Ad5 oV)<|G.b (K (mid,h) _ _ _ cV ((f.trans U).trans l7) ⟨Q.up N D,C⟩ dV)
   exact G.kF' (sgn (((Y*mid:Nat):Int)-d)) 0 (by rw[Cg oV];decide)<|G.s mid 1 (mid-1:Nat)<|G.b (K (lo,mid-1) _ _ _ cV ((f.trans U).trans l7) ⟨Q.down N D oV oV,C⟩ dV)
  obtain rfl:lo=d / Y:=oV;refine G.lF (d / Y:Nat) h<|G.a F 0 lx.length lx.length k 1 hk<|G.storeA 1 PH.mt _ F lx.length lx.length k (.int .i64 (d / Y:Nat)) kV C (by rw[Ag,A.len];exact hk) rfl rfl ?_;intro m2 I;rw[Jo]at I;by_cases b5:0<d / Y
  ·refine G.gT (d / Y:Nat) 0<|G.c call187 (H1 (n:=d / Y) (O.mono f) X oV oV) ?_;intro v6 u6 U H;rw[hY]at H;have E:Y*(d / Y)<=d:=A1n d Y;obtain⟨a6,c6,rfl,a1⟩:=H.opn;refine G.c call133 (Kd ((L.mono f).mono U) H (Am _) (Am _) oV (El E) (by rw[Ai,Ai];exact E)) ?_;rintro v7 u7 l7 ⟨l,g1,g2,g3,g4⟩;obtain⟨a7,c7,rfl,an⟩:=g1.opn;refine G.c call130 (Ds (b:=false) g1 g2 oV) ?_;intro v8 u8 l8 h8;rw[g3,Ai,Ai,show d - Y*(d / Y)=d % Y by have:=Avf d Y;omega]at h8;obtain⟨b8,a8,n8,c8,rfl,_,_⟩:=h8.opn;refine G.sub (k:Int) 1 ((k:Int)-1) kV rfl oV oV<|G.b (hJ ((k:Int)-1,d % Y,qs.set k (d / Y),.slice a8 n8 c8) _ _ _ cV ((((T.trans f).trans U).trans l7).trans l8) ⟨⟨dV,dV⟩,?_,h8.lim,I⟩ dV);rw[show (((k:Int)-1)+1).toNat=k by omega];exact m
  refine G.gF (d / Y:Nat) 0<|G.sub (k:Int) 1 ((k:Int)-1) kV rfl oV oV ?_;have a5:d % Y=d:=by have:=Avf d Y;rw[show d / Y=0 by omega,Avw]at this;omega
  rw[a5]at m;refine G.b (hJ ((k:Int)-1,d,qs.set k (d / Y),.slice a3 (Aa d).length c3) _ _ _ cV (T.trans f) ⟨⟨dV,dV⟩,?_,L.mono f,I⟩ dV);rw[show (((k:Int)-1)+1).toNat=k by omega];exact m
 obtain rfl:zi = -1:=oV;refine G.hF (-1) 0<|G.give PH.mt (Ah qs) _ kV C (fun _=>.inl rfl) ?_;intro u1 l1 hL;have A:Q2 lx Y 0 qs R:=A;have hq:=A.quo;have hr:=A.rest;rw[Aw4,Aw4]at hq;rw[Aw4]at hr;have al:R<Y:=by rw[hr];exact Au3 _ N
 have ah:(Aa R).length<=(Aa Y).length:=El oV;refine G.neB b b' kV<|G.c call130 (Ds (b:=!(b==b')) hL A.low (by rw[A.len];omega)) ?_;intro v2 u2 l2 h2;rw[hq,ad]at h2;obtain⟨b2,a2,n2,c2,rfl,_,_⟩:=h2.opn;refine G.c call130 (Ds (b:=b) (hR.mono (l1.trans l2)) (Am R) oV) ?_;intro v3 u3 l3 h3;rw[Ai,hr,ae]at h3;obtain⟨b3,a3,n3,c3,rfl,_,_⟩:=h3.opn;exact G.r (.tuple #[.agg #[.bool b2,.slice a2 n2 c2],.agg #[.bool b3,.slice a3 n3 c3]]) ⟨rfl,_,_,rfl,h2.mono l3,h3⟩
end
section
variable {k n:Nat}{y z:Int}{ys:List Nat}
section rules
variable {P:Program} [A7 P] {fn:Func} {Post:Bz} {st:List KI×S} {u m:PH}
def Am1 {x y z:Int}(j:-9223372036854775807<=x)(f:x<=9223372036854775807)(t:0<y)(g:x.tdiv y=z):-9223372036854775808<=z/\z<=9223372036854775807:=by
 rw[<-g];rcases Axn x 0 with h|h
 ·obtain⟨k,rfl⟩:∃ k:Int,x = -k:=⟨-x,oV⟩;rw[Azb,Awj oV];have d:=Az6 (a:=k) (b:=y) oV oV;have e:=A03 (a:=k) y oV;omega
 rw[Awj h];have d:=Az6 (a:=x) (b:=y) h oV;have e:=A03 (a:=x) y h;omega
def G.quoT (x y z:Int)(h:Al P (adv P st)=.bin .quo (.int .i64 x) (.int .i64 y))(j:-9223372036854775807<=x)(d:x<=9223372036854775807)(v:0<y)(f:x.tdiv y=z)
 (k:G P fn Post (nx (adv P st) (.int .i64 z)) u m):G P fn Post st u m:=by
 refine G.bin _ h Db (fun t w=>?_) k;have e:=Am1 j d v f;have g:¬ y=0:=oV
 simp[binOp,Op.intDiv,g,f,Dm e.1 e.2]
def G.remT (x y z:Int)(h:Al P (adv P st)=.bin .rem (.int .i64 x) (.int .i64 y))(j:0<y)(g:x.tmod y=z)(d:-9223372036854775808<=z)(e:z<=9223372036854775807)
 (k:G P fn Post (nx (adv P st) (.int .i64 z)) u m):G P fn Post st u m:=by
 refine G.bin _ h Db (fun t w=>?_) k;have f:¬ y=0:=oV
 simp[binOp,Op.intDiv,f,g,Dm d e]
end rules
def Dj.nonneg {u:PH}{v:Value}(h:Dj u v (k:Int)):∃ a n c,v=.agg #[.bool false,.slice a n c]/\Cb u (.slice a n c) (Aa k):=by
 obtain⟨a,n,c,d,e⟩:=h;rw[decide_eq_false oV]at d;exact⟨a,n,c,d,e⟩
def Agr {u:PH}{x N:Value}(H:Dj u x y)(f:Dj u N z)(sy:nl y.natAbs<=100000000000)(sz:nl z.natAbs<=100000000000) :
 Fn0 prog 127 [x,N] u fun v e=>Dj e v (Nat.gcd y.natAbs z.natAbs:Nat):=by
 obtain⟨b,a,n,c,rfl,hb,hi⟩:=H.opn;obtain⟨b',j,L,c',rfl,W,d⟩:=f.opn;refine Fn0.o func127<|G.l (ι:=(Nat×Nat)×(Option Addr×Nat×Nat)×(Option Addr×Nat×Nat)) (fun _=>[(2,.p 0 0),(3,.p 1 0),(4,.p 2 0)])
  (fun i=>[(0,⟨55,[bV false,sV i.2.1.1 i.2.1.2.1 i.2.1.2.2]⟩),(1,⟨55,[bV false,sV i.2.2.1 i.2.2.2.1 i.2.2.2.2]⟩),(2,⟨55,[bV false,sV none 0 0]⟩)])
  (fun i e K=>(Nat.gcd i.1.1 i.1.2=Nat.gcd y.natAbs z.natAbs/\nl i.1.1<=100000000000/\nl i.1.2<=100000000000)/\Cb e (.slice i.2.1.1 i.2.1.2.1 i.2.1.2.2) (Aa i.1.1)/\Cb e (.slice i.2.2.1 i.2.2.2.1 i.2.2.2.2) (Aa i.1.2)/\K=PH.mt) (fun i=>i.1.2)
  ((y.natAbs,z.natAbs),(a,n,c),(j,L,c')) ⟨⟨rfl,sy,sz⟩,hi,d,rfl⟩ ?_
 clear hi d H f;rintro J ⟨⟨p,q⟩,⟨a,n,c⟩,⟨j,L,c'⟩⟩ F e K C ⟨⟨t,D,g⟩,hi,d,rfl⟩;simp only at t D g hi d F;obtain⟨rfl,_⟩:=hi.len;obtain⟨rfl,_⟩:=d.len;have Y:(Aa p).length<=100000000000:=D;have Z:(Aa q).length<=100000000000:=g;by_cases h0:0<(Aa q).length
 ·have A:=Cl.1 h0;refine G.gT ((Aa q).length:Int) 0 ?_;have U:Dj e (.agg #[.bool false,.slice a (Aa p).length c]) (p:Int):=⟨_,_,_,by rw[decide_eq_false oV],hi⟩;have V:Dj e (.agg #[.bool false,.slice j (Aa q).length c']) (q:Int):=⟨_,_,_,by rw[decide_eq_false oV],d⟩;refine G.c call128 (Yl U V D g oV) ?_;rintro v1 u1 I ⟨va,vb,rfl,R,E⟩;rw[Po]at E;obtain⟨b1,a1,n1,c1,rfl,_,_⟩:=R.opn;obtain⟨O,X,Q,rfl,T⟩:=E.nonneg;exact G.b (F ((q,p%q),(j,(Aa q).length,c'),(O,X,Q)) _ _ _ cV (C.trans I) ⟨⟨by dsimp only;rw[A01 q,<-Nat.gcd_rec,A01];exact t,g,As9 (Ct (Az4 (Au3 _ A))) g⟩,d.mono I,T,rfl⟩ (Au3 _ A))
 have A:q=0:=by
  rcases At5 q with h|h
  ·exact h
  exact absurd (Cl.2 h) h0
 subst A;refine G.gF ((Aa 0).length:Int) 0 ?_;rw[A0p]at t;exact G.r (.agg #[.bool false,.slice a (Aa p).length c]) ⟨rfl,by rw[<-t];exact⟨_,_,_,by rw[decide_eq_false oV],hi⟩⟩
structure Y9 (n k:Nat)(ys:List Nat):Prop where
 low:Low ys
 sum:n=val ys+1000000000^ys.length*k
 top:ys≠[]->k=0->0<ys.getD (ys.length-1) 0
def Y9.start (n:Nat):Y9 n n []:=⟨Low.nil,by simp[val],fun h=>absurd rfl h⟩
def Y9.step (h:Y9 n k ys)(d:k≠0):Y9 n (k/1000000000) (ys++[k%1000000000]):=by
 refine⟨h.low.append (Low.cons oV Low.nil),?_,fun _ h0=>?_⟩
 ·have:=h.sum;rw[Ia,Atg,Aux,Auc,Avl,G9];exact this
 rw[Atg,Aux,Avv,As7,At1 (Atb _)];simp;omega
def Ajn {l:List Nat}(h:l = []\/0<l.getD (l.length-1) 0):Bl l l.length=l.length:=by
 rcases h with rfl|h
 ·rfl
 cases hl:l.length with
 |zero=>rfl
 |succ n=>rw[hl]at h;simp only[Avv]at h;simp only[Bl];rw[if_neg oV]
def Y9.done (h:Y9 n 0 ys):ys=Aa n:=by
 have e:=h.sum;rw[Avw,Avb]at e;rw[e,H8 h.low,Ajn,At9];by_cases d:ys = []
 ·exact .inl d
 exact .inr (h.top d rfl)
def Wr (b:Bool)(k:Nat):(Bt b k).tmod 1000000000=Bt b (k%1000000000):=by
 unfold Bt;cases b
 ·exact Po k 1000000000
 show (-(k:Int)).tmod 1000000000 = -((k%1000000000:Nat):Int);rw[Int.neg_tmod];exact congrArg _ (Po k 1000000000)
def Xi (b:Bool)(k:Nat):(Bt b k).tdiv 1000000000=Bt b (k/1000000000):=by
 unfold Bt;cases b
 ·exact L3 k 1000000000
 show (-(k:Int)).tdiv 1000000000 = -((k/1000000000:Nat):Int);rw[Azb];exact congrArg _ (L3 k 1000000000)
def Aeq {u:PH}{n:Int}(h1:-9223372036854775807<=n)(h2:n<=9223372036854775807) :
 Fn0 prog 58 [.int .i64 n] u fun v E=>Dj E v n:=by
 refine Fn0.o func58 ?_;have key:∀ b:Bool,b=decide (n<0)->G prog Tryz.f58 ⟨fun v E H=>H=PH.mt/\Dj E v n,PH.mt⟩ (nx (adv prog (st0 Tryz.f58 [.int .i64 n])) (.bool b)) u PH.mt:=by
  intro b W;have Y:=Qz n;rw[<-W]at Y;refine G.loop (ι:=Nat×List Nat×(Option Addr×Nat×Nat)) (fun i=>[(2,.p 0 0),(3,.p 1003 0),(0,iV (Bt b i.1))])
   (fun i=>[(0,⟨55,[bV false,sV none 0 0]⟩),(1003,⟨55,[bV b,sV i.2.2.1 i.2.2.2.1 i.2.2.2.2]⟩)])
   (fun i E H=>(i.1<=9223372036854775807/\(i.1≠0->i.2.1.length<=3)/\i.2.1.length<=4/\i.1*1000000000^i.2.1.length<=9223372036854775807)/\Y9 n.natAbs i.1 i.2.1/\Ae PH.mt H (.slice i.2.2.1 i.2.2.2.1 i.2.2.2.2) 3 1 (Ah i.2.1)) (fun i=>i.1) (n.natAbs,[],(none,0,0)) kV (fun _=>kV) ⟨kV,by rw[Y];kernel_rfl,kV⟩ ⟨⟨dV,mV,mV,gV⟩,Y9.start _,Ae.nil _ _ _⟩ ?_
  rintro J ⟨k,ys,⟨a,I,c⟩⟩ O E H D ⟨⟨hk,A,T,C⟩,j,t⟩;simp only at hk A T C j t O;have U:=t.len;rw[Ag]at U;have a1:-9223372036854775807<=Bt b k/\Bt b k<=9223372036854775807:=by unfold Bt;split<;>omega
  by_cases h0:k=0
  ·subst h0;refine G.nF' (Bt b 0) 0 (by unfold Bt;split<;>simp) ?_
   refine G.give PH.mt (Ah ys) _ kV t (fun _=>.inl rfl) ?_;intro Z F hL;refine G.r (.agg #[.bool b,.slice a I c]) ⟨rfl,a,I,c,by rw[W],?_⟩;rw[<-j.done];exact hL
  have X:=A h0;refine G.nT' (Bt b k) 0 (by unfold Bt;split<;>omega) ?_
  have f:(k/1000000000<=9223372036854775807/\(k/1000000000≠0->(ys++[k%1000000000]).length<=3)/\(ys++[k%1000000000]).length<=4/\k/1000000000*1000000000^(ys++[k%1000000000]).length<=9223372036854775807):=by
   have V:k/1000000000*1000000000^(ys.length+1)<=9223372036854775807:=by
    rw[Auc,At7 (1000000000^ys.length),<-Atz];exact As9 (Ats _ (Ay7 _ _)) C
   refine⟨oV,fun a0=>?_,gV,by simpa using V⟩;rcases At8 ys.length 3 with h|h
   ·simp;omega
   exfalso;have:ys.length=3:=oV;rw[this]at V;have h1:1*1000000000^(3+1)<=k/1000000000*1000000000^(3+1):=Ats _ oV;have h2:(9223372036854775807:Nat)<1*1000000000^(3+1):=fV;omega
  by_cases Q:b=true/\k%1000000000≠0
  ·obtain⟨R,hm⟩:=Q;refine G.remT (Bt b k) 1000000000 (-((k%1000000000:Nat):Int)) kV oV (by rw[Wr,R];rfl) oV oV<|G.lT (-((k%1000000000:Nat):Int)) 0<|G.neg (-((k%1000000000:Nat):Int)) ((k%1000000000:Nat):Int) kV oV oV oV<|G.B 3 1 8 (.int .i64 0) [.int .i64 (k%1000000000:Nat)] (Az [k%1000000000]) ?_;intro g Z F N;refine G.append 3 1 8 (.int .i64 0) PH.mt (Ah ys) [.int .i64 (k%1000000000:Nat)] (.slice a I c) g 0 1 1 kV rfl rfl oV t N (Az [k%1000000000]) rfl oV (by rw[Ag];omega) (by rw[Ag];omega) ?_;intro v2 m2 d;rw[Cr]at d;obtain⟨K,L,rfl⟩:=d.shape;exact G.quoT (Bt b k) 1000000000 (Bt b (k/1000000000)) kV oV oV oV (Xi b k)<|G.b (O (k/1000000000,ys++[k%1000000000],(K,(Ah (ys++[k%1000000000])).length,L)) _ _ _ cV (D.trans F) ⟨f,j.step h0,d⟩ dV)
  refine G.remT (Bt b k) 1000000000 ((k%1000000000:Nat):Int) kV oV (by rw[Wr];unfold Bt;split<;>simp_all) oV oV ?_
  refine G.lF (k%1000000000:Nat) 0<|G.B 3 1 8 (.int .i64 0) [.int .i64 (k%1000000000:Nat)] (Az [k%1000000000]) ?_;intro g Z F N;refine G.append 3 1 8 (.int .i64 0) PH.mt (Ah ys) [.int .i64 (k%1000000000:Nat)] (.slice a I c) g 0 1 1 kV rfl rfl oV t N (Az [k%1000000000]) rfl oV (by rw[Ag];omega) (by rw[Ag];omega) ?_;intro v2 m2 d;rw[Cr]at d;obtain⟨K,L,rfl⟩:=d.shape;exact G.quoT (Bt b k) 1000000000 (Bt b (k/1000000000)) kV oV oV oV (Xi b k)<|G.b (O (k/1000000000,ys++[k%1000000000],(K,(Ah (ys++[k%1000000000])).length,L)) _ _ _ cV (D.trans F) ⟨f,j.step h0,d⟩ dV)
 by_cases e:n<0
 ·exact G.lssT n 0 kV e (key true (by simpa using e))
 exact G.lssF n 0 kV e (key false (by simpa using e))
end
section
variable {q r:Rat}{u:PH}{x x':Value}{y z:Int}
def QP (u:PH)(v:Value)(q:Rat):Prop :=
 ∃ a n c a' n' c',v=.agg #[.bool (decide (q.num<0)),.slice a n c,.bool false,.slice a' n' c']/\Cb u (.slice a n c) (Aa q.num.natAbs)/\Cb u (.slice a' n' c') (Aa q.den)
def QP.mono {u e:PH}{v:Value}{q:Rat}(h:QP u v q)(d:PH.le u e):QP e v q:=by
 obtain⟨a,n,c,f,t,c',g,j,m⟩:=h;exact⟨a,n,c,f,t,c',g,j.mono d,m.mono d⟩
def QP.opn {v:Value}(h:QP u v q):∃ b a n c d e c',v=.agg #[.bool b,.slice a n c,.bool false,.slice d e c']/\b=decide (q.num<0)/\Dj u (.agg #[.bool b,.slice a n c]) q.num/\Dj u (.agg #[.bool false,.slice d e c']) (q.den:Int):=by
 obtain⟨a,n,c,d,e,c',rfl,f,g⟩:=h;exact⟨_,a,n,c,d,e,c',rfl,rfl,⟨a,n,c,rfl,f⟩,⟨d,e,c',by rw[decide_eq_false oV],g⟩⟩
def QP.mk {b b':Bool}{a d:Option Addr}{n c e c':Nat}(h:Dj u (.agg #[.bool b,.slice a n c]) y)(j:Dj u (.agg #[.bool b',.slice d e c']) z)(m:q.num=y)(t:(q.den:Int)=z) :
 QP u (.agg #[.bool b,.slice a n c,.bool b',.slice d e c']) q:=by
 obtain⟨_,_,_,f,v⟩:=h;obtain⟨_,_,_,g,A⟩:=j;subst m t;obtain⟨rfl,rfl,rfl,rfl⟩:=f;obtain⟨rfl,rfl,rfl,rfl⟩:=g;exact⟨_,_,_,_,_,_,rfl,v,A⟩
def U8 (y:Int)(z:Nat):y.tdiv (Nat.gcd y.natAbs z:Nat)=y/(Nat.gcd y.natAbs z:Nat):=by
 apply Int.tdiv_eq_ediv_of_dvd;exact A19.2 (A04 _ _)
theorem Ks (e:0<z):(Rat.divInt y z).num=y.tdiv (Nat.gcd y.natAbs z.natAbs:Nat)/\((Rat.divInt y z).den:Int)=z.tdiv (Nat.gcd y.natAbs z.natAbs:Nat)/\0<z.tdiv (Nat.gcd y.natAbs z.natAbs:Nat):=by
 have h:=U2 (y:=y) e rfl;have d:((Rat.divInt y z).den:Int)=z.tdiv (Nat.gcd y.natAbs z.natAbs:Nat):=by grind
 refine⟨by rw[h.1,U8],d,?_⟩;rw[<-d];have:=(Rat.divInt y z).den_pos;omega
def Ann (d:z<0):(Rat.divInt y z).num = -(y.tdiv (Nat.gcd y.natAbs z.natAbs:Nat))/\((Rat.divInt y z).den:Int) = -(z.tdiv (Nat.gcd y.natAbs z.natAbs:Nat))/\z.tdiv (Nat.gcd y.natAbs z.natAbs:Nat)<0:=by
 have h:=Ks (y:=-y) (z:=-z) oV;rw[Lz,Avp,Avp,Azb,Azb]at h;exact⟨h.1,h.2.1,oV⟩
def R7 {g k:Nat}(h:nl y.natAbs<=k):nl (y.tdiv g).natAbs<=k:=by
 refine As9 (Ct ?_) h;rw[Az7];exact Awa _ _
def Uo (A:-9223372036854775807<=z)(C:z<=9223372036854775807):Fn0 prog 14 [.int .i64 z] u fun v F=>QP F v (z:Rat):=by
 refine Fn0.o func14<|G.c call58 (Aeq A C) ?_;intro K I H d;obtain⟨h,f,D,m,rfl,_,_⟩:=d.opn;refine G.c call58 (Aeq (n:=1) oV oV) ?_;intro L J l2 e;obtain⟨j,g,E,t,rfl,_,_⟩:=e.opn;exact G.r (.agg #[.bool h,.slice f D m,.bool j,.slice g E t]) ⟨rfl,QP.mk (d.mono l2) e rfl rfl⟩
def Ags (t:Dj u x y)(e:Dj u x' z)(F:nl y.natAbs<=100000000000)(sz:nl z.natAbs<=100000000000)(hz:z≠0) :
 Fn0 prog 61 [x,x'] u fun v u'=>QP u' v (Rat.divInt y z):=by
 obtain⟨b,a,n,c,rfl,_,_⟩:=t.opn;obtain⟨b',a',n',c',rfl,_,m⟩:=e.opn;obtain⟨rfl,_⟩:=m.len;have a0:0<(Aa z.natAbs).length:=Cl.2 oV;have Y:0<Nat.gcd y.natAbs z.natAbs:=Ax7 _ oV;have f:nl (Nat.gcd y.natAbs z.natAbs)<=100000000000:=As9 (Ct (Nat.gcd_le_right _ oV)) sz;refine Fn0.o func61<|G.eF ((Aa z.natAbs).length:Int) 0<|G.c call127 (Agr t e F sz) ?_;intro v1 u1 K A;obtain⟨b1,a1,n1,c1,rfl,_,_⟩:=A.opn;refine G.c call128 (Yl (t.mono K) A F (by simpa using f) oV) ?_;rintro v2 u2 l2 ⟨va,vb,rfl,g,C⟩;obtain⟨Q,L,n2,U,rfl,_,_⟩:=g.opn;obtain⟨b3,a3,n3,c3,rfl,_,_⟩:=C.opn;refine G.c call128 (Yl (e.mono (K.trans l2)) (A.mono l2) sz (by simpa using f) oV) ?_;rintro v4 u4 l4 ⟨va,vb,rfl,D,E⟩;obtain⟨b4,N,n4,V,rfl,d,_⟩:=D.opn;obtain⟨b5,a5,n5,c5,rfl,_,_⟩:=E.opn;have g:=g.mono l4;rcases A16 hz with Z|hp
 ·obtain⟨h,j,H⟩:=Ann (y:=y) Z;rw[decide_eq_true H]at d;subst d;refine G.c call129 (Wd g (As9 (R7 F) oV)) ?_;intro v6 u6 l6 I;obtain⟨R,O,n6,W,rfl,_,_⟩:=I.opn;refine G.c call129 (Wd (D.mono l6) (As9 (R7 sz) oV)) ?_;intro v7 u7 l7 J;obtain⟨T,P,n7,X,rfl,_,_⟩:=J.opn;exact G.r (.agg #[.bool R,.slice O n6 W,.bool T,.slice P n7 X]) ⟨rfl,QP.mk (I.mono l7) J h j⟩
 obtain⟨h,j,H⟩:=Ks (y:=y) hp;rw[decide_eq_false oV]at d;subst d;exact G.r (.agg #[.bool Q,.slice L n2 U,.bool false,.slice N n4 V]) ⟨rfl,QP.mk g D h j⟩
def Ud (h:QP u x q)(t:nl q.num.natAbs<=100000000000):Fn0 prog 85 [x] u fun v C=>v=.bool (decide (q.num=0)):=by
 obtain⟨b,a,n,c,f,A,c',rfl,m,e,g⟩:=h.opn;obtain⟨_,_,_,d,hi⟩:=e;obtain⟨_,rfl,rfl,rfl⟩:=d;obtain⟨rfl,_⟩:=hi.len;have hp:=Cl (n:=q.num.natAbs);refine Fn0.o func85 ?_;by_cases h0:q.num=0
 ·exact G.eT' ((Aa q.num.natAbs).length:Int) 0 (by rw[h0];simp[Bc])<|G.r (.bool true) ⟨rfl,by simp[h0]⟩
 have j:0<(Aa q.num.natAbs).length:=hp.2 oV;exact G.eF ((Aa q.num.natAbs).length:Int) 0<|G.r (.bool false) ⟨rfl,by simp[h0]⟩
def Ajm (h:QP u x q)(f:nl q.num.natAbs<=100000000000):Fn0 prog 60 [x] u fun v C=>v=.int .i64 (sgn q.num):=by
 obtain⟨b,a,n,c,g,A,c',rfl,d,j,m⟩:=h.opn;refine Fn0.o func60 ?_;by_cases e:q.num<0
 ·rw[decide_eq_true e]at d;subst d;exact G.r (.int .i64 (-1)) ⟨rfl,by simp[sgn,e]⟩
 rw[decide_eq_false e]at d;subst d;refine G.c call85 (Ud h f) ?_;rintro E D t rfl;by_cases h0:q.num=0
 ·rw[decide_eq_true h0];exact G.r (.int .i64 0) ⟨rfl,by simp[sgn,h0]⟩
 rw[decide_eq_false h0];exact G.r (.int .i64 1) ⟨rfl,by simp[sgn];omega⟩
def Apf (q r:Rat):Rat.divInt (q.num*(r.den:Int)-r.num*(q.den:Int)) ((q.den:Int)*(r.den:Int))=q-r:=by
 have h:=R1 q (-r);rw[A1j,A1k,A0k,<-A18]at h;rw[h,Ayg]
def Gz (L:QP u x q)(m:QP u x' r)(d:Sz q 10000000000)(e:Sz r 10000000000) :
 Fn0 prog 80 [x,x'] u fun v T=>QP T v (q*r):=by
 obtain⟨b,a,n,c,U,Z,c',rfl,_,K,J⟩:=L.opn;obtain⟨W,V,n2,X,D,Q,H,rfl,_,j,h⟩:=m.opn;refine Fn0.o func80<|G.c call62 (Ox K j (As9 d.1 oV) (As9 e.1 oV)) ?_;intro v3 u3 C N;refine G.c call62 (Ox (J.mono C) (h.mono C) (As9 d.2 oV) (As9 e.2 oV)) ?_;intro v4 u4 P O;refine G.c call61 (Ags (N.mono P) O (As9 (Dl d.1 e.1) oV) (As9 (Dl (k:=10000000000) (by simpa using d.2) (by simpa using e.2)) oV) (Zd q r)) ?_;intro v5 u5 Y t;rw[Yq]at t;obtain⟨F,E,R,I,f,A,g,rfl,_⟩:=t.opn;exact G.r (.agg #[.bool F,.slice E R I,.bool false,.slice f A g]) ⟨rfl,t⟩
def Mt (Q:QP u x q)(C:QP u x' r)(h:Sz q 10000000000)(j:Sz r 10000000000) :
 Fn0 prog 16 [x,x'] u fun v Z=>QP Z v (q+r):=by
 obtain⟨b,a,n,c,a',n',c',rfl,_,P,H⟩:=Q.opn;obtain⟨b2,a2,n2,c2,J,X,N,rfl,_,A,f⟩:=C.opn;have d:nl ((q.den:Int)).natAbs<=10000000000:=by simpa using h.2
 have e:nl ((r.den:Int)).natAbs<=10000000000:=by simpa using j.2
 refine Fn0.o func16<|G.c call62 (Ox P f (As9 h.1 oV) (As9 e oV)) ?_;intro v3 u3 g R;refine G.c call62 (Ox (A.mono g) (H.mono g) (As9 j.1 oV) (As9 d oV)) ?_;intro v4 u4 E T;refine G.c call63 (Apk (R.mono E) T (As9 (Dl h.1 e) oV) (As9 (Dl j.1 d) oV)) ?_;intro v6 u6 I U;refine G.c call62 (Ox (H.mono ((g.trans E).trans I)) (f.mono ((g.trans E).trans I)) (As9 d oV) (As9 e oV)) ?_;intro v7 u7 W V;refine G.c call61 (Ags (U.mono W) V (As9 (Yh (Dl h.1 e) (Dl j.1 d)) oV) (As9 (Dl d e) oV) (Zd q r)) ?_;intro v5 u5 l5 D;rw[R1]at D;obtain⟨L,K,Y,O,m,F,t,rfl,_⟩:=D.opn;exact G.r (.agg #[.bool L,.slice K Y O,.bool false,.slice m F t]) ⟨rfl,D⟩
end
section
open Go.Lib
variable {j k n:Nat}
def ld (n k:Nat):List UInt8:=(List.range k).map (dg n)
def Rx (n k:Nat):ld n (k+1)=ld n k++[dg n k]:=by simp[ld,Ayh]
def Cm (n k:Nat):(ld n k).length=k:=by simp[ld]
def Y5 (h:j<k):(ld n k)[j]?=some (dg n j):=by simp[ld,h]
def Anh (h:j<=k):(ld n k).take j=ld n j:=by
 apply Awe;intro i;rw[Avu];split
 ·rw[Y5 oV,Y5 oV]
 rw[Att (by rw[Cm];omega)]
def Ze (n:Nat):(ld n (nDigits n)).reverse=decDigits n:=by
 rw[decDigits_eq];apply Awe;intro i;by_cases h:i<nDigits n
 ·rw[A1o (by rw[Cm];exact h),Cm,Y5 oV];simp[h]
 rw[Att (by simp[Cm];omega),Att gV]
def Ny (n i:Nat):(Aa n).getD i 0=n/1000000000^i%1000000000:=by
 induction i generalizing n with
 |zero =>
  by_cases h:n=0
  ·subst h;simp[Bc]
  rw[Fk h];simp
 |succ i ih =>
  by_cases h:n=0
  ·subst h;simp[Bc]
  rw[Fk h,A11,ih,Auc,At7,Awy]
def Ade (i:Nat):(1000000000:Nat)^i=10^(9*i):=by rw[Nat.pow_mul]
def Ank (n i t:Nat)(d:t<9):dg n (9*i+t)=UInt8.ofNat (48+(Aa n).getD i 0/10^t%10):=by
 rw[Ny,Ade];have e:(1000000000:Nat)=10^t*10^(9-t):=by rw[<-Aww,show t+(9-t)=9 by omega]
 rw[e,Nat.mod_mul_right_div_self,Nat.mod_mod_of_dvd _ (by rw[show 9-t=(8-t)+1 by omega,Auc];exact Nat.dvd_mul_left _ _),Awy,<-Aww];rfl
def Pm (h:k<256):(UInt8.ofNat k).toNat=k:=gV
def Ok (n j:Nat):(dg n j).toNat=48+n/10^j%10:=by
 unfold dg;have:n/10^j%10<10:=Au3 _ oV;exact Pm oV
def Abk (h:n<10^(k+1)):n/10^k%10=0↔n<10^k:=by
 have hp:0<10^k:=Aym oV;have d:n/10^k<10:=by rw[Au4 hp,At7,<-Auc];exact h
 rw[Axg d,Nat.div_eq_zero_iff];constructor
 ·rintro (h|h)
  ·omega
  exact h
 exact .inr
def O7 (n:Nat):n<10^(9*(Aa n).length):=by rw[<-Ade];exact Ck n
def M8 (h:10^j<=n):nDigits n=j+nDigits (n/10^j):=by
 induction j generalizing n with
 |zero=>simp
 |succ j ih =>
  have hp:0<10^j:=Aym oV;rw[Auc]at h;rw[nDigits_big oV,ih (n:=n/10) (by rw[Awn oV];exact h),Auc,At7 (10^j),<-Awy];omega
def Ra (h:n≠0):nDigits n=9*((Aa n).length-1)+nDigits ((Aa n).getD ((Aa n).length-1) 0):=by
 have f:=Pr h;rw[Ade]at f;rw[Ny,M8 f,Ade,Axg];rfl;rw[Au4 (Aym oV)];have d:=Ck n;have g:0<nl n:=by
  rcases At5 (nl n) with h0|h0
  ·rw[h0]at d;simp at d;omega
  exact h0
 have e:(1000000000:Nat)*10^(9*((Aa n).length-1))=1000000000^nl n:=by
  rw[<-Ade,At7,<-Auc];congr 1;show nl n-1+1=nl n;omega
 rw[e];exact d
def G6 (l:List UInt8):Prop:=∀ b∈l,48<=b.toNat/\b.toNat<=57
def rdA (a:Nat)(l:List UInt8):Nat:=l.foldl (fun a b=>10*a+(b.toNat-48)) a
def rd (l:List UInt8):Nat:=rdA 0 l
def Acz (a:Nat)(l d:List UInt8):rdA a (l++d)=rdA (rdA a l) d:=by simp[rdA]
def Aef (a:Nat)(l:List UInt8):rdA a l=a*10^l.length+rd l:=by
 induction l generalizing a with
 |nil=>simp[rdA,rd]
 |cons b l ih =>
  have d:rdA a (b::l)=rdA (10*a+(b.toNat-48)) l:=rfl;have e:rd (b::l)=rdA (10*0+(b.toNat-48)) l:=rfl;rw[d,e,ih,ih (10*0+(b.toNat-48)),Auh,Auc,Avw,Aud,<-Avl]
  congr 1
  rw[At2];congr 1;rw[At7 10 a,Atz,At7 10]
def V8 (l d:List UInt8):rd (l++d)=rd l*10^d.length+rd d:=by rw[rd,Acz,Aef];rfl
def V7 {l:List UInt8}(h:G6 l):rd l<10^l.length:=by
 induction l with
 |nil=>simp[rd,rdA]
 |cons b l ih =>
  have d:rd (b::l)=rdA (10*0+(b.toNat-48)) l:=rfl;have g:=h b mV;have:=ih fun x e=>h x (by simp[e]);rw[d,Aef,Auh,Auc];have f:(10*0+(b.toNat-48))*10^l.length<=9*10^l.length:=Ats _ oV;omega
def Mo (n:Nat):G6 (decDigits n):=by
 rw[decDigits_eq];intro b d;simp only[Ate]at d;obtain⟨t,_,rfl⟩:=d;rw[Ok];have:=Au3 (n/10^(nDigits n-1-t)) (show 0<10 by omega);omega
def Ad1 (n:Nat):rd (decDigits n)=n:=by
 induction n using Nat.strongRecOn with
 |ind n ih =>
  rw[decDigits];by_cases h:n<10
  ·rw[dif_pos h];have:(UInt8.ofNat (48+n)).toNat=48+n:=Pm oV;show 10*0+((UInt8.ofNat (48+n)).toNat-48)=n;omega
  rw[dif_neg h,V8,ih _ oV];have:(UInt8.ofNat (48+n%10)).toNat=48+n%10:=Pm oV;show n/10*10^1+(10*0+((UInt8.ofNat (48+n%10)).toNat-48))=n;omega
def H7 (n:Nat):decDigits n≠[]:=by
 intro h;have:=decDigits_length n;rw[h]at this;have:=nDigits_pos n;simp at *;omega
def Aaz (n:Nat):(decDigits n)[0]?=some (dg n (nDigits n-1)):=by
 rw[decDigits_eq];have h:0<nDigits n:=nDigits_pos n;simp[h]
def Ft (h:n≠0):10^(nDigits n-1)<=n:=by
 induction n using Nat.strongRecOn with
 |ind n ih =>
  by_cases d:n<10
  ·rw[nDigits_small d];simp;omega
  rw[nDigits_big d];have e:=ih (n/10) oV oV;have f:=nDigits_pos (n/10);rw[show nDigits (n/10)+1-1=(nDigits (n/10)-1)+1 by omega,Auc];omega
def Ahm (h:n≠0):49<=(dg n (nDigits n-1)).toNat:=by
 rw[Ok];have e:=nDigits_pos n;have d:=lt_pow_nDigits n;rw[show nDigits n=(nDigits n-1)+1 by omega]at d;have f:¬ _:=fun h0=>absurd ((Abk d).1 h0) (by have:=Ft h;omega);omega
end
section
variable {R l:List UInt8}{i:Nat}{u:PH}{x:Value}{z:Int}
def Aen (h:Dj u x z)(g:nl z.natAbs<=100000000000):Fn0 prog 134 [x] u fun v _=>v=.int .i64 (Lib.nDigits z.natAbs:Nat):=by
 obtain⟨b,a,n,c,rfl,T,hi⟩:=h.opn;obtain⟨rfl,_⟩:=hi.len;have L:(Aa z.natAbs).length<=100000000000:=g;refine Fn0.o func134 ?_;by_cases h0:z.natAbs=0
 ·exact G.eT' ((Aa z.natAbs).length:Int) 0 (by rw[h0,Bc];rfl)<|G.r (.int .i64 1) ⟨rfl,by rw[h0,Lib.nDigits_small oV];rfl⟩
 have hp:0<(Aa z.natAbs).length:=Cl.2 oV;have F:=Ra h0;have C:=Nb h0;have d:=(Am z.natAbs).getD ((Aa z.natAbs).length-1);generalize Aa z.natAbs=l at *
 generalize Q:Lib.nDigits z.natAbs=N at *
 have f:∀ k,k<1000000000->Lib.nDigits k<=9:=by
  intro k t;rcases At5 k with h|h
  ·subst h;rw[Lib.nDigits_small oV];omega
  have e:=Ft (n:=k) oV;have E:10^(Lib.nDigits k-1)<10^9:=Aum e oV;have O:=(Azc (by omega:1<10)).1 E;omega
 refine G.eF l.length 0<|G.s l.length 1 (l.length-1:Nat)<|G.mul 9 ((l.length-1:Nat):Int) ((9*(l.length-1):Nat):Int) kV oV oV oV<|G.s l.length 1 (l.length-1:Nat) ?_;obtain⟨D,off,rfl,K⟩:=hi.at (j:=l.length-1) oV;refine G.a D off l.length c (l.length-1) 1 oV<|G.lU none D (off+(l.length-1)*1) (.int .i64 (l.getD (l.length-1) 0:Nat)) K ?_;have P:=f _ d;refine G.l (ι:=Nat×Nat) (fun i=>[(3,iV i.1),(4,iV i.2)]) (fun _=>[])
  (fun i _ H=>(i.1+(if i.2=0 then 0 else Lib.nDigits i.2)=N/\i.2<1000000000)/\H=PH.mt) (fun i=>i.2) (9*(l.length-1),l.getD (l.length-1) 0) ⟨⟨by dsimp only;rw[if_neg C];omega,d⟩,rfl⟩ ?_
 rintro J ⟨m,k⟩ I U H A ⟨⟨e,E⟩,rfl⟩;by_cases t:k=0
 ·subst t;exact G.gF (0:Nat) 0<|G.r (.int .i64 m) ⟨rfl,by simp at e;rw[e]⟩
 rw[if_neg t]at e;refine G.gT k 0<|G.i m<|G.quo (k:Int) 10 ((k/10:Nat):Int) kV oV oV oV oV<|G.b (I (m+1,k/10) _ _ _ cV A ⟨⟨?_,dV⟩,rfl⟩ dV);dsimp only;by_cases g:k<10
 ·rw[Lib.nDigits_small g]at e;rw[if_pos oV];omega
 rw[Lib.nDigits_big g]at e;rw[if_neg oV];omega
structure Mb (R l:List UInt8)(i:Nat):Prop where
 len:l.length=R.length
 at_:∀ k,k<R.length->l[k]?=if k<i\/R.length-i<=k then R[R.length-1-k]? else R[k]?
def Mb.start (R:List UInt8):Mb R R 0:=⟨rfl,fun k d=>by rw[if_neg oV]⟩
theorem Mb.step (h:Mb R l i)(hi:i<R.length-1-i):Mb R ((l.set i (l.getD (R.length-1-i) 0)).set (R.length-1-i) (l.getD i 0)) (i+1):=by
 have e:=h.len;have f:l.getD (R.length-1-i) 0=R.getD (R.length-1-i) 0:=by
  rw[As7,h.at_ _ oV,if_neg oV,As7]
 have g:l.getD i 0=R.getD i 0:=by
  rw[As7,h.at_ _ oV,if_neg oV,As7]
 refine⟨by simp[e],fun k d=>?_⟩;rw[Au5];split
 ·grind
 rw[Au5];split
 ·grind
 rw[h.at_ k d];by_cases j:k<i\/R.length-i<=k
 ·grind
 grind
theorem Mb.done (h:Mb R l i)(hi:¬ i<R.length-1-i):l=R.reverse:=by
 apply Awe;intro k;by_cases d:k<R.length
 ·rw[h.at_ k d,A1o d];split
  ·rfl
  grind
 rw[Att (by rw[h.len];omega),Att gV]
def Gt {j:Nat}(h:j<l.length):(Bb l)[j]?=some (.int .u8 ((l.getD j 0).toNat:Int)):=by
 rw[Bb,Aty,As5 h,As7,As5 h];rfl
def Kj (l:List UInt8)(j:Nat)(b:UInt8):(Bb l).set j (.int .u8 (b.toNat:Int))=Bb (l.set j b):=by simp[Bb,Axb]
def Ub (h:z<0):Lib.itoa z=45::Lib.decDigits z.natAbs:=by rw[Lib.itoa,if_pos h]
def Cy (h:¬ z<0):Lib.itoa z=Lib.decDigits z.natAbs:=by rw[Lib.itoa,if_neg h];congr 1;omega
def Aaa (h:Dj u x z)(hs:nl z.natAbs<=100000000000):Fn0 prog 135 [x] u fun v _=>v=.string (mkS (Lib.itoa z)):=by
 obtain⟨b,a,n,c,rfl,hb,hi⟩:=h.opn;obtain⟨rfl,_⟩:=hi.len;have ap:(Aa z.natAbs).length<=100000000000:=hs;refine Fn0.o func135 ?_;by_cases h0:z.natAbs=0
 ·exact G.eT' ((Aa z.natAbs).length:Int) 0 (by rw[h0,Bc];rfl)<|G.r (.string (mkS [48])) ⟨rfl,by rw[Cy oV,h0,Lib.decDigits_one oV];rfl⟩
 have hp:0<(Aa z.natAbs).length:=Cl.2 oV;refine G.eF ((Aa z.natAbs).length:Int) 0 ?_;have aa:=O7 z.natAbs;generalize hN:z.natAbs=N at *
 generalize hL:Aa N=l at *
 refine G.l (ι:=Nat×(Option Addr×Nat×Nat)) (fun i=>[(1,.p 0 0),(3,sV i.2.1 i.2.2.1 i.2.2.2),(4,iV i.1)]) (fun _=>[(0,⟨55,[bV b,sV a l.length c]⟩)])
  (fun i _ U=>i.1<=l.length/\Ae PH.mt U (.slice i.2.1 i.2.2.1 i.2.2.2) 5 1 (Bb (ld N (9*i.1)))) (fun i=>l.length-i.1) (0,(none,0,0)) ⟨mV,Ae.nil _ _ _⟩ ?_
 rintro J ⟨i,a1,n1,A⟩ hJ u1 m1 a6 ⟨ad,d⟩;simp only at ad d hJ;by_cases ao:i<l.length
 ·refine G.lT i l.length ?_;obtain⟨bb,off,rfl,he⟩:=(hi.mono a6).at (j:=i) oV;refine G.a bb off l.length c i 1 oV<|G.lU none bb (off+i*1) (.int .i64 (l.getD i 0:Nat)) he ?_;have a8:l.getD i 0<1000000000:=by rw[<-hL];exact (Am N).getD i
  refine G.loop (ι:=Nat×(Option Addr×Nat×Nat)) (fun q=>[(1,.p 0 0),(3,sV q.2.1 q.2.2.1 q.2.2.2),(4,iV i),(5,iV (l.getD i 0/10^q.1:Nat)),(6,iV q.1)]) (fun _=>[(0,⟨55,[bV b,sV (some ⟨bb,off,none⟩) l.length c]⟩)])
   (fun q _ U=>q.1<=9/\Ae PH.mt U (.slice q.2.1 q.2.2.1 q.2.2.2) 5 1 (Bb (ld N (9*i+q.1)))) (fun q=>9-q.1) (0,(a1,n1,A)) kV (fun _=>kV) ⟨kV,by rw[A0z,A2q];kernel_rfl,kV⟩ ⟨mV,d⟩ ?_
  clear d;rintro J2 ⟨t,a2,n2,c2⟩ a3 u2 m2 V ⟨ht,d⟩;simp only at ht d a3;have af:=d.len;rw[As,Cm]at af;by_cases ak:t<9
  ·refine G.lT t 9 ?_;have ac:l.getD i 0/10^t<1000000000:=Aum (Awa _ _) a8;have ab:(Lib.dg N (9*i+t)).toNat=48+l.getD i 0/10^t%10:=by
    rw[Ank N i t ak,hL];exact Pm oV
   generalize hD:l.getD i 0/10^t=D at ac ab⊢;refine G.rem ((D:Nat):Int) 10 ((D%10:Nat):Int) kV oV oV oV oV<|G.p 48 (D%10:Nat) ((Lib.dg N (9*i+t)).toNat:Int)<|G.convI .i64 .u8 .i64 ((Lib.dg N (9*i+t)).toNat:Int) ((Lib.dg N (9*i+t)).toNat:Int) kV (Aey oV oV)<|G.B 5 1 1 (.int .u8 0) [.int .u8 ((Lib.dg N (9*i+t)).toNat:Int)] (Kg [Lib.dg N (9*i+t)]) ?_;intro g u3 l3 e3;refine G.append 5 1 1 (.int .u8 0) PH.mt (Bb (ld N (9*i+t))) [.int .u8 ((Lib.dg N (9*i+t)).toNat:Int)] (.slice a2 n2 c2) g 0 1 1 kV rfl rfl oV d e3 (Kg [Lib.dg N (9*i+t)]) rfl oV (by rw[As,Cm];omega) (by rw[As,Cm];omega) ?_;intro v4 m4 W;rw[show Bb (ld N (9*i+t))++[.int .u8 ((Lib.dg N (9*i+t)).toNat:Int)]=Bb (ld N (9*i+(t+1))) by rw[show 9*i+(t+1)=9*i+t+1 by omega,Rx,Nf];rfl]at W;obtain⟨a4,c4,rfl⟩:=W.shape;exact G.quo ((D:Nat):Int) 10 ((l.getD i 0/10^(t+1):Nat):Int) kV oV oV oV (by rw[Auc,<-Awy,hD];omega)<|G.i t<|G.b (a3 (t+1,(a4,(Bb (ld N (9*i+(t+1)))).length,c4)) _ _ _ cV (V.trans l3) ⟨dV,W⟩ dV)
  have:t=9:=oV;subst this;exact G.lF (9:Nat) 9<|G.i i<|G.b (hJ (i+1,(a2,n2,c2)) _ _ _ cV (a6.trans V) ⟨dV,d⟩ dV)
 have:i=l.length:=oV;subst this;refine G.lF l.length l.length ?_;obtain⟨m,co,e⟩:=d.ptr (by intro e;have:=congrArg List.length e;rw[As,Cm,Av1]at this;omega);rw[As,Cm]at e;simp only[Value.slice.injEq]at e;obtain⟨rfl,rfl,rfl⟩:=e;refine G.loop (ι:=Nat) (fun k=>[(1,.p 0 0),(3,sV (some ⟨m,0,none⟩) (k+1) A)]) (fun _=>[(0,⟨55,[bV b,sV a l.length c]⟩)])
  (fun k _ U=>(N<10^(k+1)/\k+1<=9*l.length)/\Ae PH.mt U (.slice (some ⟨m,0,none⟩) (k+1) A) 5 1 (Bb (ld N (k+1)))) (fun k=>k) (9*l.length-1) kV (fun _=>kV) ⟨kV,by rw[show 9*l.length-1+1=9*l.length by omega];kernel_rfl,kV⟩ (by rw[show 9*l.length-1+1=9*l.length by omega];exact⟨⟨aa,Atb _⟩,d⟩) ?_
 clear d hJ;rintro J3 k a5 u3 m3 a7 ⟨⟨hk,an⟩,d⟩;refine G.s (k+1:Nat) 1 k<|G.a m 0 (k+1) A k 1 oV<|G.lM none m (0+k*1) (.int .u8 ((Lib.dg N k).toNat:Int)) (d.el (by rw[Bb,Aty,Y5 oV];rfl)) ?_;have a9:=Abk hk;have am:=Ok N k;by_cases hz:N<10^k
 ·refine G.cmpG .eql .u8 ((Lib.dg N k).toNat:Int) 48 true kV rfl (by simp only[Cj,decide_eq_true_eq];have:=a9.2 hz;omega)<|G.s (k+1:Nat) 1 k ?_;have al:k+1<=A:=d.cap;refine G.sliceTo 1 (some ⟨m,0,none⟩) (k+1) A k kV oV ?_;have a0:=d.take (k:=k) (by rw[As,Cm];omega);rw[show (Bb (ld N (k+1))).take k=Bb (ld N k) by rw[Bb,<-Ayy,Anh oV];rfl]at a0;rcases k with _|k
  ·simp at hz;omega
  exact G.b (a5 k _ _ _ cV a7 ⟨⟨hz,oV⟩,a0⟩ oV)
 refine G.cmpG .eql .u8 ((Lib.dg N k).toNat:Int) 48 false kV rfl (by simp only[Cj,decide_eq_false_iff_not];intro h;exact hz (a9.1 oV)) ?_;have ae:Lib.nDigits N=k+1:=Lib.nDigits_unique k N oV hk;clear a5;have X:=Ze N;rw[ae]at X;cases b
 ·have Z:¬ z<0:=by simpa using hb.symm
  have P:(ld N (k+1)).reverse=Lib.itoa z:=by rw[X,Cy Z,hN]
  generalize hR:ld N (k+1)=R at *
  generalize ai:k+1=nR at *
  have aj:nR<=1000000000000:=oV;have ah:1<=nR:=oV;have C:=d.len;rw[As]at C;refine G.s nR 1 (nR-1:Nat)<|G.l (ι:=Nat×List UInt8) (fun i=>[(3,sV (some ⟨m,0,none⟩) nR A),(7,iV i.1),(8,iV (nR-1-i.1:Nat))]) (fun _=>[])
   (fun i _ U=>i.1<=nR-1/\Mb R i.2 i.1/\Ae PH.mt U (.slice (some ⟨m,0,none⟩) nR A) 5 1 (Bb i.2)) (fun i=>nR-i.1) (0,R) ⟨mV,Mb.start R,d⟩ ?_
  clear d;rintro J5 ⟨i,l⟩ L u5 m5 O ⟨Y,f,d⟩;simp only at Y f d L;have ag:=f.len;by_cases E:i<nR-1-i
  ·refine G.lT i (nR-1-i:Nat)<|G.a m 0 nR A (nR-1-i) 1 oV<|G.lM none m (0+(nR-1-i)*1) (.int .u8 ((l.getD (nR-1-i) 0).toNat:Int)) (d.el (Gt oV))<|G.a m 0 nR A i 1 oV<|G.lM none m (0+i*1) (.int .u8 ((l.getD i 0).toNat:Int)) (d.el (Gt oV))<|G.a m 0 nR A i 1 oV<|G.storeA 1 PH.mt (Bb l) m nR A i (.int .u8 ((l.getD (nR-1-i) 0).toNat:Int)) kV d (by rw[As];omega) rfl rfl ?_;intro m6 I;rw[Kj]at I;refine G.a m 0 nR A (nR-1-i) 1 oV<|G.storeA 1 PH.mt _ m nR A (nR-1-i) (.int .u8 ((l.getD i 0).toNat:Int)) kV I (by rw[As,Avx];omega) rfl rfl ?_;intro m7 K;rw[Kj]at K;exact G.i i<|G.s (nR-1-i:Nat) 1 ((nR-1-(i+1):Nat):Int)<|G.b (L (i+1,(l.set i (l.getD (nR-1-i) 0)).set (nR-1-i) (l.getD i 0)) _ _ _ cV O ⟨dV,by dsimp only;rw[C]at E⊢;exact f.step E,K⟩ dV)
  refine G.lF i (nR-1-i:Nat) ?_;have T:=f.done (by rw[<-C];exact E);refine G.convB PH.mt 5 5 l m nR A kV kV d<|G.give PH.mt (Bb l) _ kV d (fun _=>.inl rfl) ?_;intro u8 l8 _;refine G.r (.string (mkS l)) ⟨rfl,?_⟩;rw[T,P]
 have Z:z<0:=by simpa using hb.symm
 refine G.B 5 1 1 (.int .u8 0) [.int .u8 45] (Kg [45]) ?_;intro g u4 l4 e4;refine G.append 5 1 1 (.int .u8 0) PH.mt (Bb (ld N (k+1))) [.int .u8 45] (.slice (some ⟨m,0,none⟩) (k+1) A) g 0 1 1 kV rfl rfl oV d e4 (Kg [45]) rfl oV (by rw[As,Cm];omega) (by rw[As,Cm];omega) ?_;intro v5 m5 H;rw[show Bb (ld N (k+1))++[.int .u8 45]=Bb (ld N (k+1)++[45]) by rw[Nf];rfl]at H;obtain⟨F,Q,rfl⟩:=H.ptr (by simp[Bb]);rw[As,Atg,Cm,Aux]at H⊢;have P:(ld N (k+1)++[45]).reverse=Lib.itoa z:=by rw[A0c,X,Ub Z,hN];rfl
 clear d;have d:=H;clear H;have T:(ld N (k+1)++[45]).length=k+1+1:=by rw[Atg,Cm];rfl
 generalize hR:ld N (k+1)++[45]=R at *
 generalize ai:k+1+1=nR at *
 have aj:nR<=1000000000000:=oV;have ah:1<=nR:=oV;have C:=d.len;rw[As]at C;refine G.s nR 1 (nR-1:Nat)<|G.l (ι:=Nat×List UInt8) (fun i=>[(3,sV (some ⟨F,0,none⟩) nR Q),(7,iV i.1),(8,iV (nR-1-i.1:Nat))]) (fun _=>[])
  (fun i _ U=>i.1<=nR-1/\Mb R i.2 i.1/\Ae PH.mt U (.slice (some ⟨F,0,none⟩) nR Q) 5 1 (Bb i.2)) (fun i=>nR-i.1) (0,R) ⟨mV,Mb.start R,d⟩ ?_
 clear d;rintro J5 ⟨i,l⟩ L u5 m5 O ⟨Y,f,d⟩;simp only at Y f d L;have ag:=f.len;by_cases E:i<nR-1-i
 ·refine G.lT i (nR-1-i:Nat)<|G.a F 0 nR Q (nR-1-i) 1 oV<|G.lM none F (0+(nR-1-i)*1) (.int .u8 ((l.getD (nR-1-i) 0).toNat:Int)) (d.el (Gt oV))<|G.a F 0 nR Q i 1 oV<|G.lM none F (0+i*1) (.int .u8 ((l.getD i 0).toNat:Int)) (d.el (Gt oV))<|G.a F 0 nR Q i 1 oV<|G.storeA 1 PH.mt (Bb l) F nR Q i (.int .u8 ((l.getD (nR-1-i) 0).toNat:Int)) kV d (by rw[As];omega) rfl rfl ?_;intro m6 I;rw[Kj]at I;refine G.a F 0 nR Q (nR-1-i) 1 oV<|G.storeA 1 PH.mt _ F nR Q (nR-1-i) (.int .u8 ((l.getD i 0).toNat:Int)) kV I (by rw[As,Avx];omega) rfl rfl ?_;intro m7 K;rw[Kj]at K;exact G.i i<|G.s (nR-1-i:Nat) 1 ((nR-1-(i+1):Nat):Int)<|G.b (L (i+1,(l.set i (l.getD (nR-1-i) 0)).set (nR-1-i) (l.getD i 0)) _ _ _ cV O ⟨dV,by dsimp only;rw[C]at E⊢;exact f.step E,K⟩ dV)
 refine G.lF i (nR-1-i:Nat) ?_;have T:=f.done (by rw[<-C];exact E);refine G.convB PH.mt 5 5 l F nR Q kV kV d<|G.give PH.mt (Bb l) _ kV d (fun _=>.inl rfl) ?_;intro u8 l8 _;refine G.r (.string (mkS l)) ⟨rfl,?_⟩;rw[T,P]
def Aam (h:Dj u x z)(d:nl z.natAbs<=100000000000)(g:Lib.nDigits z.natAbs<=400):Fn0 prog 66 [x] u fun v _=>v=.tuple #[.string (mkS (Lib.itoa z)),.int .i64 0]:=by
 obtain⟨b,a,n,c,rfl,f,hi⟩:=h.opn;refine Fn0.o func66<|G.c call134 (Aen h d) ?_;rintro t j e rfl;refine G.gF (Lib.nDigits z.natAbs:Nat) 400<|G.c call135 (Aaa (h.mono e) d) ?_;rintro A m l2 rfl;exact G.r _ ⟨rfl,rfl⟩
end
section
variable {k:Nat}{l:List UInt8}
def G6.drop (h:G6 l)(k:Nat):G6 (l.drop k):=fun b d=>h b (Avz d)
def G6.take (h:G6 l)(k:Nat):G6 (l.take k):=fun b d=>h b (Avd d)
def Du {k j:Nat}(h:k+j<l.length):(l.drop k).take (j+1)=(l.drop k).take j++[l.getD (k+j) 0]:=by
 rw[At0];rw[Axm,As5 h,As7,As5 h];rfl
def Mv (l:List UInt8)(b:UInt8):rd (l++[b])=10*rd l+(b.toNat-48):=by simp[rd,rdA]
def Jz (h:G6 l)(d:k<l.length):48<=(l.getD k 0).toNat/\(l.getD k 0).toNat<=57:=by
 rw[As7,As5 d];exact h _ (Ath d)
theorem Dg (d:k<l.length):l[k]?=some (l.getD k 0):=by grind
def Bg (b:Bool)(l:List UInt8):List UInt8:=if b then 45::l else l
structure P3 (N:Nat)(s:List UInt8)(ys:List Nat):Prop where
 low:Low ys
 dig:G6 s
 sum:N=val ys+1000000000^ys.length*rd s
theorem P3.step {N:Nat}{s:List UInt8}{ys:List Nat}(h:P3 N s ys):P3 N (s.take (s.length-9)) (ys++[rd (s.drop (s.length-9))]):=by
 have d:rd (s.drop (s.length-9))<1000000000:=by
  have:=V7 (h.dig.drop (s.length-9));rw[Ax4]at this;exact Auf this (by rw[show (1000000000:Nat)=10^9 from rfl];exact Atq oV oV)
 refine⟨h.low.append (Low.cons d Low.nil),h.dig.take _,?_⟩;have e:rd s=rd (s.take (s.length-9))*1000000000+rd (s.drop (s.length-9)):=by
  have:=V8 (s.take (s.length-9)) (s.drop (s.length-9));rw[Awg]at this;by_cases f:9<=s.length
  ·grind
  rw[show s.length-9=0 by omega];simp[rd,rdA]
 rw[Ia,Atg,Aux,Auc,h.sum,e,Aui,Atz,At7 (rd _) 1000000000];omega
theorem Ajj {b:Bool}(f:G6 l)(g:l≠[])(h:¬ b=true):(Bg b l).getD 0 0≠45:=by
 cases b
 ·have e:0<l.length:=by cases l;exact absurd rfl g;simp
  have:=Jz f e;intro d;rw[show Bg false l=l from rfl]at d;rw[d]at this;simp at this
 grind
def Ai6 {u:PH}(b:Bool)(l:List UInt8)(hd:G6 l)(hl:l≠[])(a3:l.length<=1000000000):Fn0 prog 65 [.string (mkS (Bg b l))] u fun v u'=>Dj u' v (Bt b (rd l)):=by
 have a6:0<l.length:=by cases l;exact absurd rfl hl;simp
 refine Fn0.o func65 ?_;have K:Bg b l≠[]:=by cases b<;>simp[Bg,hl]
 refine G.x (Bg b l) [] K ?_;have a0:(Bg b l)[0]?=some ((Bg b l).getD 0 0):=Dg (by cases b<;>simp[Bg];omega)
 refine G.idxS (Bg b l) 0 _ kV a0 ?_;cases b
 ·have K:=Ajj (b:=false) hd hl mV;refine G.cmpG .eql .u8 (((Bg false l).getD 0 0).toNat:Int) 45 false kV rfl (by simp only[Cj,decide_eq_false_iff_not];intro h;exact K (Az8.1 (by simpa using (by omega:((Bg false l).getD 0 0).toNat=45))))<|G.l (ι:=List UInt8×List Nat×(Option Addr×Nat×Nat)) (fun i=>[(2,.p 0 0),(3,tV i.1),(4,.p 2001 0)])
   (fun i=>[(0,⟨55,[bV false,sV none 0 0]⟩),(2001,⟨55,[bV false,sV i.2.2.1 i.2.2.2.1 i.2.2.2.2]⟩)])
   (fun i _ D=>i.1.length+i.2.1.length<=l.length/\P3 (rd l) i.1 i.2.1/\Ae PH.mt D (.slice i.2.2.1 i.2.2.2.1 i.2.2.2.2) 3 1 (Ah i.2.1)) (fun i=>i.1.length) (l,[],(none,0,0)) ⟨mV,⟨Low.nil,hd,by simp[val]⟩,Ae.nil _ _ _⟩ ?_
  rintro J ⟨s,ys,⟨a,E,c⟩⟩ R u' D I ⟨N,f,m⟩;simp only at N f m R;have P:=m.len;rw[Ag]at P;have A:=f.dig;have a2:(mkS s).size=s.length:=Go.Lib.size_mk s;by_cases h0:0<s.length
  ·refine G.gT s.length 0<|G.sub (s.length:Int) 9 ((s.length:Int)-9) kV rfl oV oV<|G.maxI [3,3] 0 ((s.length:Int)-9) ((s.length-9:Nat):Int) kV oV<|G.loop (ι:=Nat) (fun i=>[(2,.p 0 0),(3,tV s),(4,.p 2001 0),(5,iV (s.length-9:Nat)),(6,iV (rd ((s.drop (s.length-9)).take i):Nat)),(7,iV (s.length-9+i:Nat))])
    (fun _=>[(0,⟨55,[bV false,sV none 0 0]⟩),(2001,⟨55,[bV false,sV a E c]⟩)])
    (fun i _ D=>s.length-9+i<=s.length/\Ae PH.mt D (.slice a E c) 3 1 (Ah ys)) (fun i=>s.length-i) 0 kV (fun _=>kV) ⟨kV,by rw[Ayo];kernel_rfl,kV⟩ ⟨oV,m⟩ ?_
   clear m;rintro J2 i F u2 m2 t ⟨hi,m⟩;by_cases e:s.length-9+i<s.length
   ·refine G.lT (s.length-9+i:Nat) s.length ?_;have H:rd ((s.drop (s.length-9)).take (i+1))<1000000000:=by
     have:=V7 ((A.drop (s.length-9)).take (i+1));refine Auf this ?_;rw[show (1000000000:Nat)=10^9 from rfl];exact Atq oV gV
    have a1:=Jz A e;rw[Du e,Mv]at H;exact G.mul 10 ((rd ((s.drop (s.length-9)).take i):Nat):Int) ((10*rd ((s.drop (s.length-9)).take i):Nat):Int) kV oV oV oV<|G.idxS s (s.length-9+i) _ kV (Dg e)<|G.sub8 ((s.getD (s.length-9+i) 0).toNat:Int) 48 (((s.getD (s.length-9+i) 0).toNat-48:Nat):Int) kV oV oV oV<|G.convI .u8 .i64 .u8 (((s.getD (s.length-9+i) 0).toNat-48:Nat):Int) (((s.getD (s.length-9+i) 0).toNat-48:Nat):Int) kV (Dm oV oV)<|G.add ((10*rd ((s.drop (s.length-9)).take i):Nat):Int) (((s.getD (s.length-9+i) 0).toNat-48:Nat):Int) ((rd ((s.drop (s.length-9)).take (i+1)):Nat):Int) kV (by rw[Du e,Mv];omega) oV (by rw[Du e,Mv];omega)<|G.p (s.length-9+i:Nat) 1 ((s.length-9+(i+1):Nat):Int)<|G.b (F (i+1) _ _ _ cV t ⟨oV,m⟩ oV)
   refine G.lF (s.length-9+i:Nat) s.length ?_;have O:(s.drop (s.length-9)).take i=s.drop (s.length-9):=Atp gV;rw[O];have j:=f.step;have C:(s.take (s.length-9)).length=s.length-9:=mV;generalize rd (s.drop (s.length-9))=d at j⊢;refine G.B 3 1 8 (.int .i64 0) [.int .i64 d] (Az [d]) ?_;intro g u3 T Z;refine G.append 3 1 8 (.int .i64 0) PH.mt (Ah ys) [.int .i64 d] (.slice a E c) g 0 1 1 kV rfl rfl oV m Z (Az [d]) rfl oV (by rw[Ag];omega) (by rw[Ag];omega) ?_;intro v4 m4 z;rw[Cr]at z;obtain⟨U,X,rfl⟩:=z.shape;exact G.sliceSTo s (s.length-9) kV kV oV<|G.b (R (s.take (s.length-9),ys++[d],(U,(Ah (ys++[d])).length,X)) _ _ _ cV ((I.trans t).trans T) ⟨by dsimp only;rw[C,Atg,Aux];omega,j,z⟩ (by dsimp only;rw[C];omega))
  have L:s = []:=Auo oV;subst L;refine G.gF (0:Nat) 0<|G.give PH.mt (Ah ys) _ kV m (fun _=>.inl rfl) ?_;intro u3 T hL;refine G.c call130 (Ds (b:=false) (a:=a) (n:=E) (c:=c) (l:=ys) hL f.low oV) ?_;intro v5 u5 l5 Q;have hv:val ys=rd l:=by have:=f.sum;simpa[rd,rdA] using this.symm
  rw[hv]at Q;obtain⟨W,V,n5,Y,rfl,_,_⟩:=Q.opn;exact G.r (.agg #[.bool W,.slice V n5 Y]) ⟨rfl,Q⟩
 refine G.cmpG .eql .u8 (((Bg true l).getD 0 0).toNat:Int) 45 true kV rfl (by simp[Cj,Bg])<|G.sliceSFrom (Bg true l) 1 kV kV (by simp[Bg]) ?_;rw[show (Bg true l).drop 1=l from rfl];refine G.l (ι:=List UInt8×List Nat×(Option Addr×Nat×Nat)) (fun i=>[(2,.p 0 0),(3,tV i.1),(4,.p 2001 0)])
  (fun i=>[(0,⟨55,[bV false,sV none 0 0]⟩),(2001,⟨55,[bV true,sV i.2.2.1 i.2.2.2.1 i.2.2.2.2]⟩)])
  (fun i _ D=>i.1.length+i.2.1.length<=l.length/\P3 (rd l) i.1 i.2.1/\Ae PH.mt D (.slice i.2.2.1 i.2.2.2.1 i.2.2.2.2) 3 1 (Ah i.2.1)) (fun i=>i.1.length) (l,[],(none,0,0)) ⟨mV,⟨Low.nil,hd,by simp[val]⟩,Ae.nil _ _ _⟩ ?_
 rintro J ⟨s,ys,⟨a,E,c⟩⟩ R u' D I ⟨N,f,m⟩;simp only at N f m R;have P:=m.len;rw[Ag]at P;have A:=f.dig;have a2:(mkS s).size=s.length:=Go.Lib.size_mk s;by_cases h0:0<s.length
 ·refine G.gT s.length 0<|G.sub (s.length:Int) 9 ((s.length:Int)-9) kV rfl oV oV<|G.maxI [3,3] 0 ((s.length:Int)-9) ((s.length-9:Nat):Int) kV oV<|G.loop (ι:=Nat) (fun i=>[(2,.p 0 0),(3,tV s),(4,.p 2001 0),(5,iV (s.length-9:Nat)),(6,iV (rd ((s.drop (s.length-9)).take i):Nat)),(7,iV (s.length-9+i:Nat))])
   (fun _=>[(0,⟨55,[bV false,sV none 0 0]⟩),(2001,⟨55,[bV true,sV a E c]⟩)])
   (fun i _ D=>s.length-9+i<=s.length/\Ae PH.mt D (.slice a E c) 3 1 (Ah ys)) (fun i=>s.length-i) 0 kV (fun _=>kV) ⟨kV,by rw[Ayo];kernel_rfl,kV⟩ ⟨oV,m⟩ ?_
  clear m;rintro J2 i F u2 m2 t ⟨hi,m⟩;by_cases e:s.length-9+i<s.length
  ·refine G.lT (s.length-9+i:Nat) s.length ?_;have H:rd ((s.drop (s.length-9)).take (i+1))<1000000000:=by
    have:=V7 ((A.drop (s.length-9)).take (i+1));refine Auf this ?_;rw[show (1000000000:Nat)=10^9 from rfl];exact Atq oV gV
   have a1:=Jz A e;rw[Du e,Mv]at H;exact G.mul 10 ((rd ((s.drop (s.length-9)).take i):Nat):Int) ((10*rd ((s.drop (s.length-9)).take i):Nat):Int) kV oV oV oV<|G.idxS s (s.length-9+i) _ kV (Dg e)<|G.sub8 ((s.getD (s.length-9+i) 0).toNat:Int) 48 (((s.getD (s.length-9+i) 0).toNat-48:Nat):Int) kV oV oV oV<|G.convI .u8 .i64 .u8 (((s.getD (s.length-9+i) 0).toNat-48:Nat):Int) (((s.getD (s.length-9+i) 0).toNat-48:Nat):Int) kV (Dm oV oV)<|G.add ((10*rd ((s.drop (s.length-9)).take i):Nat):Int) (((s.getD (s.length-9+i) 0).toNat-48:Nat):Int) ((rd ((s.drop (s.length-9)).take (i+1)):Nat):Int) kV (by rw[Du e,Mv];omega) oV (by rw[Du e,Mv];omega)<|G.p (s.length-9+i:Nat) 1 ((s.length-9+(i+1):Nat):Int)<|G.b (F (i+1) _ _ _ cV t ⟨oV,m⟩ oV)
  refine G.lF (s.length-9+i:Nat) s.length ?_;have O:(s.drop (s.length-9)).take i=s.drop (s.length-9):=Atp gV;rw[O];have j:=f.step;have C:(s.take (s.length-9)).length=s.length-9:=mV;generalize rd (s.drop (s.length-9))=d at j⊢;refine G.B 3 1 8 (.int .i64 0) [.int .i64 d] (Az [d]) ?_;intro g u3 T Z;refine G.append 3 1 8 (.int .i64 0) PH.mt (Ah ys) [.int .i64 d] (.slice a E c) g 0 1 1 kV rfl rfl oV m Z (Az [d]) rfl oV (by rw[Ag];omega) (by rw[Ag];omega) ?_;intro v4 m4 z;rw[Cr]at z;obtain⟨U,X,rfl⟩:=z.shape;exact G.sliceSTo s (s.length-9) kV kV oV<|G.b (R (s.take (s.length-9),ys++[d],(U,(Ah (ys++[d])).length,X)) _ _ _ cV ((I.trans t).trans T) ⟨by dsimp only;rw[C,Atg,Aux];omega,j,z⟩ (by dsimp only;rw[C];omega))
 have L:s = []:=Auo oV;subst L;refine G.gF (0:Nat) 0<|G.give PH.mt (Ah ys) _ kV m (fun _=>.inl rfl) ?_;intro u3 T hL;refine G.c call130 (Ds (b:=true) (a:=a) (n:=E) (c:=c) (l:=ys) hL f.low oV) ?_;intro v5 u5 l5 Q;have hv:val ys=rd l:=by have:=f.sum;simpa[rd,rdA] using this.symm
 rw[hv]at Q;obtain⟨W,V,n5,Y,rfl,_,_⟩:=Q.opn;exact G.r (.agg #[.bool W,.slice V n5 Y]) ⟨rfl,Q⟩
end
section
variable {j k n:Nat}{q:Rat}{u:PH}{y z:Int}
def Cz (z:Int):Lib.itoa z=Bg (decide (z<0)) (Lib.decDigits z.natAbs):=by
 by_cases h:z<0
 ·rw[Ub h,decide_eq_true h];rfl
 rw[Cy h,decide_eq_false h];rfl
def Xa (z:Int):Bt (decide (z<0)) (rd (Lib.decDigits z.natAbs))=z:=by rw[Ad1];exact Qz z
def Ado (h:Lib.nDigits n<=k):nl n<=k:=by
 refine A0 (Auf (Lib.lt_pow_nDigits n) ?_);rw[Ade];exact Atq oV oV
def Bi (h:Lib.nDigits n<=400):nl n<=400:=Ado h
def F2 (h:Lib.nDigits z.natAbs<=400):(Lib.itoa z).length<=401:=by
 rw[Cz];unfold Bg;split<;>simp[Lib.decDigits_length]<;>omega
def Lt (h:Lib.nDigits z.natAbs<=400):Fn0 prog 65 [.string (mkS (Lib.itoa z))] u fun v d=>Dj d v z:=by
 have:=Ai6 (u:=u) (decide (z<0)) (Lib.decDigits z.natAbs) (Mo _) (H7 _) (by rw[Lib.decDigits_length];omega);rw[Xa,<-Cz]at this;exact this
def Mq (g:0<z)(e:nl y.natAbs<=j)(f:nl z.natAbs<=k):nl (Rat.divInt y z).num.natAbs<=j/\nl (Rat.divInt y z).den<=k:=by
 obtain⟨d,h,_⟩:=Ks (y:=y) g;refine⟨by rw[d];exact R7 e,?_⟩;have:(Rat.divInt y z).den=(z.tdiv (Nat.gcd y.natAbs z.natAbs:Nat)).natAbs:=oV
 rw[this];exact R7 f
def Sk (q r:Rat):0<(q.den:Int)*(r.den:Int):=Int.mul_pos (by have:=q.den_pos;omega) (by have:=r.den_pos;omega)
def Ak6:Lib.decDigits 0 = [48]:=Lib.decDigits_one oV
def Amo:Lib.decDigits 1 = [49]:=Lib.decDigits_one oV
def Ea:Lib.itoa 0 = [48]:=by rw[Cy oV];exact Ak6
def G3:Lib.itoa 1 = [49]:=by rw[Cy oV];exact Amo
def Si (n:Nat):Lib.itoa (n:Int)=Lib.decDigits n:=by rw[Cy oV];congr 1
def rdZ (t:List UInt8):Int:=match t with
 |45::l=>-(rd l:Int)
 |l=>rd l
theorem Zx (z:Int):rdZ (Lib.itoa z)=z:=by
 by_cases h:z<0
 ·rw[Ub h];simp only[rdZ,Ad1];omega
 rw[Cy h];have f:=Aaz z.natAbs;have m:=Ad1 z.natAbs;have g:=Mo z.natAbs;generalize Lib.decDigits z.natAbs=l at *
 cases l with
 |nil=>simp at f
 |cons b l =>
  have d:=g b mV;unfold rdZ;split
  ·rename_i e;simp at e;rw[e.1]at d;simp at d
  grind
def Hc (h:Lib.itoa y=Lib.itoa z):y=z:=by rw[<-Zx y,h,Zx]
def Oe (d:0<=z)(h0:z≠0):∃ b,(Lib.itoa z)[0]?=some b/\49<=b.toNat/\b.toNat<=57:=by
 rw[Cy oV];refine⟨_,Aaz _,Ahm oV,?_⟩;rw[Ok];have:=Au3 (z.natAbs/10^(Lib.nDigits z.natAbs-1)) (show 0<10 by omega);omega
def P5 (h:Lib.nDigits z.natAbs<=400):Fn0 prog 186 [.string (mkS (Lib.itoa z))] u fun v _=>v=.bool true:=by
 refine Fn0.o func186 ?_;by_cases h0:z=0
 ·subst h0;exact G.q (Lib.itoa 0) [48] Ea<|G.r (.bool true) ⟨rfl,rfl⟩
 refine G.w (Lib.itoa z) [48] (fun e=>h0 (Hc (e.trans Ea.symm))) ?_;have N:=Lib.decDigits_length z.natAbs;have O:=Lib.nDigits_pos z.natAbs;have A:=Mo z.natAbs;obtain⟨m,f,I,K⟩:=Oe (z:=(z.natAbs:Int)) oV oV;rw[Si]at f;have t:=Cz z;generalize R:Lib.decDigits z.natAbs=L at *
 generalize hT:Lib.itoa z=T at *
 have H:0<T.length:=by rw[t];unfold Bg;split;simp;omega
 refine G.gT T.length 0 ?_;by_cases F:z<0
 ·rw[decide_eq_true F]at t;refine G.idxS T 0 45 kV (by rw[t];rfl)<|G.cmpG .eql .u8 45 45 true kV rfl rfl<|G.sliceSFrom T 1 kV kV oV ?_;rw[show T.drop 1=L by rw[t];rfl];refine G.eF L.length 0<|G.gF L.length 400<|G.idxS L 0 m kV f<|G.cmpG .eql .u8 (m.toNat:Int) 48 false kV rfl (by simp only[Cj,decide_eq_false_iff_not];omega)<|G.l (ι:=Nat) (fun i=>[(3,tV L),(4,iV i)]) (fun _=>[]) (fun i _ C=>i<=L.length/\C=PH.mt) (fun i=>L.length-i) 0 ⟨oV,rfl⟩ ?_;rintro J i D Q C g ⟨hi,rfl⟩;by_cases d:i<L.length
  ·refine G.lT i L.length ?_;have P:=Jz A d;exact G.idxS L i _ kV (Dg d)<|G.cmpG .lss .u8 ((L.getD i 0).toNat:Int) 48 false kV rfl (by simp only[Cj,decide_eq_false_iff_not];omega)<|G.idxS L i _ kV (Dg d)<|G.cmpG .gtr .u8 ((L.getD i 0).toNat:Int) 57 false kV rfl (by simp only[Cj,decide_eq_false_iff_not];omega)<|G.i i<|G.b (D (i+1) _ _ _ cV g ⟨oV,rfl⟩ oV)
  exact G.lF i L.length<|G.r (.bool true) ⟨rfl,rfl⟩
 rw[decide_eq_false F]at t;have E:T=L:=t;subst E;refine G.idxS T 0 m kV f<|G.cmpG .eql .u8 (m.toNat:Int) 45 false kV rfl (by simp only[Cj,decide_eq_false_iff_not];omega)<|G.eF T.length 0<|G.gF T.length 400<|G.idxS T 0 m kV f<|G.cmpG .eql .u8 (m.toNat:Int) 48 false kV rfl (by simp only[Cj,decide_eq_false_iff_not];omega)<|G.l (ι:=Nat) (fun i=>[(3,tV T),(4,iV i)]) (fun _=>[]) (fun i _ C=>i<=T.length/\C=PH.mt) (fun i=>T.length-i) 0 ⟨oV,rfl⟩ ?_;rintro J i D Q C g ⟨hi,rfl⟩;by_cases d:i<T.length
 ·refine G.lT i T.length ?_;have P:=Jz A d;exact G.idxS T i _ kV (Dg d)<|G.cmpG .lss .u8 ((T.getD i 0).toNat:Int) 48 false kV rfl (by simp only[Cj,decide_eq_false_iff_not];omega)<|G.idxS T i _ kV (Dg d)<|G.cmpG .gtr .u8 ((T.getD i 0).toNat:Int) 57 false kV rfl (by simp only[Cj,decide_eq_false_iff_not];omega)<|G.i i<|G.b (D (i+1) _ _ _ cV g ⟨oV,rfl⟩ oV)
 exact G.lF i T.length<|G.r (.bool true) ⟨rfl,rfl⟩
theorem Aim {T:List UInt8}(h:∀ b∈T,b≠47)(t:T.length<=1000000):Fn0 prog 64 [.string (mkS T)] u fun v _=>v=.tuple #[.string (mkS T),.string (mkS [49]),.bool false]:=by
 refine Fn0.o func64<|G.l (ι:=Nat) (fun i=>[(0,tV T),(5,iV i)]) (fun _=>[]) (fun i _ g=>i<=T.length/\g=PH.mt) (fun i=>T.length-i) 0 ⟨oV,rfl⟩ ?_;rintro J i m A g d ⟨hi,rfl⟩;by_cases e:i<T.length
 ·refine G.lT i T.length<|G.idxS T i _ kV (Dg e) ?_;have f:T.getD i 0≠47:=by grind
  exact G.cmpG .eql .u8 ((T.getD i 0).toNat:Int) 47 false kV rfl (by simp only[Cj,decide_eq_false_iff_not];intro h;exact f (Az8.1 (by simpa using (by omega:(T.getD i 0).toNat=47))))<|G.i i<|G.b (m (i+1) _ _ _ cV d ⟨oV,rfl⟩ oV)
 exact G.lF i T.length<|G.r (.tuple #[.string (mkS T),.string (mkS [49]),.bool false]) ⟨rfl,rfl⟩
theorem Ait {A B:List UInt8}(h:∀ b∈A,b≠47)(F:(A++47::B).length<=1000000):Fn0 prog 64 [.string (mkS (A++47::B))] u fun v _=>v=.tuple #[.string (mkS A),.string (mkS B),.bool true]:=by
 have hT:∀ i,i<A.length->(A++47::B).getD i 0≠47:=by grind
 have D:(A++47::B)[A.length]?=some 47:=by grind
 have t:(A++47::B).length=A.length+1+B.length:=by grind
 have m:(A++47::B).take A.length=A:=mV;have d:(A++47::B).drop (A.length+1)=B:=mV;generalize A++47::B=T at *
 refine Fn0.o func64<|G.l (ι:=Nat) (fun i=>[(0,tV T),(5,iV i)]) (fun _=>[]) (fun i _ C=>i<=A.length/\C=PH.mt) (fun i=>T.length-i) 0 ⟨oV,rfl⟩ ?_;rintro J i E H C e ⟨hi,rfl⟩;refine G.lT i T.length ?_;by_cases f:i<A.length
 ·refine G.idxS T i _ kV (Dg oV) ?_;have g:=hT i f;exact G.cmpG .eql .u8 ((T.getD i 0).toNat:Int) 47 false kV rfl (by simp only[Cj,decide_eq_false_iff_not];intro h;exact g (Az8.1 (by simpa using (by omega:(T.getD i 0).toNat=47))))<|G.i i<|G.b (E (i+1) _ _ _ cV e ⟨oV,rfl⟩ oV)
 have:i=A.length:=oV;subst this;refine G.idxS T A.length 47 kV D<|G.cmpG .eql .u8 47 47 true kV rfl rfl<|G.sliceSTo T A.length kV kV oV ?_;rw[m];refine G.p A.length 1 (A.length+1:Nat)<|G.sliceSFrom T (A.length+1) kV kV oV ?_;rw[d];exact G.r (.tuple #[.string (mkS A),.string (mkS B),.bool true]) ⟨rfl,rfl⟩
def Ap (q:Rat):List UInt8:=if q.den=1 then Lib.itoa q.num else Lib.itoa q.num++47::Lib.itoa (q.den:Int)
def Tx (q:Rat):Prop:=Lib.nDigits q.num.natAbs<=400/\Lib.nDigits q.den<=400
def Tx.den (h:Tx q):Lib.nDigits ((q.den:Int)).natAbs<=400:=by simpa using h.2
def Tx.sz (h:Tx q):Sz q 400:=⟨Bi h.1,Bi h.2⟩
def Sz.mono (h:Sz q j)(d:j<=k):Sz q k:=⟨As9 h.1 d,As9 h.2 d⟩
def My (z:Int):∀ b∈Lib.itoa z,b≠47:=by
 have f:=Mo z.natAbs;intro b d e;subst e;rw[Cz]at d;unfold Bg at d;split at d
 ·simp at d;have:=f _ d;simp at this
 have:=f _ d;simp at this
def Xl (h:Tx q):Fn0 prog 64 [.string (mkS (Ap q))] u fun v _=>v=.tuple #[.string (mkS (Lib.itoa q.num)),.string (mkS (Lib.itoa (q.den:Int))),.bool (decide (q.den≠1))]:=by
 have e:=F2 h.1;have l2:=F2 h.den;unfold Ap;by_cases d:q.den=1
 ·rw[if_pos d,d,show ((1:Nat):Int)=1 from rfl,G3];exact Aim (My _) oV
 rw[if_neg d,decide_eq_true d];exact Ait (My _) gV
def T4 (h:Tx q):Fn0 prog 17 [.string (mkS (Ap q))] u fun v H=>QP H v q:=by
 refine Fn0.o func17<|G.c call64 (Xl h) ?_;rintro N J I rfl;refine G.c call65 (Lt h.1) ?_;intro O K l2 d;obtain⟨m,f,E,A,rfl,_,_⟩:=d.opn;refine G.c call65 (Lt h.den) ?_;intro P L D e;obtain⟨t,g,F,C,rfl,_,_⟩:=e.opn;exact G.r (.agg #[.bool m,.slice f E A,.bool t,.slice g F C]) ⟨rfl,QP.mk (d.mono D) e rfl rfl⟩
def Alq (h:Tx q):(Ap q).length<=802:=by
 have d:=F2 h.1;have l2:=Lib.decDigits_length q.den;have e:=h.2;unfold Ap;split
 ·omega
 rw[Si];simp;omega
def Akv (h:q.den≠1):q.num≠0:=fun h0=>h (by have:=Axp.1 h0;subst this;rfl)
def Qr (h:Tx q):Fn0 prog 126 [.string (mkS (Ap q))] u fun v _=>v=.tuple #[.string (mkS (Lib.itoa q.num)),.string (mkS (Lib.itoa (q.den:Int))),.bool true]:=by
 have m:=Alq h;refine Fn0.o func126<|G.gF ((Ap q).length:Int) 802<|G.c call64 (Xl h) ?_;rintro X P J rfl;refine G.c call186 (P5 h.1) ?_;rintro Y Q l2 rfl;refine G.c call186 (P5 h.den) ?_;rintro Z R K rfl;by_cases f:q.den=1
 ·rw[show decide (q.den≠1)=false by simp[f]];exact G.r (.tuple #[.string (mkS (Lib.itoa q.num)),.string (mkS (Lib.itoa (q.den:Int))),.bool true]) ⟨rfl,rfl⟩
 rw[show decide (q.den≠1)=true by simp[f]];have E:=Akv f;have D:=q.den_nz;refine G.w (Lib.itoa q.num) [48] (fun e=>E (Hc (e.trans Ea.symm)))<|G.w (Lib.itoa (q.den:Int)) [49] (fun e=>by have:=Hc (e.trans G3.symm);omega)<|G.w (Lib.itoa (q.den:Int)) [48] (fun e=>by have:=Hc (e.trans Ea.symm);omega) ?_;obtain⟨g,d,A,C⟩:=Oe (z:=(q.den:Int)) oV oV;refine G.idxS (Lib.itoa (q.den:Int)) 0 g kV d<|G.cmpG .eql .u8 (g.toNat:Int) 45 false kV rfl (by simp only[Cj,decide_eq_false_iff_not];omega)<|G.c call65 (Lt h.1) ?_;intro v4 T L F;refine G.c call65 (Lt h.den) ?_;intro v5 U I H;refine G.c call127 (Agr (F.mono I) H (As9 (Bi h.1) oV) (As9 (Bi h.den) oV)) ?_;intro v6 V N t;rw[show Nat.gcd q.num.natAbs ((q.den:Int)).natAbs=1 from q.reduced]at t;refine G.c call135 (Aaa t (As9 Qi oV)) ?_;rintro v7 W O rfl;exact G.y (Lib.itoa ((1:Nat):Int)) [49] G3<|G.r (.tuple #[.string (mkS (Lib.itoa q.num)),.string (mkS (Lib.itoa (q.den:Int))),.bool true]) ⟨rfl,rfl⟩
def H0 (h:Tx q):Fn0 prog 59 [.string (mkS (Ap q))] u fun v _=>v=.bool true:=by
 refine Fn0.o func59<|G.c call126 (Qr h) ?_;rintro f e d rfl;exact G.r (.bool true) ⟨rfl,rfl⟩
def O1 {x:Value}(m:QP u x q)(h:Tx q):Fn0 prog 18 [x] u fun v _=>v=.tuple #[.string (mkS (Ap q)),.int .i64 0]:=by
 obtain⟨b,a,n,c,A,E,c',rfl,_,g,f⟩:=m.opn;refine Fn0.o func18<|G.c call66 (Aam g (As9 (Bi h.1) oV) h.1) ?_;rintro I F t rfl;refine G.c call66 (Aam (f.mono t) (As9 (Bi h.den) oV) h.den) ?_;rintro J H l2 rfl;refine G.nF 0 0<|G.nF 0 0 ?_;by_cases d:q.den=1
 ·exact G.q (Lib.itoa (q.den:Int)) [49] (by rw[d];exact G3)<|G.r (.tuple #[.string (mkS (Lib.itoa q.num)),.int .i64 0]) ⟨rfl,by rw[Ap,if_pos d]⟩
 refine G.w (Lib.itoa (q.den:Int)) [49] (fun e=>by have:=Hc (e.trans G3.symm);omega) ?_;have C:=F2 h.1;have D:=F2 h.den;exact G.addS (Lib.itoa q.num) [47] kV gV<|G.addS (Lib.itoa q.num++[47]) (Lib.itoa (q.den:Int)) kV gV<|G.r (.tuple #[.string (mkS (Lib.itoa q.num++[47]++Lib.itoa (q.den:Int))),.int .i64 0]) ⟨rfl,by rw[Ap,if_neg d];simp⟩
end
end Go.Proofs.YtnafchoihfnkeaaGreatDoor
