import Derived.Test.YtemmheaocgmebaaGreatDoorV12
set_option linter.defProp false
set_option linter.unusedVariables false
set_option linter.unusedSimpArgs false
set_option linter.unusedSectionVars false
set_option maxHeartbeats 16000000
namespace Go.Proofs.YtemmheaocgmebaaGreatDoor
open Go.Proofs.Tryz
open Go.RowKit Go.MapKept
def A9h:=@List.map_map
def Beu:=@Rat.add_zero
def Bcr:=@Rat.mul_pos
def A7f:=@Rat.intCast_inj
section
variable {X:zM}{n p r w:Nat}
def Ay1 (n m:Nat)(X:zM)(y:Nat->Rat):Prop:=∀ i,i<n->Bb n (fun j=>en X i j*y j)=en X i m
theorem Yt (h:Rec n w X)(P:n<=w)(C:r<n)(hp:p<n)(K:r<=p)(h0:en X p r≠0)(F:∀ i j,i<n->j<r->en X i j=if i=j then 1 else 0) :
 ∀ i j,i<n->j<r+1->en (J8 X r r p) i j=if i=j then 1 else 0:=by
 intro i j hi L;unfold J8;rw[h.1];have E:Rec n w (if p=r then X else If X p r):=by
  split
  ·exact h
  exact Mk h hp C
 have u:∀ i j,en (if p=r then X else If X p r) i j=if i=r then en X p j else if i=p then en X r j else en X i j:=fun i j=>by
  split
  ·rename_i e;subst e;split
   ·rename_i e;rw[e]
   rfl
  rw[Si h hp C]
 rw[Acm C oV n 0 _ oV (R8 E C) i j oV,Jd E C i j,Jd E C i r,Jd E C r j,if_pos rfl,u i j,u i r,u r j,u r r,if_pos rfl,if_pos rfl];have I:en X p r*(1/en X p r)=1:=by grind
 generalize 1/en X p r=q at *
 by_cases m:i=r
 ·rw[if_neg oV,if_pos m,if_pos m];by_cases H:j=r
  ·rw[H,m,if_pos rfl,I]
  rw[F p j hp oV,if_neg oV,if_neg oV];grind
 rw[if_pos ⟨oV,oV,m⟩,if_neg m,if_neg m,if_neg m,if_neg m];by_cases H:j=r
 ·subst H;rw[if_neg m];generalize (if i=p then en X j j else en X i j)=t;rw[show t-t*(en X p j*q)=t-t*(en X p j*q) from rfl,I];grind
 rw[F p j hp oV,if_neg (show ¬ p=j by omega)];by_cases J:i=p
 ·rw[if_pos J,F r j C oV,if_neg (show ¬ r=j by omega),if_neg (show ¬ i=j by omega)];grind
 rw[if_neg J,F i j hi oV];grind
theorem Aes (n:Nat)(a b y:Nat->Rat)(t:Rat):Bb n (fun j=>(a j-t*b j)*y j)=Bb n (fun j=>a j*y j)-t*Bb n (fun j=>b j*y j):=by
 rw[<-B4,<-Y8];exact Ah fun j _=>by grind
theorem Afg (n:Nat)(b y:Nat->Rat)(q:Rat):Bb n (fun j=>(b j*q)*y j)=q*Bb n (fun j=>b j*y j):=by
 rw[<-B4];exact Ah fun j _=>by grind
theorem Ans {n w m r c p:Nat}{y:Nat->Rat}(h:Rec n w X)(W:n<=w)(V:m<w)(t:r<n)(hp:p<n)(U:c<n)(h0:en X p c≠0)(R:Ay1 n m (J8 X r c p) y):Ay1 n m X y:=by
 have J:Rec n w (if p=r then X else If X p r):=by
  split
  ·exact h
  exact Mk h hp t
 have u:∀ i j,en (if p=r then X else If X p r) i j=if i=r then en X p j else if i=p then en X r j else en X i j:=fun i j=>by
  split
  ·rename_i e;subst e;split
   ·rename_i e;rw[e]
   rfl
  rw[Si h hp t]
 have C:∀ k j,k<n->j<w->en (J8 X r c p) k j=if k=r then en X p j*(1/en X p c) else (if k=p then en X r j else en X k j)-(if k=p then en X r c else en X k c)*(en X p j*(1/en X p c)):=by
  intro k j K Q;unfold J8;rw[h.1,Acm t oV n 0 _ oV (R8 J t) k j Q,Jd J t k j,Jd J t k c,Jd J t r j,if_pos rfl,u k j,u k c,u r j,u r c,if_pos rfl,if_pos rfl];by_cases e:k=r
  ·rw[if_neg oV,if_pos e,if_pos e,if_pos e]
  rw[if_pos ⟨oV,oV,e⟩,if_neg e,if_neg e,if_neg e,if_neg e,if_neg e]
 have T:en X p c*(1/en X p c)=1:=by grind
 generalize 1/en X p c=q at *
 have H:Bb n (fun j=>en X p j*y j)=en X p m:=by
  have E:=R r t;rw[Ah (g:=fun j=>(en X p j*q)*y j) fun j Q=>by rw[C r j t oV,if_pos rfl],C r m t oV,if_pos rfl,Afg]at E;generalize Bb n (fun j=>en X p j*y j)=S at *
  have:en X p c*(q*S)=en X p c*(en X p m*q):=by rw[E]
  grind
 have F:∀ k,k<n->k≠r->Bb n (fun j=>(if k=p then en X r j else en X k j)*y j)=if k=p then en X r m else en X k m:=by
  intro k K I;have E:=R k K;rw[Ah (g:=fun j=>((if k=p then en X r j else en X k j)-((if k=p then en X r c else en X k c)*q)*en X p j)*y j) fun j Q=>by rw[C k j K oV,if_neg I];grind,C k m K oV,if_neg I,Aes,H]at E;grind
 intro i hi;by_cases L:i=p
 ·rw[L];exact H
 by_cases P:i=r
 ·have E:=F p hp (fun e=>L (by rw[P,e]));rw[P];simpa using E
 have E:=F i hi P;simpa[L] using E
theorem Z5 {n w m:Nat}(H:n<=w)(F:m<w):∀ f c P X d,c+f=n->P.length=c->Rec n w X->(∀ i j,i<n->j<c->en X i j=if i=j then 1 else 0) ->
 ¬ (Bn f c P X d).1.length<n->Ay1 n m X (fun i=>en (Bn f c P X d).2.1 i m)
 |0,c,P,X,d,hc,hP,h,hu,e=>by
  have I:Bn 0 c P X d=(P,X,d):=rfl;rw[I];intro i hi;have:∀ l,l<=n->Bb l (fun j=>en X i j*en X j m)=if i<l then en X i m else 0:=by
   intro l;induction l with
   |zero=>intro _;rw[Uk,if_neg oV]
   |succ l ih =>
    intro e;rw[Ds,ih oV,hu i l hi oV];by_cases u:i<l
    ·rw[if_pos u,if_neg oV,if_pos oV];grind
    by_cases C:i=l
    ·rw[if_neg u,if_pos C,if_pos oV,<-C];grind
    rw[if_neg u,if_neg C,if_neg oV];grind
  rw[this n (A08 _),if_pos hi]
 |f+1,c,P,X,d,hc,hP,h,hu,e=>by
  revert e
  unfold Bn;rw[if_pos (show P.length<X.length by rw[h.1];omega)];obtain⟨L,Q⟩:=Ss X c (X.length-P.length) P.length;have J:=W7 X c (X.length-P.length) P.length;generalize El X c (X.length-P.length) P.length=p at *
  split
  ·intro e;have:=Yb f (c+1) P X d;omega
  rename_i hpx;intro e;have K:=h.1;have t:p<n:=oV;have h0:=J oV;rw[hP]at e⊢;have E:=Yt h oV (show c<n by omega) t oV h0 hu;exact Ans h H F oV t oV h0 (Z5 H F f (c+1) (P++[c]) (J8 X c c p) _ oV (by simp[hP]) (Xw h oV t) E e)
end

def Ad3 {m0 m:PH}{v:Value}{t:TypeId}{sz:Nat}{es:zV}(h:Af m0 m v t sz es):PH.le m0 m:=by
 rcases h.2 with ⟨_,_,rfl⟩|⟨g,cap,rest,e,rfl,_⟩
 ·exact PH.le_refl _
 exact Jw _ e
def Wp {n w:Nat}:∀ f c P X d,Rec n w X->Rec n w (Bn f c P X d).2.1
 |0,_,_,_,_,h=>h
 |f+1,c,P,X,d,h=>by
  rw[Bn];by_cases e:P.length<X.length
  ·rw[if_pos e];by_cases hp:El X c (X.length-P.length) P.length=X.length
   ·rw[if_pos hp];exact Wp f _ _ _ _ h
   rw[if_neg hp];have j:=Ss X c (X.length-P.length) P.length;have m:=h.1;exact Wp f _ _ _ _ (Xw h oV oV)
  rw[if_neg e];exact h
def Tq.sz {q:Rat}(h:Tq q):Sz q 2:=by
 have h1:=h.num;have h2:=(leW h.den).2;exact⟨nlM oV,nlM oV⟩
def es1 {n:Nat}(h:n<=12):es 2 n<=1000000000:=A04 (Apd 2 h) fV
section
theorem Aem {q:Rat}{D:Nat}(h:q.den ∣ D):((q.num*((D/q.den:Nat):Int):Int):Rat)=q*(D:Rat):=by
 obtain⟨k,rfl⟩:=h;rw[Nat.mul_div_cancel_left _ q.den_pos,A3c,A7e,A2r];have e:q*(q.den:Rat)=(q.num:Rat):=by
  have e:q=(q.num:Rat)/(((q.den:Int)):Rat):=by rw[<-A37,A7h]
  have hi:=Bap _ (T4 q.den_pos);rw[A2r,A8v]at e;exact A0j e hi
 rw[<-e];grind
def Wf {D:Nat}{r:zR}{j:Nat}(e:j<r.length):gZ (Bp D r) j=(gR r j).num*((D/(gR r j).den:Nat):Int):=by
 unfold Bp;rw[Ol (by simpa using e),A3v,Cu e]
def Abw {A:zM}{i:Nat}(h:i<A.length):gM A i∈A:=by rw[Ch h];exact A09 h
section
variable {A:zM} {b:zR} {D D':Nat}
def Oy (f:Nat->Int):∀ n:Nat,((Ca n f:Int):Rat)=Bb n (fun j=>(f j:Rat))
 |0=>by rw[Uk];rfl
 |n+1=>by rw[Ca,A7d,Oy f n,Ds]
end
end
section
variable {i j:Nat}{qs:zR}
theorem Wy {q:Rat}{z:Int}{D:Nat}(h:q*(D:Rat)=(z:Rat))(h0:0<D):q.den ∣ D/\q.num.natAbs<=z.natAbs:=by
 have u:q=Rat.divInt z (D:Int):=by
  rw[A37,A2r,<-h];have:=T4 h0;grind
 obtain⟨e,m,E⟩:=O7 (y:=z) (z:=(D:Int)) oV;rw[u];constructor
 ·have t:((Rat.divInt z (D:Int)).den:Int)=((D/Nat.gcd z.natAbs D:Nat):Int):=by
   rw[m,show ((D:Int)).natAbs=D from rfl,A32 oV,<-A5k]
  rw[Int.ofNat.inj t];exact Nat.div_dvd_of_dvd (Ba0 _ _)
 rw[e,A8o];exact A3u _ _
section
variable {P:List Par} {C:CF} {q:Rat} {N:Nat}
def Eh (C:CF)(P:List Par)(q:Rat):zM:=D0 q (Lh C P) (P.length+1)
def Yz (C:CF)(P:List Par):zR:=(An P).map (Bh C)
def Rx:Rec (P.length+1) (P.length+1) (Eh C P q):=Nx (Sj C P) _ (A08 _)
def N8 (hi:i<P.length+1)(e:j<P.length+1):en (Eh C P q) i j=As C ((An P).getD i none) ((An P).getD j none)+if i=j/\0<i then q else 0:=by
 unfold Eh;rw[Vv (Sj C P) _ (A08 _) i j hi e,Abs C P hi e];have:(if i=j/\0<i/\i<P.length+1 then q else 0)=if i=j/\0<i then q else 0:=by simp[hi]
 rw[this]
def Ag3:(Yz C P).length=P.length+1:=by unfold Yz;rw[A03,Cp]
def A0b (hi:i<P.length+1):gR (Yz C P) i=Bh C ((An P).getD i none):=by
 have e:=Cp P;refine Aep ?_;unfold Yz;rw[A1a,A02,A01 oV];rfl
def Am9 (m:P.Nodup)(u:qs.length=P.length)(t:j<P.length):Fo P[j] (P.zip qs)=gR qs j:=by
 have h:j<qs.length:=oV
 rw[Cu h];refine Kh ?_ (A3d.2 ⟨j,gV,mV⟩);have e:(P.zip qs).map (·.1)=P:=List.map_fst_zip oV;rw[e];exact m
def Ar2 (e:P.Nodup){m0:Rat}(h:qs.length=P.length):∀ j,j<P.length+1->cfE m0 (P.zip qs) ((An P).getD j none)=gR (m0::qs) j:=by
 intro j m;cases j with
 |zero=>rfl
 |succ j =>
  unfold An;rw[A6b,A02,A1a,A01 oV];show Fo P[j] (P.zip qs)=gR (m0::qs) (j+1);rw[Am9 e h oV];rfl
def Alq (hi:i<P.length+1):(An P).getD i none∈An P:=by
 have:=Cp P;rw[A02,A01 oV];exact A09 _
end
end
section
variable {A:zM}{m u:PH}{n:Nat}
def Awb {v:Value}(h:C7 u v (Cv A))(e:Sq A):zF 118 [v] u fun j _=>j=zO:=by
 obtain⟨a,c,rfl⟩:=h.opn;refine Fn0.o func118<|G.c call186 (Adf h e) ?_;rintro E C t rfl;exact G.eT' 0 0 rfl<|G.nF A.length A.length<|G.z zO
structure Th (q:Rat):Prop where
 tx:Tx q
 den:q.den ∣ 21600
 num:q.num.natAbs<=3000000000000
def Awy (h:n<100000000000000000):Lib.nDigits n<=17:=Cz (k:=17) oV oV
def Asd (hT:∀ r∈A,∀ q∈r,Th q):Y5 A 21600 17 where
 den:=fun r j q h=>(hT r j q h).den
 pos:=oV
 nl:=A04 (nlM oV) oV
 dig:=fun D E h0=>by
  have e:D<=21600:=A48 oV E;refine⟨Awy oV,fun r j q h F=>Awy ?_⟩;rw[A26,A1s];have t:=(hT r j q h).num;have C:D/q.den<=21600:=A04 (A3u _ _) e;have:=A25 t C;omega
def Aow {n w E:Nat}:∀ (f c:Nat) (s:BZ),SzZ s.X (zs E c)->nl s.v.natAbs<=zs E c->E8 n w s.X->s.P.length<=n->SzZ (Fm n f c s).X (zs E (c+f))/\nl (Fm n f c s).v.natAbs<=zs E (c+f)
 |0,c,s,h1,h2,_,_=>⟨h1,h2⟩
 |f+1,c,s,h1,h2,h3,h4=>by
  obtain⟨e,h,j,t,_⟩:=Al2 (c:=c) h1 h2 h3 h4;have C:zs E (c+1)=2*zs E c+2:=rfl;have:=Aow (E:=E) f (c+1) (I0 n c s) (e.mono oV) (A04 h oV) j t;unfold Fm;rw[show c+(f+1)=c+1+f by omega];exact this
def Az1 (h:n<=12):zs 2 n<=1000000000:=A04 (Aqf 2 h) fV
def Aus {l:List Arr}(h:Bag m l):Bag m (Np zN []::Np zN []::l):=⟨m,Af.nil _ _ _,m,Af.nil _ _ _,h⟩
def Am1 {n c:Nat}{a:zP}{e:List (Value×zV)}{X:List (List Int)}(h:Bag m (oN (.slice a n c) e::e.map C3))(j:NAt u e X)(t:PH.le m u):Nl u (.slice a n c) X:=Agf (Aus h) j t
end
section
variable [Cl] [Co]
section
variable {P:Program} {fn:Func} {Post:Ce}
def S.put4 (s:S)(d1 d2 d3 d4:Nat)(x1 x2 x3 x4:SV):S:=(((s.put (some d1) x1).put (some d2) x2).put (some d3) x3).put (some d4) x4
def I6 (s:S)(d1 d2 d3 d4:Nat)(x1 x2 x3 x4:SV)(t:Nat):(s.put4 d1 d2 d3 d4 x1 x2 x3 x4).tm t=if t=d4 then x4 else if t=d3 then x3 else if t=d2 then x2 else if t=d1 then x1 else s.tm t:=by
 unfold S.put4;have key:∀ (s:S) (d:Nat) (x:SV),(s.put (some d) x).tm t=if t=d then x else s.tm t:=fun s d x=>by
  by_cases e:t=d
  ·subst e;rw[Az,if_pos rfl]
  rw[Ct _ _ _ e,if_neg e]
 rw[key,key,key,key]
theorem Aos (s:S)(d1 d2 d3 d4:Nat):s=s.put4 d1 d2 d3 d4 (s.tm d1) (s.tm d2) (s.tm d3) (s.tm d4):=by
 refine S.ext' rfl (funext fun t=>?_) rfl;rw[I6];split
 ·grind
 grind
section
variable {s:S} {d1 d2 d3 d4:Nat} {x1 x2 x3 x4 y:SV} (h:d1≠d2/\d1≠d3/\d1≠d4/\d2≠d3/\d2≠d4/\d3≠d4)
include h
def Axl:(s.put4 d1 d2 d3 d4 x1 x2 x3 x4).put (some d1) y=s.put4 d1 d2 d3 d4 y x2 x3 x4:=by
 refine S.ext' rfl (funext fun t=>?_) rfl;rw[I6];by_cases e:t=d1
 ·subst e;rw[Az,if_neg h.2.2.1,if_neg h.2.1,if_neg h.1,if_pos rfl]
 rw[Ct _ _ _ e,I6,if_neg e,if_neg e]
def Ax4:(s.put4 d1 d2 d3 d4 x1 x2 x3 x4).put (some d2) y=s.put4 d1 d2 d3 d4 x1 y x3 x4:=by
 refine S.ext' rfl (funext fun t=>?_) rfl;rw[I6];by_cases e:t=d2
 ·subst e;rw[Az,if_neg h.2.2.2.2.1,if_neg h.2.2.2.1,if_pos rfl]
 rw[Ct _ _ _ e,I6,if_neg e,if_neg e]
def Axd:(s.put4 d1 d2 d3 d4 x1 x2 x3 x4).put (some d3) y=s.put4 d1 d2 d3 d4 x1 x2 y x4:=by
 refine S.ext' rfl (funext fun t=>?_) rfl;rw[I6];by_cases e:t=d3
 ·subst e;rw[Az,if_neg h.2.2.2.2.2,if_pos rfl]
 rw[Ct _ _ _ e,I6,if_neg e,if_neg e]
def Axt:(s.put4 d1 d2 d3 d4 x1 x2 x3 x4).put (some d4) y=s.put4 d1 d2 d3 d4 x1 x2 x3 y:=by
 refine S.ext' rfl (funext fun t=>?_) rfl;rw[I6];by_cases e:t=d4
 ·subst e;rw[Az,if_pos rfl]
 rw[Ct _ _ _ e,I6,if_neg e,if_neg e]
end
theorem Ob.layM {P:Program}[A6 P]{id:Nat}{F:Array Oper}{H:S->PH->PH->Prop}{a d:Nat}{kk:List KI}{s:S}{u m:PH}(e:TypeId)(sz bt:Nat)(z:Value)(es:zV)
 (h:Aj P (.reg id F true [a]::kk,s)=.buildS (some (e,sz,bt,z)) es.length (es.zipIdx.map fun p=>(p.2,p.1))) (hd:(F[a]?).bind (·.dst)=some d) (L:A9 sz es) (a9:z.cells.size=sz) (a2:0<sz) (Z:0<es.length) (hb:es.length*sz<=16777216)
 (k:∀ g E,Af m E (zG g es.length es.length) e sz es->H (s.put (some d) (.v (zG g es.length es.length))) u E):Ob P id F true H [a] s u m:=by
 obtain⟨aa,a3,a5,i',l',ab,ad,o,J,a1,hg,U,hv,hs,C,a8⟩:=Eq h mV;obtain⟨⟨⟨rfl,rfl,rfl,rfl,rfl⟩,rfl⟩,rfl⟩:=J;have I:o.dst=some d:=by grind
 refine Ob.big (K:=fun v' u' E=>u'=u/\PH.le m E/\∃ g,v'=zG g es.length es.length/\Af m E (zG g es.length es.length) e sz es) a1 hg U hv hs (by
  obtain⟨t,qs,Q,_⟩:=En C;rw[Q];rfl) (fun v u' E T=>.inl T.2.1) (fun w W=>?_) (fun v u' E a7 T=>?_)
 ·obtain⟨t,qs,J,Q,hi⟩:=En C;obtain⟨a6,ac,a4,pos,after,R⟩:=o;simp only at J;subst J;obtain⟨hu,i,X,Y,rfl,rfl⟩:=D4 hi;obtain⟨g1,g2,g3,g4⟩:=W.newM (cs:=(A2 es).toArray) (t:=e) (by simpa using Fu L);have V:=Ba L;have a0:es.length*i.size≠0:=by have:=A51 Z a2;omega
  have j:=Sn es 0 ((Array.range (es.length*i.size)).map (z.cells[· % z.cells.size]!)) L mV;have e0:((Array.range (es.length*i.size)).map (z.cells[· % z.cells.size]!)).toList.drop (es.length*i.size) = []:=mV;simp only[A2w,e0]at j;refine B8 (w':=w.alloc (.cells (A2 es).toArray e (0,0))) (v:=.slice (some ⟨w.heap.size,0,none⟩) es.length es.length) ?_ ⟨u,_,g1,g2,rfl,Jw _ g3,_,rfl,L,.inr ⟨w.heap.size,es.length,[],g3,by rw[A1x],rfl,A08 _,by rw[A1x,V],mV⟩⟩;simp only[execOp,Q];simp[Instr.buildSlice,run_underlying hu,sizeOf,typeInfo,zeroValue,X,Y,a0,j,newRow,show ¬ 16777216<es.length*i.size by omega]
 obtain⟨rfl,_,g,rfl,hA⟩:=T;rw[I];exact .nil (k g E hA)
theorem Ob.callV {P:Program}[A6 P]{V:Nat}{C:Array Oper}{E:S->PH->PH->Prop}{a d:Nat}{kk:List KI}{s:S}{u m:PH}(f:Nat)(args:zV){R:Value->PH->Prop}
 (h:Aj P (.reg V C true [a]::kk,s)=.call f args) (hd:(C[a]?).bind (·.dst)=some d) (hc:∀ args w,(callFunc f args).run P w=.ok (.enter f args) w) (c:Fn0 P f args u R)
 (k:∀ v t,PH.le u t->R v t->E (s.put (some d) (.v v)) t m):Ob P V C true E [a] s u m:=by
 obtain⟨a1,W,X,i',l',a2,a3,o,J,U,hg,Q,hv,hs,j,a0⟩:=Eq h mV;obtain⟨⟨⟨rfl,rfl,rfl,rfl,rfl⟩,rfl⟩,rfl⟩:=J;have F:o.dst=some d:=by grind
 refine Ob.big (K:=fun v' t I=>I=m/\R v' t) U hg Q hv hs (Dv _ _ j) (fun v t I L=>.inl (by rw[L.1];exact PH.le_refl _)) (fun w H=>?_) (fun v t I T L=>?_)
 ·refine Hq j hc w _ ?_;refine (c w H.noM).mono fun e w' he=>?_;obtain⟨v,t,I,J,Y,Z,rfl,e4⟩:=he;obtain⟨g1,g2⟩:=H.frame Y Z;exact⟨v,J,t,m,g1,g2,rfl,e4⟩
 obtain⟨rfl,hR⟩:=L;rw[F];exact .nil (k v t T hR)
end
def Ahj (P:Program)(pre l:zK)(d1 d2 d3 d4:Nat)(x1 x2 x3 x4:SV)(st:List KI×S):List KI×S:=match st with
 |(.code (.region id ops true)::k,s)=>match Ru P id ops pre s with
  |some s'=>(.reg id ops true l::k,s'.put4 d1 d2 d3 d4 x1 x2 x3 x4)
  |none=>st
 |_=>st
def Azj (P:Program)(pre:zK)(q1 q2 r1 r2:Nat)(post:zK)(d1 d2 d3 d4:Nat)(st:List KI×S):Bool:=match st with
 |(.code (.region _ ops true)::_,s)=>Alo ops s pre [q1,q2,r1,r2] post&&(match st.1 with|.code (.region id ops _)::_=>(Ru P id ops pre s).isSome|_=>false)&&bef ops ops.size q2 q1&&bef ops ops.size r2 r1 &&
  decide ((ops[q1]?).bind (·.dst)=some d1/\(ops[q2]?).bind (·.dst)=some d2/\(ops[r1]?).bind (·.dst)=some d3/\(ops[r2]?).bind (·.dst)=some d4)&&decide (d1≠d2/\d1≠d3/\d1≠d4/\d2≠d3/\d2≠d4/\d3≠d4)&&decide ([q1,q2,r1,r2].Nodup)
 |_=>false
structure Lay where
 e:TypeId
 sz:Nat
 bt:Nat
 z:Value
 es:zV
structure Asm (L:Lay):Prop where
 ho:A9 L.sz L.es
 hzs:L.z.cells.size=L.sz
 hsz:0<L.sz
 hn0:0<L.es.length
 hb:L.es.length*L.sz<=16777216
def Lay.stop (L:Lay):Vm:=.buildS (some (L.e,L.sz,L.bt,L.z)) L.es.length (L.es.zipIdx.map fun p=>(p.2,p.1))
def Lay.v (L:Lay)(g:Nat):Value:=zG g L.es.length L.es.length
def Lay.arr (L:Lay)(g:Nat):Arr:=⟨L.v g,L.e,L.sz,L.es⟩
section rules
variable {P:Program} [A6 P] {fn:Func} {Post:Ce} {st:List KI×S} {u m:PH}
theorem G.fan (pre:zK)(q1 q2 r1 r2:Nat)(C:zK)(d1 d2 d3 d4:Nat)(E:Lay)(Q:Nat->Lay)(L:Lay)(V:Value)(f:Nat)(args:zV)(h:Azj P pre q1 q2 r1 r2 C d1 d2 d3 d4 (adv P st)=true)
 (H1:∀ x1 x2 x3 x4,Aj P (Ahj P pre [q1] d1 d2 d3 d4 x1 x2 x3 x4 (adv P st))=E.stop) (o1:Asm E)
 (H2:∀ g x2 x3 x4,Aj P (Ahj P pre [q2] d1 d2 d3 d4 (.v (E.v g)) x2 x3 x4 (adv P st))=(Q g).stop) (o2:∀ g,Asm (Q g))
 (H3:∀ x1 x2 x3 x4,Aj P (Ahj P pre [r1] d1 d2 d3 d4 x1 x2 x3 x4 (adv P st))=.call f args) (hc:∀ args w,(callFunc f args).run P w=.ok (.enter f args) w) (c:∀ t,PH.le u t->Fn0 P f args t fun v _=>v=V)
 (H4:∀ x1 x2 x4,Aj P (Ahj P pre [r2] d1 d2 d3 d4 x1 x2 (.v V) x4 (adv P st))=L.stop) (o4:Asm L)
 (k:∀ g1 g2 R t j,PH.le u t->Bag j [L.arr R,(Q g1).arr g2,E.arr g1]->G P fn Post (Ahj P pre C d1 d2 d3 d4 (.v (E.v g1)) (.v ((Q g1).v g2)) (.v V) (.v (L.v R)) (adv P st)) t j):G P fn Post st u m:=by
 refine G.stp ⟨?_⟩;generalize adv P st=st' at h H1 H2 H3 H4 k;unfold Azj at h;split at h
 ·rename_i id ops kk s;simp only[A1m]at h;obtain⟨⟨⟨⟨⟨⟨h1,h2⟩,hq⟩,hr⟩,hd⟩,U⟩,a2⟩:=h;obtain⟨J,a7⟩:=A6a.1 h2;obtain⟨e1,e2,e3,e4⟩:=of_decide_eq_true hd;have U:=of_decide_eq_true U;have a2:=of_decide_eq_true a2;simp only[A4j,A1g,A11,or_false,not_or,not_false_eq_true,List.nodup_nil,and_true]at a2;obtain⟨⟨ai,af,ag⟩,⟨a8,a9⟩,ah⟩:=a2;have e0:∀ l x1 x2 x3 x4,Ahj P pre l d1 d2 d3 d4 x1 x2 x3 x4 (.code (.region id ops true)::kk,s)=(.reg id ops true l::kk,J.put4 d1 d2 d3 d4 x1 x2 x3 x4):=fun l x1 x2 x3 x4=>by unfold Ahj;simp only[a7]
  simp only[e0]at H1 H2 H3 H4 k;refine Sym.reg_tree A6.mx h1 (Ob.autos a7 ?_);rw[Aos J d1 d2 d3 d4];generalize J.tm d1=x1;generalize J.tm d2=x2;generalize J.tm d3=x3;generalize J.tm d4=x4;have Y:∀ {Fin x1 x2 x3 x4 u m},(∀ g j,(E.arr g).At m j->Fin (J.put4 d1 d2 d3 d4 (.v (E.v g)) x2 x3 x4) u j)->Ob P id ops true Fin [q1] (J.put4 d1 d2 d3 d4 x1 x2 x3 x4) u m:=fun {Fin x1 x2 x3 x4 u m} hk =>
   Ob.layM E.e E.sz E.bt E.z E.es (H1 x1 x2 x3 x4) e1 o1.ho o1.hzs o1.hsz o1.hn0 o1.hb fun g j F=>by rw[Axl U];exact hk g j F
  have Z:∀ {Fin g1 x2 x3 x4 u m},(∀ g j,((Q g1).arr g).At m j->Fin (J.put4 d1 d2 d3 d4 (.v (E.v g1)) (.v ((Q g1).v g)) x3 x4) u j)->Ob P id ops true Fin [q2] (J.put4 d1 d2 d3 d4 (.v (E.v g1)) x2 x3 x4) u m:=fun {Fin g1 x2 x3 x4 u m} hk =>
   Ob.layM (Q g1).e (Q g1).sz (Q g1).bt (Q g1).z (Q g1).es (H2 g1 x2 x3 x4) e2 (o2 g1).ho (o2 g1).hzs (o2 g1).hsz (o2 g1).hn0 (o2 g1).hb fun g j F=>by rw[Ax4 U];exact hk g j F
  have a4:∀ {Fin x1 x2 x3 x4 m} (u1:PH),PH.le u u1->(∀ t,PH.le u1 t->Fin (J.put4 d1 d2 d3 d4 x1 x2 (.v V) x4) t m)->Ob P id ops true Fin [r1] (J.put4 d1 d2 d3 d4 x1 x2 x3 x4) u1 m:=fun {Fin x1 x2 x3 x4 m} u1 hle hk =>
   Ob.callV f args (H3 x1 x2 x3 x4) e3 hc (c u1 hle) fun v t I hv=>by rw[Axd U,hv];exact hk t I
  have a0:∀ {Fin x1 x2 x4 u m},(∀ g j,(L.arr g).At m j->Fin (J.put4 d1 d2 d3 d4 x1 x2 (.v V) (.v (L.v g))) u j)->Ob P id ops true Fin [r2] (J.put4 d1 d2 d3 d4 x1 x2 (.v V) x4) u m:=fun {Fin x1 x2 x4 u m} hk =>
   Ob.layM L.e L.sz L.bt L.z L.es (H4 x1 x2 x4) e4 o4.ho o4.hzs o4.hsz o4.hn0 o4.hb fun g j F=>by rw[Axt U];exact hk g j F
  have a3:∀ {g1 g2 R t j},PH.le u t->Bag j [L.arr R,(Q g1).arr g2,E.arr g1]->Qh P id ops C (Hm P fn Post kk) 0 [] (J.put4 d1 d2 d3 d4 (.v (E.v g1)) (.v ((Q g1).v g2)) (.v V) (.v (L.v R))) t j:=fun I T=>(k _ _ _ _ _ I T).out;have ad:∀ {g1 g2 x4 t j},PH.le u t->Bag j [(Q g1).arr g2,E.arr g1]->Qh P id ops C (Hm P fn Post kk) 1 [r2] (J.put4 d1 d2 d3 d4 (.v (E.v g1)) (.v ((Q g1).v g2)) (.v V) x4) t j:=fun {g1 g2 x4 t j} I T a H _=>by
   simp only[A1g,A11,or_false]at H;subst H;rw[A3a];exact a0 fun g K F=>a3 I ⟨j,F,T⟩
  have aa:∀ {g1 R x2 t j},PH.le u t->Bag j [L.arr R,E.arr g1]->Qh P id ops C (Hm P fn Post kk) 1 [q2] (J.put4 d1 d2 d3 d4 (.v (E.v g1)) x2 (.v V) (.v (L.v R))) t j:=fun {g1 R x2 t j} I T a H _=>by
   simp only[A1g,A11,or_false]at H;subst H;rw[A3a];exact Z fun g K F=>a3 I (Bag.perm (List.Perm.swap _ _ _) (show Bag K [(Q g1).arr g,L.arr R,E.arr g1] from⟨j,F,T⟩))
  have a1:∀ {g1 x2 x4 t j},PH.le u t->Bag j [E.arr g1]->Qh P id ops C (Hm P fn Post kk) 2 [q2,r2] (J.put4 d1 d2 d3 d4 (.v (E.v g1)) x2 (.v V) x4) t j:=fun {g1 x2 x4 t j} I T a H _=>by
   simp only[A1g,A11,or_false]at H;rcases H with rfl|rfl
   ·rw[A3a];exact Z fun g K F=>ad I ⟨j,F,T⟩
   rw[A5e (by simpa using a9),A3a];exact a0 fun g K F=>aa I ⟨j,F,T⟩
  have a6:∀ {g1 g2 x3 x4 t j},PH.le u t->Bag j [(Q g1).arr g2,E.arr g1]->Qh P id ops C (Hm P fn Post kk) 2 [r1,r2] (J.put4 d1 d2 d3 d4 (.v (E.v g1)) (.v ((Q g1).v g2)) x3 x4) t j:=fun {g1 g2 x3 x4 t j} I T a H W=>by
   simp only[A1g,A11,or_false]at H;rcases H with rfl|rfl
   ·rw[A3a];exact a4 _ I fun ae X=>ad (I.trans X) T
   have:=W r1 mV ah;rw[hr]at this;cases this
  have a5:∀ {R x1 x2 t j},PH.le u t->Bag j [L.arr R]->Qh P id ops C (Hm P fn Post kk) 2 [q1,q2] (J.put4 d1 d2 d3 d4 x1 x2 (.v V) (.v (L.v R))) t j:=fun {R x1 x2 t j} I T a H W=>by
   simp only[A1g,A11,or_false]at H;rcases H with rfl|rfl
   ·rw[A3a];exact Y fun g K F=>aa I (Bag.perm (List.Perm.swap _ _ _) (show Bag K [E.arr g,L.arr R] from⟨j,F,T⟩))
   grind
  have ab:∀ {g1 x2 x3 x4 t j},PH.le u t->Bag j [E.arr g1]->Qh P id ops C (Hm P fn Post kk) 3 [q2,r1,r2] (J.put4 d1 d2 d3 d4 (.v (E.v g1)) x2 x3 x4) t j:=fun {g1 x2 x3 x4 t j} I T a H W=>by
   simp only[A1g,A11,or_false]at H;rcases H with rfl|rfl|rfl
   ·rw[A3a];exact Z fun g K F=>a6 I ⟨j,F,T⟩
   ·rw[A5e (by simpa using a8),A3a];exact a4 _ I fun ae X=>a1 (I.trans X) T
   grind
  have ac:∀ {x1 x2 x4 t j},PH.le u t->Qh P id ops C (Hm P fn Post kk) 3 [q1,q2,r2] (J.put4 d1 d2 d3 d4 x1 x2 (.v V) x4) t j:=fun {x1 x2 x4 t j} I a H W=>by
   simp only[A1g,A11,or_false]at H;rcases H with rfl|rfl|rfl
   ·rw[A3a];exact Y fun g K F=>a1 I ⟨j,F,trivial⟩
   ·grind
   rw[A5e (by simpa using ag),A5e (by simpa using a9),A3a];exact a0 fun g K F=>a5 I ⟨j,F,trivial⟩
  intro a H W;simp only[A1g,A11,or_false]at H;rcases H with rfl|rfl|rfl|rfl
  ·rw[A3a];exact Y fun g K F=>ab (PH.le_refl _) ⟨m,F,trivial⟩
  ·grind
  ·rw[A5e (by simpa using af),A5e (by simpa using a8),A3a];exact a4 _ (PH.le_refl _) fun ae X=>ac X
  grind
 cases h
end rules
end
section
structure Aam (u:PH)(v cv:Value)(T:zC)(R:List Br)(F:List Al)(lab:Int)(C:CF)(K k:Nat):Prop where
 sch:H5 u v T R F lab
 ok:Bl u T R F lab
 cof:No u cv C K
 sC:CFS C
 vC:CFV C
 K:K<=10000
 bel:∀ p,C.s p≠0->Adm F lab p
 mom:Ai6 C k
 p24:∀ P,Nn F C P->P.length<=24
 lab0:0<=lab
section
variable {u:PH} {v cv:Value} {T:zC} {R:List Br} {F:List Al} {lab:Int} {C:CF} {K k:Nat} {P:List Par}
def Yo (C:CF)(P:List Par)(i:Nat):zM:=((An P).take (i+1)).map (As C none)::(P.take i).map fun p=>(An P).map (As C (some p))
def An3:Yo C P P.length=Lh C P:=by
 unfold Yo Lh;rw[show (An P).take (P.length+1)=An P by rw[A1j (by rw[Cp];omega)],A15]
 conv=>rhs;rw[show An P=none::P.map some from rfl]
 rw[A2u,A9h];rfl
def Ajb (h:Aam u v cv T R F lab C K k) :
 Ag prog 184 [v,cv] u PH.mt fun r u' m'=>∃ (P:List Par) (pa:zP) (pc:Nat) (xa:zP) (xc:Nat) (ra:zP) (rc:Nat) (E:List (Value×zV)),Nn F C P /\
  r=.tuple #[.agg #[.slice pa P.length pc,.slice xa (P.length+1) xc,.slice ra (P.length+1) rc],zO]/\Ac u' (.slice pa P.length pc) 2 (P.map Ap)/\E.map (·.2)=(Lh C P).map txV /\
  Bag m' (Bu (.slice ra (P.length+1) rc,txV ((An P).map (Bh C)))::oT (.slice xa (P.length+1) xc) E::E.map Bu):=by
 have b6:=Ahd h.sch h.ok h.cof h.sC h.vC (A04 h.K oV) h.bel;have ap:=h.p24;have hK:=h.K;have ci:=h.lab0;have hS:=fun (u':PH) (l:PH.le u u') (p:Par)=>A0d p (h.cof.mono l) oV;have hQ:=fun (u':PH) (l:PH.le u u') (p q:Par)=>Afd p q (h.cof.mono l) oV;obtain⟨xa,xc,xb,xd,xe,xf,rfl,_⟩:=id h.sch;obtain⟨a1,n1,c1,a2,n2,c2,rfl⟩:=id h.cof.opn;refine Ag.o func184<|G.c call232 b6 ?_;intro v1 u1 l1 hp;obtain⟨ps,P,rfl,hL,_,a5⟩:=hp.resolve_left fun⟨_,L,h1,a5⟩=>by have:=ap L a5;omega
 have ch:=ap P a5;have cj:=Cp P;obtain⟨pa,pc,rfl⟩:=hL.opn;rw[A03]at hL⊢;refine G.nF 0 0<|G.lF lab 0<|G.fan [0,1,2,5,6,10] 3 4 7 8 [9,11] 33 34 37 38 ⟨34,1,16,zE,[zS (Ae C.c)]⟩ (fun g=>⟨46,1,24,zN,[zG g 1 1]⟩) ⟨34,1,16,zE,[zS (Ae (C.s B7))]⟩ (zS (Ae (C.s B7))) _ _ kV
  (fun _ _ _ _=>kV) ⟨E7 _,rfl,Nat.one_pos,Nat.one_pos,mV⟩ (fun _ _ _ _=>kV) (fun _=>⟨B5 _ _ _,rfl,Nat.one_pos,Nat.one_pos,mV⟩) (fun _ _ _ _=>kV) call233 (fun u' l=>hS u' (l1.trans l) B7) (fun _ _ _=>kV) ⟨E7 _,rfl,Nat.one_pos,Nat.one_pos,mV⟩ ?_
 intro g3 g4 g5 u2 m5 l2 ay;refine G.l (ι:=Nat×(zP×Nat)×(zP×Nat)×List (Value×zV)) (fun i=>[(3,.p 1 0),(4,.p 2 0),(6,sV pa P.length pc),(8,.p 6001 0),(9,.p 7010 0),(40,sV pa P.length pc),(41,iV P.length),(42,iV i.1)])
  (fun i=>[(1,⟨38,[tV (Ae C.c),sV a1 n1 c1,sV a2 n2 c2]⟩),(2,⟨57,[sN,sN,sN]⟩),(6001,⟨118,[iV (-1),tV []]⟩),
   (7010,⟨57,[.v (.slice pa P.length pc),.v (.slice i.2.1.1 (i.1+1) i.2.1.2),.v (.slice i.2.2.1.1 (i.1+1) i.2.2.1.2)]⟩)])
  (fun i u' m'=>i.1<=P.length/\i.2.2.2.map (·.2)=(Yo C P i.1).map txV/\Bag m' (Bu (.slice i.2.2.1.1 (i.1+1) i.2.2.1.2,txV (((An P).take (i.1+1)).map (Bh C)))::oT (.slice i.2.1.1 (i.1+1) i.2.1.2) i.2.2.2::i.2.2.2.map Bu)) (fun i=>P.length-i.1)
  (0,(some ⟨g4,0,none⟩,1),(some ⟨g5,0,none⟩,1),[(zG g3 1 1,txV [C.c])])
  ⟨oV,by unfold Yo An;rfl,ay⟩ ?_
 clear ay;rintro J ⟨i,⟨ya,W⟩,⟨ra,rc⟩,E⟩ hJ u5 m5 l5 ⟨hi,H,I⟩;simp only at hi H I hJ;have bg:=(l1.trans l2).trans l5;have b8:E.length=i+1:=by have:=congrArg List.length H;rw[A03,A03]at this;rw[this];simp[Yo];omega
 by_cases b4:i<P.length
 ·refine G.lT i P.length ?_;obtain⟨p,ag⟩:∃ p,P[i]?=some p:=⟨_,A01 b4⟩;have ba:(An P).take (i+1+1)=(An P).take (i+1)++[some p]:=by rw[Ex,Ex,A1n,ag];simp
  obtain⟨bp,op,e0,ep⟩:=Ac.at' (hL.mono (l2.trans l5)) (j:=i) (e:=Ap p) (by simp[ag]);subst e0;refine G.N P.length pc b4 ep ?_;obtain⟨go,co,eo⟩:=I.ptr 1 rfl (fun e=>by
   have:(E.map (·.1)).length=0:=by rw[show E.map (·.1) = [] from e];rfl
   rw[A03]at this;omega)
  have bo:(Value.slice ya (i+1) W)=zG go (i+1) co:=by
   have e1:(oT (.slice ya (i+1) W) E).v=Value.slice ya (i+1) W:=rfl;rw[e1]at eo;rw[eo];have:(oT (.slice ya (i+1) W) E).es.length=i+1:=by show (E.map (·.1)).length=_;rw[A03,b8]
   rw[this]
  cases bo;obtain⟨⟨v0,e0⟩,a3⟩:∃ x,E[0]?=some x:=⟨_,A01 oV⟩;have bx:e0=txV (((An P).take (i+1)).map (As C none)):=by
   have h1:=congrArg (fun l=>l[0]?) H;simp only[A1a,a3]at h1;simpa[Yo] using h1
  subst bx;have af:(txV (((An P).take (i+1)).map (As C none))).length=i+1:=by rw[Bgm,A03,A1e];omega
  obtain⟨z0,ak,ez⟩:=I.shape 2 (x:=Bu (v0,txV (((An P).take (i+1)).map (As C none)))) (by simp[a3]);simp only[Bu]at ez;rw[af]at ez;subst ez;have b5:ElP m5 go (0+0*1) (.slice z0 (i+1) ak):=I.el 1 (x:=oT (zG go (i+1) W) E) rfl rfl (by show (E.map (·.1))[0]?=_;rw[A1a,a3];rfl);refine G.o (i+1) W b5<|G.c call233 (hS u5 bg p) ?_;rintro v6 u6 l6 rfl;refine G.B 34 1 16 zE [zS (Ae (C.s p))] (E7 _) ?_;intro g7 u7 l7 e7;obtain⟨m0,V,Q⟩:=I.focus 2 (x:=Bu (.slice z0 (i+1) ak,txV (((An P).take (i+1)).map (As C none)))) (by simp[a3]);rw[D6]at V;refine G.append 34 1 16 zE m0 (txV (((An P).take (i+1)).map (As C none))) [zS (Ae (C.s p))] (.slice z0 (i+1) ak) g7 0 1 1 kV rfl rfl oV V e7 (E7 _) rfl oV (by rw[af];omega) (by rw[af];omega) ?_;intro v8 m8 a4;have e8:txV (((An P).take (i+1)).map (As C none))++[zS (Ae (C.s p))]=txV (((An P).take (i+1+1)).map (As C none)):=by rw[ba,A1i,Md];rfl
  rw[e8]at a4;have bz:(txV (((An P).take (i+1+1)).map (As C none))).length=i+1+1:=by rw[Bgm,A03,A1e];omega
  obtain⟨a8,c8,rfl⟩:=a4.shape;rw[bz]at a4⊢;have az:=Q (Bu (.slice a8 (i+1+1) c8,txV (((An P).take (i+1+1)).map (As C none)))) m8 a4;obtain⟨m1,ai,a0⟩:=az.focus 1 rfl;rw[Aaa]at ai;refine G.a go 0 (i+1) W 0 1 oV<|G.storeA 1 m1 _ go (i+1) W 0 (.slice a8 (i+1+1) c8) kV ai gV rfl rfl ?_;intro m9 bw;have b0:=a0 (oT (zG go (i+1) W) (E.set 0 (.slice a8 (i+1+1) c8,txV (((An P).take (i+1+1)).map (As C none))))) m9 (by rw[Aaa,A2g];exact bw);obtain⟨m,U⟩:∃ r,r=E.set 0 (.slice a8 (i+1+1) c8,txV (((An P).take (i+1+1)).map (As C none))):=⟨_,rfl⟩;have aa:Bag m9 (Bu (.slice ra (i+1) rc,txV (((An P).take (i+1)).map (Bh C)))::oT (zG go (i+1) W) m::m.map Bu):=by
   rw[U,A2g];simpa using b0
  have c4:m.map (·.2)=(((An P).take (i+1+1)).map (As C none)::(P.take i).map fun p=>(An P).map (As C (some p))).map txV:=by
   rw[U,A2g,H];rfl
  have b9:m.length=i+1:=by rw[U,A21];exact b8
  clear b0 az Q a0 V ai I H a3 b5;have bh:=(bg.trans l6).trans l7;refine G.c call233 (hS u7 bh p) ?_;rintro cs cm aj rfl;refine G.buildM 34 1 16 zE [zS (Ae (C.s p))] kV (E7 _) rfl oV mV mV ?_;intro br ck a9;have be:=bh.trans aj;have aq:=hL.mono ((((l2.trans l5).trans l6).trans l7).trans aj);refine G.l (ι:=Nat×(zP×Nat)) (fun j=>[(3,.p 1 0),(4,.p 2 0),(6,sV (some ⟨bp,op,none⟩) P.length pc),(8,.p 6001 0),(9,.p 7010 0),(11,.p 10002 0),(12,sV j.2.1 (j.1+1) j.2.2),(40,sV (some ⟨bp,op,none⟩) P.length pc),(41,iV P.length),(42,iV i),(62,sV (some ⟨bp,op,none⟩) P.length pc),(63,iV P.length),(64,iV j.1)])
   (fun j=>[(1,⟨38,[tV (Ae C.c),sV a1 n1 c1,sV a2 n2 c2]⟩),(2,⟨57,[sN,sN,sN]⟩),(6001,⟨118,[iV (-1),tV []]⟩),
    (7010,⟨57,[.v (.slice (some ⟨bp,op,none⟩) P.length pc),.v (zG go (i+1) W),.v (.slice ra (i+1) rc)]⟩),(10002,⟨118,[.v (zI p.1),.v (zS p.2)]⟩)])
   (fun j u' m'=>j.1<=P.length/\Bag m' (Bu (.slice j.2.1 (j.1+1) j.2.2,txV (((An P).take (j.1+1)).map (As C (some p))))::Bu (.slice ra (i+1) rc,txV (((An P).take (i+1)).map (Bh C)))::oT (zG go (i+1) W) m::m.map Bu)) (fun j=>P.length-j.1)
   (0,some ⟨br,0,none⟩,1) ⟨oV,m9,a9,aa⟩ ?_
  clear aa a9;rintro J2 ⟨j,la,lc⟩ ae ce cl a7 ⟨hj,a6⟩;simp only at hj a6 ae;have ab:=be.trans a7;by_cases b1:j<P.length
  ·refine G.lT j P.length ?_;obtain⟨q,b7⟩:∃ q,P[j]?=some q:=⟨_,A01 b1⟩;have c5:(An P).take (j+1+1)=(An P).take (j+1)++[some q]:=by rw[Ex,Ex,A1n,b7];simp
   obtain⟨bq,oq,e0,eq⟩:=Ac.at' (aq.mono a7) (j:=j) (e:=Ap q) (by simp[b7]);cases e0;refine G.N P.length pc b1 eq<|G.c call54 (hQ ce ab p q) ?_;rintro ct cn c6 rfl;refine G.B 34 1 16 zE [zS (Ae (C.t (Ay p q)))] (E7 _) ?_;intro bs cp c7 bj;obtain⟨m0,V,Q⟩:=a6.focus 0 rfl;rw[D6]at V;have b2:(txV (((An P).take (j+1)).map (As C (some p)))).length=j+1:=by rw[Bgm,A03,A1e];omega
   refine G.append 34 1 16 zE m0 (txV (((An P).take (j+1)).map (As C (some p)))) [zS (Ae (C.t (Ay p q)))] (.slice la (j+1) lc) bs 0 1 1 kV rfl rfl oV V bj (E7 _) rfl oV (by rw[b2];omega) (by rw[b2];omega) ?_;intro cu cc X;have bk:txV (((An P).take (j+1)).map (As C (some p)))++[zS (Ae (C.t (Ay p q)))]=txV (((An P).take (j+1+1)).map (As C (some p))):=by rw[c5,A1i,Md];rfl
   rw[bk]at X;have c0:(txV (((An P).take (j+1+1)).map (As C (some p)))).length=j+1+1:=by rw[Bgm,A03,A1e];omega
   obtain⟨al,an,rfl⟩:=X.shape;rw[c0]at X⊢;have ar:=Q (Bu (.slice al (j+1+1) an,txV (((An P).take (j+1+1)).map (As C (some p))))) cc X;exact G.i j<|G.b (ae (j+1,al,an) _ _ _ cV ((a7.trans c6).trans c7) ⟨dV,ar⟩ dV)
  obtain rfl:j=P.length:=oV
  refine G.lF P.length P.length ?_;clear ae;rw[show (An P).take (P.length+1)=An P by rw[A1j oV]]at a6;refine G.B 46 1 24 zN [.slice la (P.length+1) lc] (B5 _ _ _) ?_;intro bt cg bd bl;obtain⟨m0,V,Q⟩:=a6.focus 2 rfl;rw[Aaa]at V;refine G.k 46 1 24 zN m0 (m.map (·.1)) [.slice la (P.length+1) lc] (zG go (i+1) W) bt 0 1 1 V bl (B5 _ _ _) ?_;intro cw bi Y;have em:m.map (·.1)++[Value.slice la (P.length+1) lc]=(m++[(Value.slice la (P.length+1) lc,txV ((An P).map (As C (some p))))]).map (·.1):=mV
  rw[em]at Y;obtain⟨ac,ad,rfl⟩:=Y.shape;have el:((m++[(Value.slice la (P.length+1) lc,txV ((An P).map (As C (some p))))]).map (·.1)).length=i+1+1:=by simp[b9]
  rw[el]at Y⊢;have au:=Q (oT (.slice ac (i+1+1) ad) (m++[(Value.slice la (P.length+1) lc,txV ((An P).map (As C (some p))))])) bi Y;have av:=Bag.perm S8 au;have bf:=ab.trans bd;refine G.c call54 (hQ cg bf B7 p) ?_;rintro cx cq ca rfl;refine G.B 34 1 16 zE [zS (Ae (C.t (Ay B7 p)))] (E7 _) ?_;intro bu cr cb bm;have aw:Bag bi (Bu (.slice ra (i+1) rc,txV (((An P).take (i+1)).map (Bh C)))::oT (.slice ac (i+1+1) ad) (m++[(Value.slice la (P.length+1) lc,txV ((An P).map (As C (some p))))])::(m++[(Value.slice la (P.length+1) lc,txV ((An P).map (As C (some p))))]).map Bu):=by simpa using av
  obtain⟨m2,bb,ah⟩:=aw.focus 0 rfl;rw[D6]at bb;have b3:(txV (((An P).take (i+1)).map (Bh C))).length=i+1:=by rw[Bgm,A03,A1e];omega
  refine G.append 34 1 16 zE m2 (txV (((An P).take (i+1)).map (Bh C))) [zS (Ae (C.t (Ay B7 p)))] (.slice ra (i+1) rc) bu 0 1 1 kV rfl rfl oV bb bm (E7 _) rfl oV (by rw[b3];omega) (by rw[b3];omega) ?_;intro cy cd Z;have bn:txV (((An P).take (i+1)).map (Bh C))++[zS (Ae (C.t (Ay B7 p)))]=txV (((An P).take (i+1+1)).map (Bh C)):=by rw[ba,A1i,Md];rfl
  rw[bn]at Z;have c3:(txV (((An P).take (i+1+1)).map (Bh C))).length=i+1+1:=by rw[Bgm,A03,A1e];omega
  obtain⟨am,ao,rfl⟩:=Z.shape;rw[c3]at Z⊢;have ax:=ah (Bu (.slice am (i+1+1) ao,txV (((An P).take (i+1+1)).map (Bh C)))) cd Z;refine G.i i<|G.b (hJ (i+1,(ac,ad),(am,ao),m++[(Value.slice la (P.length+1) lc,txV ((An P).map (As C (some p))))]) _ _ _ cV (((((((l5.trans l6).trans l7).trans aj).trans a7).trans bd).trans ca).trans cb) ⟨dV,?_,ax⟩ dV);dsimp only;rw[A1i,c4];unfold Yo;rw[show P.take (i+1)=P.take i++[p] by rw[A1n,ag];rfl];simp
 obtain rfl:i=P.length:=oV
 refine G.lF P.length P.length ?_;rw[An3]at H;rw[show (An P).take (P.length+1)=An P by rw[A1j oV]]at I;exact G.r (.tuple #[.agg #[.slice pa P.length pc,.slice ya (P.length+1) W,.slice ra (P.length+1) rc],zO]) ⟨P,pa,pc,ya,W,ra,rc,E,a5,rfl,hL.mono (l2.trans l5),H,I⟩
end
end
def Iz {u:PH}{T:zC}{R:List Br}{F:List Al}{lab:Int}(ok:Bl u T R F lab):∀ l:Nat,lab=(l:Int)->l<T.length:=fun l e=>by
 obtain⟨n,h⟩:=ok.l2 l e;exact (A05.1 h).1
def Au1:SmW 2:=⟨jV,jV⟩
section
variable {x:Rat}
theorem Ben (h:0<=x):0<=sg x:=by
 rcases Agk x with ⟨j,_⟩|⟨_,e⟩|⟨_,e⟩
 ·exact absurd j (by grind)
 ·rw[e];decide
 rw[e];decide
theorem Bep (h:x<=0):sg x<=0:=by
 rcases Agk x with ⟨_,e⟩|⟨_,e⟩|⟨j,_⟩
 ·rw[e];decide
 ·rw[e];decide
 exact absurd j (by grind)
end
section
def R4 {q:Rat}(h:0<q):0<q.num:=by
 have j:0<=q.num:=Rat.num_nonneg.2 (Bat h);have m:q.num≠0:=fun e=>by
  rw[A4r]at e;rw[e]at h;exact absurd h jV
 omega
def Atv {u:PH}{p q:Rat}(ht:Hx u)(hp:Tx p)(m:Tx q)(hs:Tx (p+q)):zF 117 [zS (Ae p),zS (Ae q)] u fun v _=>v=.tuple #[zS (Ae (p+q)),zO]:=by
 have h:zF 185 [zS (Ae p),zS (Ae q),.func (.func 129) #[] #[]] u fun v _=>v=.tuple #[zS (Ae (p+q)),zO]:=by
  refine Fn0.o func185<|G.B 34 1 16 zE [zS (Ae p),zS (Ae q)] (Gc [Ae p,Ae q]) ?_;intro g P J e1;have hS:Cj P (zG g 2 2) ([p,q].map Ae):=⟨_,2,rfl,A08 _,fun j e hj=>⟨g,0,rfl,e1 j e hj⟩⟩;refine G.c call234 (Ajw hS (by intro x t;simp at t;rcases t with rfl|rfl;exact hp;exact m) mV) ?_;rintro v2 u2 l2 rfl;refine G.c call133 (Gs hp) ?_;intro v3 u3 l3 E;obtain⟨b3,a3,n3,c3,W,Q,a2,Z,rfl⟩:=E.opn;refine G.c call133 (Gs m) ?_;intro v4 u4 L H;obtain⟨b4,a4,n4,c4,X,U,a6,a0,rfl⟩:=H.opn;refine G.c call129 (Lq (E.mono L) H (hp.sz.mono oV) (m.sz.mono oV)) ?_;intro v5 u5 l5 I;obtain⟨b5,a5,n5,c5,Y,V,a7,a1,rfl⟩:=I.opn;refine G.c call71 (Uf (ht.mono ((((J.trans l2).trans l3).trans L).trans l5)) I hs) ?_;rintro v6 u6 l6 rfl;exact G.z _
 refine Fn0.o func117<|G.c call185 h ?_;rintro v1 P J rfl;exact G.z _
structure Ay8 (q:Rat):Prop where
 tx:Tx q
 pos:0<q
 de:De 3 2 q
def Fd.w {q:Rat}(h:Fd q):Ay8 q:=⟨h.tx,h.pos,h.de.mono oV oV⟩
section
variable {u:PH} {v cv:Value} {T:zC} {R:List Br} {F:List Al} {lab:Int} {C:CF} {K k:Nat} {q:Rat}
theorem An9 (h:Aam u v cv T R F lab C K k)(hq:Ay8 q) :
 Ag prog 116 [v,cv,zS (Ae q)] u PH.mt fun r u' m'=>∃ (P:List Par) (pa:zP) (pc:Nat) (xa:zP) (xc:Nat) (ra:zP) (rc:Nat) (rows:List (Value×zV)),Nn F C P /\
  r=.tuple #[.agg #[.slice pa P.length pc,.slice xa (P.length+1) xc,.slice ra (P.length+1) rc],zI (if k=0 then 12 else 0)]/\Ac u' (.slice pa P.length pc) 2 (P.map Ap)/\rows.map (·.2)=(Lh C P).map txV /\
  Bag m' (Bu (.slice ra (P.length+1) rc,txV ((An P).map (Bh C)))::oT (.slice xa (P.length+1) xc) rows::rows.map Bu):=by
 have hmx:=Ajb h;have hS:=h.mom;obtain⟨xa,xc,xb,xd,xe,xf,rfl,_⟩:=id h.sch;obtain⟨a1,n1,c1,a2,n2,c2,rfl⟩:=id h.cof.opn;refine Ag.o func116 ?_;refine G.callO _ _ kV call184 hmx ?_;rintro v1 u1 m1 l1 ⟨P,pa,pc,ya,yc,ra,rc,rows,hPL,rfl,hP,hrows,hbag⟩ _;rw[By];refine G.nF 0 0 ?_;refine G.c call169 (Gu hq.tx) ?_;rintro v2 u2 l2 rfl;refine G.c call103 (S7 hq.tx) ?_;rintro v3 u3 l3 rfl;have hqn:sgn q.num=1:=C5 (R4 hq.pos);refine G.kF (sgn q.num) 0 ?_;refine G.c call103 (S7 hS.tx) ?_;rintro v4 u4 l4 rfl;by_cases h0:k=0
 ·rw[if_pos h0];have hz:sgn C.c.num=0:=A0g.2 (by rw[hS.c,h0];rfl);refine G.kT (sgn C.c.num) 0 ?_;exact G.r (.tuple #[.agg #[.slice pa P.length pc,.slice ya (P.length+1) yc,.slice ra (P.length+1) rc],zI 12]) ⟨P,pa,pc,ya,yc,ra,rc,rows,hPL,rfl,hP.mono ((l2.trans l3).trans l4),hrows,hbag⟩
 ·rw[if_neg h0];have hz:sgn C.c.num=1:=C5 (R4 (hS.cpos h0));refine G.kF (sgn C.c.num) 0 ?_;exact G.r (.tuple #[.agg #[.slice pa P.length pc,.slice ya (P.length+1) yc,.slice ra (P.length+1) rc],zO]) ⟨P,pa,pc,ya,yc,ra,rc,rows,hPL,rfl,hP.mono ((l2.trans l3).trans l4),hrows,hbag⟩
end
end
def K9 (m:PH)(gn:Nat)(e:Int):PH:=if e=0 then m else m.upd gn (.cells #[zN,zN,zN] 57 (0,0))
def Apo {P:Program}{T:TypeId}{z:Value}{u m:PH}{w:World}{E:Nat}{s1 s2 s3 t1 t2 t3:Value}(F:Bv u m w)(hn:m E=some (.cells #[s1,s2,s3] T (0,0)))(h1:Ax t1=true)(h2:Ax t2=true)(h3:Ax t3=true)(hz:∀ R,pv P R (.build T #[])=some (.agg #[t1,t2,t3]))(hs:szB P T=some 3)
 {Q:Exit->Act->World->Prop} {I J:Oper} (p0:I.op=.build T #[]) (d0:I.dst=some 4) (g0:I.guard=none) (p1:J.op=.store T (.tmp 1) (.tmp 4)) (Y:J.dst=none) (g1:J.guard=none) {id:Nat} {a:Act} (ha:a.eval (.tmp 1)=.pointer (zA E)) (hl:4<a.tmps.size)
 (hk:∀ X w',X.defers=a.defers->Bv u (m.upd E (.cells #[t1,t2,t3] T (0,0))) w'->B0 u m w u (m.upd E (.cells #[t1,t2,t3] T (0,0))) w'->Q .normal X w'):(Code.region id #[I,J] false).wp P Q a w:=by
 obtain⟨a1,a2,C,pos,after,U⟩:=I;obtain⟨Z,a0,h,t,e,K⟩:=J;simp only at p0 d0 g0 p1 Y g1;subst p0 d0 g0 p1 Y g1;have e0:(execOp a.eval ⟨some 4,.build T #[],C,pos,after,none⟩).run P w=.ok (.value (.agg #[t1,t2,t3])) w:=Agc (hz _) w;have V:(a.put (some 4) (.agg #[t1,t2,t3])).eval (.tmp 1)=.pointer (zA E):=by
  rw[<-ha];simp[Act.eval,Act.put]
 have W:(a.put (some 4) (.agg #[t1,t2,t3])).eval (.tmp 4)=.agg #[t1,t2,t3]:=by
  simp[Act.eval,Act.put,hl]
 have j:∀ x∈(#[t1,t2,t3]:Array Value).toList,Ax x=true:=fun x L=>by
  simp at L;rcases L with rfl|rfl|rfl<;>assumption
 obtain⟨k1,k2⟩:=F.setM hn j;have e1:(execOp (a.put (some 4) (.agg #[t1,t2,t3])).eval ⟨none,.store T (.tmp 1) (.tmp 4),h,t,e,none⟩).run P w=.ok .skip (w.setRow E #[t1,t2,t3]):=by
  have H:=run_storeCells_at P E 0 T [t1,t2,t3] 0 #[s1,s2,s3] w (F.pm E _ hn) mV (fun x L=>Gl (j x (by simpa using L)));simp only[execOp,V,W];simp[Instr.storeAt,Instr.sureAddr,storeVar,Bf hs,Value.cells]at H⊢;rw[H];rfl
 refine wp_region ?_;refine .inl ?_;show Oper.upon P ⟨some 4,.build T #[],C,pos,after,none⟩ a _ _ ((execOp a.eval ⟨some 4,.build T #[],C,pos,after,none⟩).run P w);rw[e0,Oper.upon_value];show wpOps P _ _ [1] (a.put (some 4) (.agg #[t1,t2,t3])) w;refine .inl ?_;show Oper.upon P ⟨none,.store T (.tmp 1) (.tmp 4),h,t,e,none⟩ (a.put (some 4) (.agg #[t1,t2,t3])) _ _ ((execOp (a.put (some 4) (.agg #[t1,t2,t3])).eval ⟨none,.store T (.tmp 1) (.tmp 4),h,t,e,none⟩).run P w);rw[e1,Oper.upon_skip];exact hk _ _ rfl k1 k2
theorem Aja {u m:PH}{ge gn:Nat}{e:Int}{s1 s2 s3:Value}(he:m ge=some (.cells #[zI e] 39 (0,0)))(hn:m gn=some (.cells #[s1,s2,s3] 57 (0,0)))(h1:Ax s1=true)(h2:Ax s2=true)(h3:Ax s3=true) :
 Aix prog 115 [.pointer (zA ge),.pointer (zA gn)] u m (fun u' m'=>u'=u/\m'=K9 m gn e):=by
 intro w hgd;refine (callsDIn_of_wp (R:=fun e' w'=>∃ v u' m',e'=.returned v/\Bv u' m' w'/\B0 u m w u' m' w'/\u'=u/\m'=K9 m gn e) func115 rfl trivial (wpIn_wide.2 ?_) rfl).mono (fun e' md w' h=>h);have hl:∀ ev:Operand->Value,∀ o:Oper,o.op=.load 39 (.tmp 0)->ev (.tmp 0)=.pointer (zA ge)->(execOp ev o).run prog w=.ok (.value (zI e)) w:=fun ev o ho hv=>by
  obtain⟨dst,opp,type,pos,after,guard⟩:=o;simp only at ho;subst ho;have hel:ElP m ge 0 (zI e):=fun i x hi=>by
   match i,hi with
   |0,hi=>exact⟨_,_,_,he,by simpa[Value.cells] using hi⟩
  have hr:=Kj (P:=prog) (t:=39) (k:=none) kV rfl hel hgd.pm;simp[execOp,Instr.loadAt,Instr.sureAddr,hv];rw[hr];rfl
 have hb:∀ ev:Operand->Value,∀ o:Oper,o.op=.binOp .neq 39 (.tmp 2) (.const zO) 39->ev (.tmp 2)=zI e->ev (.const zO)=zO->(execOp ev o).run prog w=.ok (.value (.bool (decide (e≠0)))) w:=fun ev o ho hv hv2=>by
  obtain⟨dst,opp,type,pos,after,guard⟩:=o;simp only at ho;subst ho;have hg:∀ t X Y,(eqGuard .neq t X Y (zI e) zO).run prog w=.ok () w:=fun t X Y=>C0 t X Y w;have hr:∀ t,(binOp .neq t (zI e) zO).run prog w=.ok (.bool (decide (e≠0))) w:=fun t=>by
   simp[binOp,Op.intCmp]
   try (rw[A9j];simp)
  simp[execOp,hv,hv2,hg,hr]
 refine wp_seq (wp_region ?_);refine .inl ?_;show Oper.upon _ _ _ _ _ ((execOp _ _).run _ _);rw[hl _ _ rfl rfl,Oper.upon_value];refine .inl ?_;show Oper.upon _ _ _ _ _ ((execOp _ _).run _ _);rw[hb _ _ rfl rfl rfl,Oper.upon_value];by_cases h0:e=0
 ·rw[show decide (e≠0)=false by simp[h0]];refine wp_cond_false rfl (wp_skip ?_);refine bodyPost_end (results_none rfl _ _ _) rfl ?_;exact⟨_,_,_,rfl,hgd,B0.refl _ _ _,rfl,by unfold K9;rw[if_pos h0]⟩
 ·rw[show decide (e≠0)=true by simp[h0]];refine wp_cond_true rfl ?_;refine Apo (z:=undef) hgd hn (t1:=zN) (t2:=zN) (t3:=zN) rfl rfl rfl (fun env=>kV) kV rfl rfl rfl rfl rfl rfl rfl (Nat.lt_of_lt_of_eq (by decide:4<5) rfl) ?_;intro a' w' hd k1 k2;refine bodyPost_end (results_none rfl _ _ _) hd ?_;exact⟨_,_,_,rfl,k1,k2,rfl,by unfold K9;rw[if_neg h0]⟩
section
variable [Cl] [Co]
section
variable {P:Program} [A6 P] {id:Nat} {ops:Array Oper} {Fin:S->PH->PH->Prop} {a d:Nat} {kk:List KI} {s:S} {u m:PH}
def Ob.loadO (L:Option Nat)(b off:Nat)(e:Value)(h:Aj P (.reg id ops true [a]::kk,s)=.load (some L) (.pointer (some ⟨b,off,none⟩)))(K:(ops[a]?).bind (·.dst)=some d)(hs:Wg L e=true)(Y:ElP m b off e)(k:Fin (s.put (some d) (.v e)) u m):Ob P id ops true Fin [a] s u m:=by
 obtain⟨a1,Q,T,i',l',a2,a4,o,C,F,Z,I,hv,J,j,a0⟩:=Eq h mV;simp only[A2i,A3g,KI.reg.injEq]at C;obtain⟨⟨⟨rfl,rfl,rfl,rfl,rfl⟩,rfl⟩,rfl⟩:=C;have E:o.dst=some d:=by rw[F]at K;simpa using K
 refine Ob.ask (v:=e) F Z I hv J (Aby j mV) (fun w hp=>?_) ?_
 ·obtain⟨t,X,C,V,W⟩:=Ui j;obtain⟨U,a3,R,pos,after,H⟩:=o;simp only at C;subst C;simp[execOp,Instr.loadAt,Instr.sureAddr,V,Kj W hs Y ((hp (.inl rfl)).2 (.inl rfl))]
 rw[E];exact .nil k
def Ob.storeO (sz b off:Nat)(t:TypeId)(cs:zV)(e:Value)(h:Aj P (.reg id ops true [a]::kk,s)=.store (some sz) (.pointer (some ⟨b,off,none⟩)) e)(hd:(ops[a]?).bind (·.dst)=none)(hw:L6 ops a ((ops[a]?.getD default).op)=true)(hb:m b=some (.cells cs.toArray t (0,0)))(ho:∀ x∈cs,Ax x=true)(hl:off+sz<=cs.length)(Z:e.cells.size=sz)(V:e.cells.toList.all Ax=true)
 (k:Fin s u (m.upd b (.cells (cs.take off++e.cells.toList++cs.drop (off+sz)).toArray t (0,0)))):Ob P id ops true Fin [a] s u m:=by
 obtain⟨a8,a4,a5,i',l',a9,ab,o,J,H,hg,W,hv,a2,j,a7⟩:=Eq h mV;simp only[A2i,A3g,KI.reg.injEq]at J;obtain⟨⟨⟨rfl,rfl,rfl,rfl,rfl⟩,rfl⟩,rfl⟩:=J;have L:o.dst=none:=by rw[H]at hd;simpa using hd
 have a3:(ops[a]?.getD default).op=o.op:=by rw[H];rfl
 rw[a3]at hw;refine Ob.big (K:=fun v' u' m'=>u'=u/\m'=m.upd b (.cells (cs.take off++e.cells.toList++cs.drop (off+sz)).toArray t (0,0))) H hg W hv a2 (by
  obtain⟨t',X,Y,U,_⟩:=Fq j;rw[U];rfl) (fun v u' m' hK=>.inr (.inr (.inl hw))) (fun w Q=>?_) (fun v u' m' a6 hK=>?_)
 ·obtain⟨t',X,Y,J,U,e3,ht⟩:=Fq j;obtain⟨T,aa,R,pos,after,E⟩:=o;simp only at J;subst J;rw[A1o]at V;have a1:=Q.pm b _ hb;have I:=run_storeCells_at P b off t e.cells.toList 0 cs.toArray w a1 (by simp[Z];omega) (fun x C=>Gl (V x C));simp only[A3s,A3o,Z,A3t]at I;have F:∀ x∈(cs.take off++e.cells.toList++cs.drop (off+sz)).toArray.toList,Ax x=true:=by
   intro x C;simp only[A3t,A1h]at C;rcases C with (C|C)|C
   ·exact ho x (A27 C)
   ·exact V x C
   exact ho x (A3x C)
  obtain⟨g1,g2⟩:=Q.setM hb F;unfold Eg;have a0:(execOp (C2 s) ⟨T,.store t' X Y,R,pos,after,E⟩).run P w=.ok .skip (w.setRow b (cs.take off++e.cells.toList++cs.drop (off+sz)).toArray):=by
   simp only[execOp,U,e3];simp only[A2k]at I⊢;simp[Instr.storeAt,Instr.sureAddr,storeVar,Bf ht,Z,I]
  rw[a0];exact⟨u,_,g1,g2,rfl,rfl⟩
 obtain⟨rfl,rfl⟩:=hK;rw[L];exact .nil k
end
def Axk {m:PH}{g:Nat}{o:Obj}(h:m g=some o):m.upd g o=m:=by
 funext k
 by_cases e:k=g
 ·subst e;rw[Ab,h]
 rw[Ad _ _ e]
def Ap9 (st:List KI×S)(d0 d1:Nat):Bool:=match st with
 |(.code (.region _ ops true)::_,s)=>Alo ops s [] [0,1,2,3] []&&bef ops ops.size 2 0&&bef ops ops.size 3 0&&bef ops ops.size 3 1&&bef ops ops.size 3 2&&decide ((ops[0]?).bind (·.dst)=some d0/\(ops[1]?).bind (·.dst)=some d1/\(ops[2]?).bind (·.dst)=none/\(ops[3]?).bind (·.dst)=none)&&decide (d0≠d1) &&
  L6 ops 2 ((ops[2]?.getD default).op)&&L6 ops 3 ((ops[3]?.getD default).op)
 |_=>false
def atS (l:zK)(st:List KI×S)(f:S->S):List KI×S:=match st with
 |(.code (.region id ops true)::k,s)=>(.reg id ops true l::k,f s)
 |_=>st
section rules
variable {P:Program} [A6 P] {fn:Func} {Post:Ce} {st:List KI×S} {u m:PH}
def G.back2 (d0 H:Nat)(k0 k1:Option Nat)(Q J:Nat)(t0 t1:TypeId)(C F:Value)(n0 n1:Nat)(h:Ap9 (adv P st) d0 H=true)
 (H0:∀ x,Aj P (atS [0] (adv P st) (fun s=>s.put (some H) x))=.load (some k0) (.pointer (zA Q))) (H1:∀ x,Aj P (atS [1] (adv P st) (fun s=>s.put (some d0) x))=.load (some k1) (.pointer (zA J)))
 (H2:∀ x,Aj P (atS [2] (adv P st) (fun s=>(s.put (some d0) (.v C)).put (some H) x))=.store (some n0) (.pointer (zA Q)) C) (H3:Aj P (atS [3] (adv P st) (fun s=>(s.put (some d0) (.v C)).put (some H) (.v F)))=.store (some n1) (.pointer (zA J)) F)
 (a7:Wg k0 C=true) (Z:Wg k1 F=true) (T:m Q=some (.cells C.cells t0 (0,0))) (L:m J=some (.cells F.cells t1 (0,0))) (a4:C.cells.size=n0) (a5:F.cells.size=n1) (a2:C.cells.toList.all Ax=true) (a3:F.cells.toList.all Ax=true)
 (k:G P fn Post (atS [] (adv P st) (fun s=>(s.put (some d0) (.v C)).put (some H) (.v F))) u m):G P fn Post st u m:=by
 refine G.stp ⟨?_⟩;generalize adv P st=st' at h H0 H1 H2 H3 k;unfold Ap9 at h;split at h
 ·rename_i id ops kk s;simp only[A1m]at h;obtain⟨⟨⟨⟨⟨⟨⟨⟨h1,a0⟩,ad⟩,a9⟩,R⟩,hd⟩,Y⟩,w2⟩,w3⟩:=h;obtain⟨a1,X,aa,ab⟩:=of_decide_eq_true hd;have Y:=of_decide_eq_true Y;simp only[atS]at H0 H1 H2 H3 k;have K:∀ (b:Nat) (t:TypeId) (e:Value),m b=some (.cells e.cells t (0,0))->ElP m b 0 e:=fun b t e hb i x hi=>⟨_,_,_,hb,by simpa using hi⟩;have V:∀ e:Value,e.cells.toList.all Ax=true->∀ x∈e.cells.toList,Ax x=true:=fun e h=>by rwa[A1o]at h
  have W:∀ (b:Nat) (t:TypeId) (e:Value) (n:Nat),e.cells.size=n->m b=some (.cells e.cells t (0,0))->m.upd b (.cells (e.cells.toList.take 0++e.cells.toList++e.cells.toList.drop (0+n)).toArray t (0,0))=m:=fun b t e n hn hb=>by
   rw[A2b (by rw[A3o,hn];omega)];simp only[A53,A3q,A1x,A5x];exact Axk hb
  have U:∀ s:S,s=s.put (some H) (s.tm H):=fun s=>S.ext' rfl (funext fun t=>by
   by_cases e:t=H
   ·subst e;rw[Az]
   rw[Ct _ _ _ e]) rfl
  have a8:∀ s:S,s=s.put (some d0) (s.tm d0):=fun s=>S.ext' rfl (funext fun t=>by
   by_cases e:t=d0
   ·subst e;rw[Az]
   rw[Ct _ _ _ e]) rfl
  have pc:∀ (s:S) (x y:SV),(s.put (some H) y).put (some d0) x=(s.put (some d0) x).put (some H) y:=fun s x y=>Afo s y x (fun j hj=>by cases hj;intro e;cases e;exact Y rfl);have pp:∀ (s:S) (x y:SV),(s.put (some H) x).put (some H) y=s.put (some H) y:=fun s x y=>S.ext' rfl (funext fun t=>by
   by_cases e:t=H
   ·subst e;rw[Az,Az]
   rw[Ct _ _ _ e,Ct _ _ _ e,Ct _ _ _ e]) rfl
  have ae:∀ (s:S) (x y:SV),(s.put (some d0) x).put (some d0) y=s.put (some d0) y:=fun s x y=>S.ext' rfl (funext fun t=>by
   by_cases e:t=d0
   ·subst e;rw[Az,Az]
   rw[Ct _ _ _ e,Ct _ _ _ e,Ct _ _ _ e]) rfl
  have s2:∀ {Fin:S->PH->PH->Prop} (x:SV),Fin ((s.put (some d0) (.v C)).put (some H) x) u m->Ob P id ops true Fin [2] ((s.put (some d0) (.v C)).put (some H) x) u m:=fun {Fin} x hk =>
   Ob.storeO n0 Q 0 t0 C.cells.toList C (H2 x) aa w2 (by simpa using T) (V C a2) (by rw[A3o];omega) a4 a2 (by rw[W Q t0 C n0 a4 T];exact hk)
  have n3:Qh P id ops [] (Hm P fn Post kk) 1 [3] ((s.put (some d0) (.v C)).put (some H) (.v F)) u m:=fun a I _=>by
   simp only[A1g,A11,or_false]at I;subst I;rw[A3a];refine Ob.storeO n1 J 0 t1 F.cells.toList F H3 ab w3 (by simpa using L) (V F a3) (by rw[A3o];omega) a5 a3 ?_;rw[W J t1 F n1 a5 L];exact k.out
  have a6:Qh P id ops [] (Hm P fn Post kk) 2 [2,3] ((s.put (some d0) (.v C)).put (some H) (.v F)) u m:=fun a I E=>by
   simp only[A1g,A11,or_false]at I;rcases I with rfl|rfl
   ·rw[A3a];exact s2 _ n3
   have:=E 2 mV fV;rw[R]at this;cases this
  have ac:Qh P id ops [] (Hm P fn Post kk) 2 [1,3] (s.put (some d0) (.v C)) u m:=fun a I E=>by
   simp only[A1g,A11,or_false]at I;rcases I with rfl|rfl
   ·rw[A3a];exact Ob.loadO k1 J 0 F (H1 _) X Z (K J t1 F L) n3
   have:=E 1 mV fV;rw[a9]at this;cases this
  refine Sym.reg_tree A6.mx h1 (.nil ?_);show Qh P id ops [] (Hm P fn Post kk) 4 [0,1,2,3] s u m;intro a I E;simp only[A1g,A11,or_false]at I;rcases I with rfl|rfl|rfl|rfl
  ·rw[show [0,1,2,3].erase 0 = [1,2,3] from rfl,U s];refine Ob.loadO k0 Q 0 C (H0 _) a1 a7 (K Q t0 C T) ?_;rw[<-U s];intro a I E;simp only[A1g,A11,or_false]at I;rcases I with rfl|rfl|rfl
   ·rw[show [1,2,3].erase 1 = [2,3] from rfl];exact Ob.loadO k1 J 0 F (H1 _) X Z (K J t1 F L) a6
   ·rw[show [1,2,3].erase 2 = [1,3] from rfl,U (s.put (some d0) (.v C))];refine s2 _ ?_;rw[<-U (s.put (some d0) (.v C))];exact ac
   have:=E 2 mV fV;rw[R]at this;cases this
  ·rw[show [0,1,2,3].erase 1 = [0,2,3] from rfl,a8 s];refine Ob.loadO k1 J 0 F (H1 _) X Z (K J t1 F L) ?_;rw[<-a8 s];intro a I E;simp only[A1g,A11,or_false]at I;rcases I with rfl|rfl|rfl
   ·rw[show [0,2,3].erase 0 = [2,3] from rfl];refine Ob.loadO k0 Q 0 C (H0 _) a1 a7 (K Q t0 C T) ?_;rw[pc];exact a6
   ·have:=E 0 mV fV;rw[a0]at this;cases this
   have:=E 2 mV fV;rw[R]at this;cases this
  ·have:=E 0 mV fV;rw[a0]at this;cases this
  have:=E 2 mV fV;rw[R]at this;cases this
 cases h
end rules
end
section
variable {es:zV}{g i:Nat}{l:List Arr}{t:TypeId}
def Kq (g:Nat)(t:TypeId)(es:zV):Arr:=⟨zG g es.length es.length,t,1,es⟩
def U6 (es:zV):Prop:=∀ x∈es,Ax x=true/\x.cells = #[x]
def R1 {m:PH}(j:m g=none)(e:U6 es):(Kq g t es).At m (m.upd g (.cells es.toArray t (0,0))):=by
 refine⟨Ap1 e,.inr ⟨g,es.length,[],j,?_,rfl,A08 _,?_,mV⟩⟩
 ·show _=m.upd g (.cells (A2 es++[]).toArray t (0,0));rw[Lz fun x h=>(e x h).2,A1x]
 show (A2 es++[]).length=es.length*1;rw[Lz fun x h=>(e x h).2,A1x,A50]
def Alg {m0 m:PH}(h:(Kq g t es).At m0 m)(I:U6 es)(U:es≠[]):m0 g=none/\m=m0.upd g (.cells es.toArray t (0,0)):=by
 rcases h.2 with ⟨h,_,_⟩|⟨Q,cap,rest,E,e,H,L,j,_⟩
 ·cases h
 obtain⟨⟨rfl,_,_⟩,_,rfl⟩:=H;simp only[Kq]at e j;rw[Lz fun x J=>(I x J).2]at e j;have:rest = []:=by simp_all
 subst this;rw[A1x]at e;exact⟨E,e⟩
def M6 {m:PH}(h:Bag m l)(hi:l[i]?=some (Kq g t es))(E:U6 es)(j:es≠[]):m g=some (.cells es.toArray t (0,0)):=by
 obtain⟨m0,e,_⟩:=h.focus i hi;rw[(Alg e E j).2,Ab]
def Cg {m:PH}{i g j:Nat}{x:Value}(h:Bag m l)(hi:l[i]?=some (Kq g t es))(e:es[j]?=some x):ElP m g (0+j*1) x:=h.el i hi rfl e
def Adr {m:PH}(h:Bag m l)(hi:l[i]?=some (Kq g t es))(H:U6 es)(E:es≠[]):ElP m g 0 (.agg es.toArray):=fun j x e=>by
 refine⟨_,_,_,M6 h hi H E,?_⟩;simpa[Value.cells] using e
section
variable [Cl] [Co] {P:Program} [A6 P] {fn:Func} {Post:Ce} {st:List KI×S} {u m:PH}
def G.storeOne {l:List Arr}(i g:Nat)(t:TypeId)(n:Nat)(es:zV)(e:Value)(h:Aj P (adv P st)=.store (some n) (.pointer (zA g)) e)(W:Bag m l)(hi:l[i]?=some (Kq g t es))(J:U6 es)(Y:es≠[])(Z:es.length=n)(X:e.cells.size=n)(I:U6 e.cells.toList)
 (k:∀ L,Bag L (l.set i (Kq g t e.cells.toList))->G P fn Post (nx (adv P st) undef) u L):G P fn Post st u m:=by
 obtain⟨m0,V,j⟩:=W.focus i hi;obtain⟨Q,H⟩:=Alg V J Y;refine G.storeM n g 0 t es e h (by rw[H,Ab]) (fun x E=>(J x E).1) oV X (A1o.2 fun x E=>(I x E).1) ?_;have U:m.upd g (.cells (es.take 0++e.cells.toList++es.drop (0+n)).toArray t (0,0))=m0.upd g (.cells e.cells.toList.toArray t (0,0)):=by
  rw[H,Dp,A2b oV];simp
 rw[U];exact k _ (j _ _ (R1 Q I))
end
def Ap5:Value:=.agg #[zN,zN,zN]
def Axe (F:List Al)(C:CF)(k:Nat)(q:Rat)(r:Value)(u m:PH):Prop :=
 (∃ e:Int,r=.tuple #[Ap5,zI e]/\(e=12/\k=0\/e=3/\k≠0/\∃ P,Nn F C P/\11<P.length)) \/
 (k≠0/\∃ (P:List Par) (pa:zP) (pc:Nat) (xa:zP) (xc:Nat) (ra:zP) (rc:Nat) (rows:List (Value×zV)),Nn F C P/\P.length<=11 /\
  r=.tuple #[.agg #[.slice pa P.length pc,.slice xa (P.length+1) xc,.slice ra (P.length+1) rc],zO]/\Ac u (.slice pa P.length pc) 2 (P.map Ap)/\rows.map (·.2)=(D0 q (Lh C P) (P.length+1)).map txV /\
  Bag m (Bu (.slice ra (P.length+1) rc,txV ((An P).map (Bh C)))::oT (.slice xa (P.length+1) xc) rows::rows.map Bu))
def Ia {a b c:zP}{n1 c1 n2 c2 n3 c3:Nat}:U6 [.slice a n1 c1,.slice b n2 c2,.slice c n3 c3]:=fun x e=>by
 simp only[A1g,A11,or_false]at e;rcases e with rfl|rfl|rfl<;>exact⟨rfl,rfl⟩
def Gf {z:Int}:U6 [zI z]:=fun x e=>by
 simp only[A1g,A11,or_false]at e;subst e;exact⟨rfl,rfl⟩
def Aj8 {m:PH}{h j:Nat}{e:Int}(E:j≠h)(H:e≠0)(I:m j=some (.cells #[zI e] 39 (0,0))):ElP (K9 m h e) h 0 Ap5/\ElP (K9 m h e) j 0 (zI e):=by
 unfold K9;rw[if_neg H];refine⟨fun i x hi=>⟨_,_,_,Ab _ _ _,by simpa[Ap5,Value.cells] using hi⟩,fun i x hi=>⟨#[zI e],_,_,by rw[Ad _ _ E,I],by simpa[Value.cells] using hi⟩⟩
section
variable {u:PH} {v cv:Value} {T:zC} {R:List Br} {F:List Al} {lab:Int} {C:CF} {K k:Nat} {q:Rat}
def Aam.cellDe (h:Aam u v cv T R F lab C K k)(e f:Option Par):De 75 18 (As C e f):=by
 cases e<;>cases f
 ·show De 75 18 C.c;rw[h.mom.c];exact (De.nat (a:=2) (by have:=h.mom.lt;omega)).mono oV oV
 ·exact h.mom.s _
 ·exact h.mom.s _
 exact h.mom.t _
theorem Ahm (ht:Hx u)(h:Aam u v cv T R F lab C K k)(hq:Ay8 q) :
 Ag prog 52 [v,cv,zS (Ae q)] u PH.mt fun r u' m'=>Axe F C k q r u' m':=by
 have ay:=An9 h hq;have az:=h.cellDe;obtain⟨xa,xc,xb,xd,xe,xf,rfl,_⟩:=id h.sch;obtain⟨a1,n1,c1,a2,n2,c2,rfl⟩:=id h.cof.opn;have aq:=h.p24;refine Ag.o func52<|G.go 7<|G.pub 2 57 [zN,zN,zN] kV kV ?_;intro I b8 b0;refine G.pub 3 39 [zO] kV kV ?_;intro U b5 a4;have ah:Bag ((PH.mt.upd I (.cells #[zN,zN,zN] 57 (0,0))).upd U (.cells #[zO] 39 (0,0))) [Kq U 39 [zO],Kq I 57 [zN,zN,zN]] :=
  ⟨_,R1 a4 Gf,PH.mt,R1 b0 Ia,trivial⟩
 have al:U≠I:=fun e=>by rw[e,Ab]at a4;cases a4
 refine G.go 1<|G.off (d:=9) (fn:=.func 115) (vs:=[.pointer (zA U),.pointer (zA I)]) kV kV kV ?_;obtain⟨B,hB⟩:∃ B:Co,B=⟨[Zs (.func 115) [.pointer (zA U),.pointer (zA I)]]⟩:=⟨_,rfl⟩;rw[<-hB];have ac:B.dl = [Zs (.func 115) [.pointer (zA U),.pointer (zA I)]]:=by subst hB;rfl
 clear hB;have a5:∀ w,(invoke (Zs (.func 115) [.pointer (zA U),.pointer (zA I)]).target (Zs (.func 115) [.pointer (zA U),.pointer (zA I)]).args).run prog w=.ok (.enter 115 [Value.pointer (zA U),.pointer (zA I)].toArray) w:=fun w=>by
  simp[invoke,Zs]
 refine G.callO _ _ kV call116 ay ?_;rintro v1 u1 mc l1 ⟨P,pa,pc,Z,V,ra,rc,H,a8,rfl,hL,E,L⟩ a7;have b4:=aq P a8;have aa:=Bag.perm (A5r) (Bag.or ah L a7);rw[A4x,A4x,A3q]at aa;clear ah L a7;refine G.storeOne 1 I 57 3 [zN,zN,zN] (.agg #[.slice pa P.length pc,.slice Z (P.length+1) V,.slice ra (P.length+1) rc]) kV aa rfl Ia mV rfl rfl Ia ?_;intro m3 ai;refine G.storeOne 0 U 39 1 [zO] (zI (if k=0 then 12 else 0)) kV ai rfl Gf mV rfl rfl Gf ?_;intro m4 Q;clear aa ai;simp only[A2j,A2p,Value.cells]at Q;refine G.loadM none U 0 (zI (if k=0 then 12 else 0)) kV rfl (Cg (j:=0) Q (i:=0) rfl rfl) ?_;by_cases h0:k=0
 ·rw[if_pos h0]at Q⊢;refine G.nT 12 0 ?_;have a0:=M6 Q (i:=1) rfl Ia mV;have Y:=M6 Q (i:=0) rfl Gf mV;refine G.back2 19 20 (some 3) none I U 57 39 (.agg #[.slice pa P.length pc,.slice Z (P.length+1) V,.slice ra (P.length+1) rc]) (zI 12) 3 1 kV (fun _=>kV) (fun _=>kV) (fun _=>kV) kV rfl rfl a0 Y rfl rfl rfl rfl<|G.retD ac (K:=fun u' m'=>u'=u1/\m'=K9 m4 I 12) rfl a5 kV (Aja Y a0 rfl rfl rfl) ?_;rintro u' m' _ ⟨rfl,rfl⟩;obtain⟨q1,q2⟩:=Aj8 (e:=12) al fV Y;exact⟨[Ap5,zI 12],PH.mt,⟨.inr ⟨6,57,I,0,some 3,rfl,kV,kV,rfl,q1⟩,.inr ⟨7,39,U,0,none,rfl,kV,kV,rfl,q2⟩,trivial⟩,PH.mt_le _,.inl ⟨12,rfl,.inl ⟨rfl,h0⟩⟩⟩
 rw[if_neg h0]at Q⊢;refine G.nF 0 0<|G.f 57 I 0 1 1<|G.loadM none I (0+1) (.slice Z (P.length+1) V) kV rfl (Cg (j:=1) Q (i:=1) rfl rfl) ?_;by_cases b6:P.length+1>12
 ·refine G.gT (P.length+1:Nat) 12<|G.loadM (some 3) I 0 (.agg #[.slice pa P.length pc,.slice Z (P.length+1) V,.slice ra (P.length+1) rc]) kV rfl (Adr Q (i:=1) rfl Ia mV)<|G.storeOne 1 I 57 3 _ (.agg #[.slice pa P.length pc,.slice Z (P.length+1) V,.slice ra (P.length+1) rc]) kV Q rfl Ia mV rfl rfl Ia ?_;intro m5 ax;refine G.storeOne 0 U 39 1 [zO] (zI 3) kV ax rfl Gf mV rfl rfl Gf ?_;intro m6 a3;simp only[A2j,A2p,Value.cells]at a3;have a0:=M6 a3 (i:=1) rfl Ia mV;have Y:=M6 a3 (i:=0) rfl Gf mV;refine G.retD ac (K:=fun u' m'=>u'=u1/\m'=K9 m6 I 3) rfl a5 kV (Aja Y a0 rfl rfl rfl) ?_;rintro u' m' _ ⟨rfl,rfl⟩;obtain⟨q1,q2⟩:=Aj8 (e:=3) al fV Y;exact⟨[Ap5,zI 3],PH.mt,⟨.inr ⟨6,57,I,0,some 3,rfl,kV,kV,rfl,q1⟩,.inr ⟨7,39,U,0,none,rfl,kV,kV,rfl,q2⟩,trivial⟩,PH.mt_le _,.inl ⟨3,rfl,.inr ⟨rfl,h0,P,a8,oV⟩⟩⟩
 refine G.gF (P.length+1:Nat) 12<|G.f 57 I 0 0 0<|G.loadM none I (0+0) (.slice pa P.length pc) kV rfl (Cg (j:=0) Q (i:=1) rfl rfl) ?_;have hX:=Sj C P;generalize ag:Lh C P=X at E hX;have aw:∀ i j,i<P.length+1->j<P.length+1->De 75 18 (en X i j):=fun i j hi hj=>by rw[<-ag,Abs C P hi hj];exact az _ _
 refine G.l (ι:=Nat×List (Value×zV)) (fun i=>[(2,tV (Ae q)),(6,.v (.pointer (zA I))),(7,.v (.pointer (zA U))),(28,iV P.length),(29,iV i.1)]) (fun _=>[])
  (fun i u' m'=>i.1<=P.length/\i.2.map (·.2)=(D0 q X (i.1+1)).map txV/\Bag m' (Kq U 39 [zO]::Kq I 57 [.slice pa P.length pc,.slice Z (P.length+1) V,.slice ra (P.length+1) rc]::Bu (.slice ra (P.length+1) rc,txV ((An P).map (Bh C)))::oT (.slice Z (P.length+1) V) i.2::i.2.map Bu)) (fun i=>P.length-i.1)
  (0,H) ⟨A1t _,E,Q⟩ ?_
 clear Q E;rintro J ⟨i,H⟩ hJ u5 m5 l5 ⟨hi,E,L⟩;simp only at hi E L hJ;obtain⟨mE,hE,mN,hN,hR⟩:=id L;have ad:PH.le mN m5:=(Ad3 hN).trans (Ad3 hE);have a9:=Nx (q:=q) hX (i+1) oV;by_cases b9:i<P.length
 ·refine G.lT i P.length ?_;have b2:H.length=P.length+1:=by have:=congrArg List.length E;rw[A03,A03,a9.1]at this;exact this
  obtain⟨go,co,eo⟩:=hR.ptr 1 rfl (fun e=>by
   have:(H.map (·.1)).length=0:=by rw[show H.map (·.1) = [] from e];rfl
   rw[A03]at this;omega)
  have ap:(Value.slice Z (P.length+1) V)=zG go (P.length+1) co:=by
   have e1:(oT (.slice Z (P.length+1) V) H).v=Value.slice Z (P.length+1) V:=rfl;rw[e1]at eo;rw[eo];have:(oT (.slice Z (P.length+1) V) H).es.length=P.length+1:=by show (H.map (·.1)).length=_;rw[A03,b2]
   rw[this]
  cases ap;obtain⟨gi,ci,an,e1,e2⟩:=Ayw hR E a9 (show i+1<P.length+1 by omega);have ak:gR (gM (D0 q X (i+1)) (i+1)) (i+1)=en X (i+1) (i+1):=by
   have:=Vv (q:=q) hX (i+1) oV (i+1) (i+1) oV oV;rw[if_neg oV]at this;show en (D0 q X (i+1)) (i+1) (i+1)=_;rw[this];grind
  have hd:=aw (i+1) (i+1) oV oV;have ae:=e2 (i+1) oV;rw[ak]at ae;have a6:ElP m5 I (0+1) (zG go (P.length+1) V):=Cg (j:=1) L (i:=1) rfl rfl;refine G.f 57 I 0 1 1<|G.loadM none I (0+1) (zG go (P.length+1) V) kV rfl a6<|G.i i<|G.a go 0 (P.length+1) V (i+1) 1 oV<|G.loadM none go (0+(i+1)*1) (zG gi (P.length+1) ci) kV rfl (e1.mono ad)<|G.i i<|G.f 57 I 0 1 1<|G.loadM none I (0+1) (zG go (P.length+1) V) kV rfl a6<|G.i i<|G.a go 0 (P.length+1) V (i+1) 1 oV<|G.loadM none go (0+(i+1)*1) (zG gi (P.length+1) ci) kV rfl (e1.mono ad)<|G.i i<|G.a gi 0 (P.length+1) ci (i+1) 1 oV<|G.loadM none gi (0+(i+1)*1) (zS (Ae (en X (i+1) (i+1)))) kV rfl (ae.mono ad) ?_;have ha:=hd.add hq.de (f:=78) oV oV;refine G.c call117 (Atv ((ht.mono l1).mono l5) (hd.tx oV oV oV oV) hq.tx (ha.tx oV oV oV oV)) ?_;rintro v6 u6 l6 rfl;refine G.a gi 0 (P.length+1) ci (i+1) 1 oV ?_;obtain⟨m0,ao,am⟩:=L.focus (i+5) (x:=Bu (zG gi (P.length+1) ci,txV (gM (D0 q X (i+1)) (i+1)))) (by simp[an]);rw[D6]at ao;have b7:(txV (gM (D0 q X (i+1)) (i+1))).length=P.length+1:=by rw[Bgm,a9.2 (i+1) oV]
  refine G.storeA 1 m0 (txV (gM (D0 q X (i+1)) (i+1))) gi (P.length+1) ci (i+1) (zS (Ae (en X (i+1) (i+1)+q))) kV ao oV rfl rfl ?_;intro m7 af;have es:(txV (gM (D0 q X (i+1)) (i+1))).set (i+1) (zS (Ae (en X (i+1) (i+1)+q)))=txV ((gM (D0 q X (i+1)) (i+1)).set (i+1) (gR (gM (D0 q X (i+1)) (i+1)) (i+1)+q)):=by
   rw[ak];unfold txV;rw[A2g]
  rw[es]at af;have W:=am (Bu (zG gi (P.length+1) ci,txV ((gM (D0 q X (i+1)) (i+1)).set (i+1) (gR (gM (D0 q X (i+1)) (i+1)) (i+1)+q)))) m7 af;have aj:Bag m7 (Kq U 39 [zO]::Kq I 57 [.slice pa P.length pc,zG go (P.length+1) V,.slice ra (P.length+1) rc]::Bu (.slice ra (P.length+1) rc,txV ((An P).map (Bh C))) ::
   oT (zG go (P.length+1) V) (H.set (i+1) (zG gi (P.length+1) ci,txV ((gM (D0 q X (i+1)) (i+1)).set (i+1) (gR (gM (D0 q X (i+1)) (i+1)) (i+1)+q))))::(H.set (i+1) (zG gi (P.length+1) ci,txV ((gM (D0 q X (i+1)) (i+1)).set (i+1) (gR (gM (D0 q X (i+1)) (i+1)) (i+1)+q)))).map Bu):=by
   rw[Aho an,A2g];simpa using W
  refine G.storeOne 0 U 39 1 [zO] zO kV aj rfl Gf mV rfl rfl Gf ?_;intro m8 ab;simp only[A2p,Value.cells]at ab;refine G.loadM none U 0 zO kV rfl (Cg (j:=0) ab (i:=0) rfl rfl)<|G.nF 0 0<|G.i i<|G.b (hJ (i+1,H.set (i+1) (zG gi (P.length+1) ci,txV ((gM (D0 q X (i+1)) (i+1)).set (i+1) (gR (gM (D0 q X (i+1)) (i+1)) (i+1)+q)))) _ _ _ cV (l5.trans l6) ⟨dV,?_,ab⟩ dV);rw[A2g,E,<-A2g];rfl
 obtain rfl:i=P.length:=oV
 refine G.lF P.length P.length<|G.loadM (some 3) I 0 (.agg #[.slice pa P.length pc,.slice Z (P.length+1) V,.slice ra (P.length+1) rc]) kV rfl (Adr L (i:=1) rfl Ia mV)<|G.storeOne 1 I 57 3 _ (.agg #[.slice pa P.length pc,.slice Z (P.length+1) V,.slice ra (P.length+1) rc]) kV L rfl Ia mV rfl rfl Ia ?_;intro m6 a3;refine G.storeOne 0 U 39 1 [zO] zO kV a3 rfl Gf mV rfl rfl Gf ?_;intro m7 W;simp only[Value.cells]at W;have a0:=M6 W (i:=1) rfl Ia mV;have Y:=M6 W (i:=0) rfl Gf mV;refine G.retD ac (K:=fun u' m'=>u'=u5/\m'=K9 m7 I 0) rfl a5 kV (Aja Y a0 rfl rfl rfl) ?_;intro u' m' _ hK;have b1:m'=m7:=hK.2.trans (if_pos rfl);rw[hK.1,b1];obtain⟨ba,ar,b3,au,av⟩:=id W;have q1:=Adr W (i:=1) rfl Ia mV;have q2:=Cg (j:=0) W (i:=0) rfl rfl;exact⟨[.agg #[.slice pa P.length pc,.slice Z (P.length+1) V,.slice ra (P.length+1) rc],zO],b3,⟨.inr ⟨6,57,I,0,some 3,rfl,kV,kV,rfl,q1⟩,.inr ⟨7,39,U,0,none,rfl,kV,kV,rfl,q2⟩,trivial⟩,(Ad3 au).trans (Ad3 ar),
  .inr ⟨h0,P,pa,pc,Z,V,ra,rc,H,a8,oV,rfl,hL.mono l5,by rw[ag];exact E,av⟩⟩
end
end
section
section
variable {P:List Par} {C:CF} {q:Rat}
theorem Aum (I:P.Nodup)(K:0<C.c)(Q:0<q)(u:∀ z,0<=Dh z P C)(y:Nat->Rat)(h:∀ i,i<(Eh C P q).length->Bb (Eh C P q).length (fun j=>en (Eh C P q) i j*y j)=0):∀ j,j<(Eh C P q).length->y j=0:=by
 have F:=Rx (P:=P) (C:=C) (q:=q);have E:∀ j,j<P.length+1->cfE (y 0) (P.zip ((List.range P.length).map fun j=>y (j+1))) ((An P).getD j none)=y j:=fun j m=>by
  rw[Ar2 I mV j m];cases j with
  |zero=>rfl
  |succ j=>exact Aep (by rw[A7r,A1a,A31 oV];rfl)
 generalize cfE (y 0) (P.zip ((List.range P.length).map fun j=>y (j+1)))=bE at E;have R:∀ e∈An P,bE e=0:=Ast Q K u fun e L=>by
  obtain⟨i,hi,rfl⟩:=A3d.1 L;have H:(An P)[i]=(An P).getD i none:=by rw[A02,A01 hi];rfl
  rw[H];rw[Cp]at hi;have J:=h i (by rw[F.1];exact hi);rw[F.1,Ah (g:=fun j=>As C ((An P).getD i none) ((An P).getD j none)*bE ((An P).getD j none)+(if i=j/\0<i then q else 0)*y j) (fun j m=>by
   rw[N8 hi m,E j m];grind),F7,Agy]at J
  have t:P7 q bE ((An P).getD i none)=if i<P.length+1/\0<i then q*y i else 0:=by
   cases i with
   |zero=>rw[if_neg oV];rfl
   |succ j =>
    rw[if_pos ⟨hi,oV⟩,<-E _ hi];unfold An;rw[A6b,A02,A1a,A01 oV];rfl
  rw[Qa _ (An P) none,Cp,t];exact J
 intro j m;rw[F.1]at m;rw[<-E j m];exact R _ (Alq m)
def At1 (h:∀ r∈Eh C P q,∀ x∈r,Th x)(t:P.length<=11):Sq (Eh C P q):=by
 have e:=Rx (P:=P) (C:=C) (q:=q);refine⟨by rw[e.1];omega,fun r j=>?_,fun r j x m=>(h r j x m).tx⟩;obtain⟨i,hi,rfl⟩:=A3d.1 j;have:=e.2 i (by have:=e.1;omega);rw[Ch hi]at this;rw[this,e.1]
end
end
section
variable {F:List Al}{R:List Br}{T:zC}{lab:Int}{ss:zW}{tv v:Value}{u:PH}
def Beb {p:Al->Bool}{i:Nat}{f:Al}(h:F[i]?=some f):(F.take (i+1)).any p=((F.take i).any p||p f):=by
 rw[A1n,h,List.any_append];simp
def Bee {l:zB}(h:l≠[]):l.isEmpty=false:=by cases l with|nil=>exact absurd rfl h|cons _ _=>rfl
def Bdh {e x d b:Bool}(h:b=(e && !x)):(b && !d)=(e && !(x||d)):=by subst h;cases e<;>cases x<;>cases d<;>rfl
def Bdd (h:Mv u v tv T R F lab ss) :
 zF 29 [v,tv] u fun r _=>r=.bool (G4 F lab ss):=by
 have Y:=Anz h;have a1:=h.lt;obtain⟨⟨xa,xc,xb,xd,xe,xf,rfl,a5,a4,a0⟩,ok,V,hT⟩:=h;obtain⟨ya,yc,rfl⟩:=V.opn;rw[A03]at V Y⊢;have f2:=ok.f2;refine Fn0.o func29<|G.c call47 Y ?_;rintro v1 u1 l1 rfl;refine G.nF 0 0 ?_;unfold G4;refine dite (lab<0) (fun I=>?A) (fun I=>?B)
 case' A =>
  refine G.lT' lab 0 I ?_;rw[decide_eq_false oV,Bool.false_and];obtain⟨t,m⟩:∃ t,true=t:=⟨_,rfl⟩;rw[show (!false)=t from m]
 case' B =>
  obtain⟨l,rfl⟩:∃ l:Nat,lab=(l:Int):=⟨lab.toNat,oV⟩;have X:=a1 l rfl;rw[decide_eq_true oV,A23,Bool.true_and];refine G.lF l 0 ?_;obtain⟨bb,off,a2,e⟩:=M5 (V.mono l1) X;subst a2;refine G.N ss.length yc X e ?_;refine dite (ss.getD l [] = []) (fun h0=>?C) (fun h0=>?D)
 case' C =>
  refine G.y (ss.getD l []) [] h0 ?_;rw[h0,show ([]:zB).isEmpty=true from rfl];obtain⟨t,m⟩:∃ t,false=t:=⟨_,rfl⟩;rw[show (!true)=t from m]
 case' D =>
  refine G.x (ss.getD l []) [] h0 ?_;rw[Bee h0];obtain⟨t,m⟩:∃ t,true=t:=⟨_,rfl⟩;rw[show (!false)=t from m]
 case' C|D=>generalize (some ⟨bb,off,none⟩:zP)=ya at V⊢
 case A|C|D =>
  refine G.loop (ι:=Nat×Bool) (fun i=>[(1,sV ya ss.length yc),(5,bV i.2),(24,sV xe F.length xf),(25,iV F.length),(26,iV i.1)]) (fun _=>[])
   (fun i u' m'=>i.1<=F.length/\i.2=(t && !(F.take i.1).any (Pp ss))/\m'=PH.mt) (fun i=>F.length-i.1) (0,t) kV (fun _=>kV) (by subst m;exact cV) ⟨oV,mV,rfl⟩ ?_
  clear m;rintro J ⟨i,b⟩ U u2 m2 l2 ⟨hi,H,rfl⟩;simp only at hi H U;by_cases W:i<F.length
  ·refine G.lT i F.length ?_;obtain⟨f,hf⟩:∃ f,F[i]?=some f:=⟨_,A01 W⟩;obtain⟨ba,oa,rfl,ea⟩:=Ac.at' (a0.mono (l1.trans l2)) (j:=i) (e:=Cm f) (by simp[hf]);refine G.a ba oa F.length xf i 3 W ?_;have L:=Vz ok.feat hT (A1k hf);have E:=Beb (p:=Pp ss) hf;obtain⟨f1,P,Q⟩:=f;simp only at L;refine G.g (some 3) ea ?_;cases b with
   |false =>
    exact G.i i<|G.b (U (i+1,false) _ _ _ cV l2 ⟨dV,by rw[E,<-Bdh H];rfl,rfl⟩ dV)
   |true =>
    by_cases Z:P=1
    ·refine G.nF P 1 ?_;by_cases h2:Q=1
     ·refine G.nF Q 1 ?_;obtain⟨bt,ot,a3,et⟩:=M5 (V.mono (l1.trans l2)) L;subst a3;refine G.N ss.length yc L et ?_;by_cases h0:ss.getD f1 [] = []
      ·refine G.y (ss.getD f1 []) [] h0 ?_;have K:Pp ss (f1,P,Q)=true:=by unfold Pp;simp only;rw[Z,h2,h0];rfl
       exact G.i i<|G.b (U (i+1,false) _ _ _ cV l2 ⟨dV,by rw[E,<-Bdh H,K];rfl,rfl⟩ dV)
      refine G.x (ss.getD f1 []) [] h0 ?_;have K:Pp ss (f1,P,Q)=false:=by unfold Pp;simp only;rw[Z,h2,Bee h0];rfl
      exact G.i i<|G.b (U (i+1,true) _ _ _ cV l2 ⟨dV,by rw[E,<-Bdh H,K];rfl,rfl⟩ dV)
     refine G.nT Q 1 ?_;have K:Pp ss (f1,P,Q)=false:=by simp[Pp,h2]
     exact G.i i<|G.b (U (i+1,true) _ _ _ cV l2 ⟨dV,by rw[E,<-Bdh H,K];rfl,rfl⟩ dV)
    refine G.nT P 1 ?_;have K:Pp ss (f1,P,Q)=false:=by simp[Pp,Z]
    exact G.i i<|G.b (U (i+1,true) _ _ _ cV l2 ⟨dV,by rw[E,<-Bdh H,K];rfl,rfl⟩ dV)
  obtain rfl:i=F.length:=oV;refine G.lF F.length F.length ?_;rw[A15]at H;exact G.r (.bool b) ⟨rfl,by rw[H]⟩
def Bdi (z:Int)(s w:zB):A9 3 [.agg #[zI z,zS s,zS w]]:=fun e h=>by
 obtain rfl:=A12.1 h;exact⟨rfl,A1o.1 rfl⟩
def Bdp (h:Mv u v tv T R F lab ss) :
 zF 213 [v,tv] u fun r u'=>∃ lv,r=.tuple #[lv,zO]/\Ac u' lv 3 ((Dx F ss F.length).map Bt):=by
 have a0:=Anz h;obtain⟨⟨xa,xc,xb,xd,xe,xf,rfl,a7,a6,a3⟩,ok,hS,hT⟩:=h;obtain⟨ya,yc,rfl⟩:=hS.opn;rw[A03]at hS a0⊢;have f2:=ok.f2;refine Fn0.o func213<|G.c call47 a0 ?_;rintro v1 u1 l1 rfl;refine G.nF 0 0<|G.l (ι:=Nat×zP×Nat) (fun i=>[(1,sV ya ss.length yc),(7,sV i.2.1 (Dx F ss i.1).length i.2.2),(18,sV xe F.length xf),(19,iV F.length),(20,iV i.1)]) (fun _=>[])
  (fun i u' m'=>i.1<=F.length/\Af PH.mt m' (.slice i.2.1 (Dx F ss i.1).length i.2.2) 162 3 ((Dx F ss i.1).map Bt)) (fun i=>F.length-i.1) (0,none,0) ⟨oV,Af.nil _ _ _⟩ ?_
 rintro J ⟨i,a,c⟩ hJ u2 m2 l2 ⟨hi,X⟩;simp only at hi X hJ;have a2:=l1.trans l2;by_cases Z:i<F.length
 ·refine G.lT i F.length ?_;obtain⟨f,hf⟩:∃ f,F[i]?=some f:=⟨_,A01 Z⟩;have Y:=A1k hf;have L:=Vz ok.feat hT Y;have m:=fun Q h0=>S3 ok.feat hT Y Q h0;have t:=Aab (ss:=ss) hf;have a5:=Bdl F ss i;obtain⟨ba,oa,rfl,ea⟩:=Ac.at' (a3.mono a2) (j:=i) (e:=Cm f) (by simp[hf]);refine G.a ba oa F.length xf i 3 Z ?_;obtain⟨f1,P,m1⟩:=f;simp only at L m;refine G.g (some 3) ea ?_;obtain⟨bt,ot,rfl,et⟩:=M5 (hS.mono a2) L;refine G.N ss.length yc L et ?_;have a1:Jf ss i (f1,P,m1)=none->Dx F ss (i+1)=Dx F ss i:=fun e=>by rw[t,e];simp
  have V:∀ x,Jf ss i (f1,P,m1)=some x->Dx F ss (i+1)=Dx F ss i++[x]:=fun x e=>by rw[t,e];simp
  refine dite (P=2) (fun Q=>?A) (fun Q=>?B)
  case' A =>
   refine G.eT P 2 ?_;have hv:Jf ss i (f1,P,m1)=some (((i:Int),ss.getD f1 []),1):=by unfold Jf;rw[if_pos Q]
   refine G.B 162 3 40 (.agg #[zO,zE,zE]) [.agg #[zI i,zS (ss.getD f1 []),zS [49]]] (Bdi _ _ _) ?_;rw[<-Sv];obtain⟨x,hx⟩:∃ x:Par×Rat,x=(((i:Int),ss.getD f1 []),1):=⟨_,rfl⟩;rw[<-hx]at hv
  case' B =>
   refine G.eF P 2 ?_;have I:Jf ss i (f1,P,m1)=if ss.getD f1 [] = []\/ss.getD f1 [] = [48] then none else some (((i:Int),[]),Lk (ss.getD f1 [])):=by unfold Jf;rw[if_neg Q]
   have m:=m Q;generalize ss.getD f1 []=w at I m et⊢;refine dite (w = []) (fun U=>?C) (fun U=>?D)
  case' C =>
   refine G.y w [] U ?_;rw[if_pos (.inl U)]at I
  case' D =>
   refine G.x w [] U ?_;refine dite (w = [48]) (fun W=>?E) (fun W=>?H)
  case' E =>
   refine G.y w [48] W ?_;rw[if_pos (.inr W)]at I
  case' H =>
   refine G.x w [48] W ?_;have hv:=I;rw[if_neg (fun e=>e.elim U W)]at hv;refine G.B 162 3 40 (.agg #[zO,zE,zE]) [.agg #[zI i,zE,zS w]] (Bdi _ _ _) ?_;obtain⟨x,hx⟩:∃ x:Par×Rat,x=(((i:Int),[]),Lk w):=⟨_,rfl⟩;rw[<-hx]at hv;have hw:=(m U).2
  case C|E =>
   rw[<-a1 I]at X⊢;exact G.i i<|G.b (hJ (i+1,a,c) _ _ _ cV l2 ⟨dV,X⟩ dV)
  case A|H =>
   intro g u3 l3 e3;have hg:=V _ hv;have e3:Hc u3 g 0 3 [Bt x]:=by subst hx;first|exact e3|(unfold Bt;simp only;rw[hw];exact e3)
   refine G.k 162 3 40 (.agg #[zO,zE,zE]) PH.mt ((Dx F ss i).map Bt) [Bt x] _ g 0 1 1 X e3 (Afk _) ?_;intro v4 m4 K;rw[<-List.map_singleton (f:=Bt),<-A1i,<-hg]at K;obtain⟨a4,c4,rfl⟩:=K.shape;rw[A03]at K⊢;exact G.i i<|G.b (hJ (i+1,a4,c4) _ _ _ cV (l2.trans l3) ⟨dV,K⟩ dV)
 obtain rfl:i=F.length:=oV;refine G.lF F.length F.length<|G.give _ _ _ kV X (fun g=>.inl rfl) ?_;intro u6 l6 hF;exact G.r (.tuple #[.slice a (Dx F ss F.length).length c,zO]) ⟨rfl,_,rfl,hF⟩
end
def Att {T:zC}{F:List Al}{lab:Int}{ss:zW}(hF:Da T F lab)(t:Bw T ss):∀ x∈Dx F ss F.length,SmW x.2:=fun x u=>by
 obtain⟨j,f,C,m,h⟩:=F9.1 u;unfold Jf at h;split at h
 ·cases h;exact I7
 rename_i h2;split at h
 ·cases h
 rename_i h0;cases h;exact (S3 hF t (A1k m) h2 (fun e=>h0 (.inl e))).1
section
variable {x:Rat}
def Azu {q:Rat}{z:Int}(h:q*((4320:Nat):Rat)=(z:Rat))(m:z.natAbs<=1000000000000):Th q:=by
 obtain⟨e,j⟩:=Wy h oV;exact⟨De.tx (a:=13) (b:=4) ⟨z,4320,h,oV,oV,oV⟩ oV oV oV oV,A74 e fV,oV⟩
theorem Az2 {x t:Rat}{N:Nat}(h:Dn 2 N x)(K:N<=28873454400)(H:∃ p:Int,t*30=p/\p.natAbs<=180):Th (x+t):=by
 obtain⟨z,j,I⟩:=h;obtain⟨p,F,J⟩:=H;refine Azu (z:=z*30+p*144) ?_ oV;have e:((12^2:Nat):Rat)=144:=jV
 have m:((4320:Nat):Rat)=4320:=jV
 have u:((30:Int):Rat)=30:=jV
 have E:((144:Int):Rat)=144:=jV
 rw[e]at j;rw[A7d,A3c,A3c,<-j,<-F,m,u,E];grind
def Abz {N:Nat}(h:Dn 2 N x)(m:N<=28873454400):De 75 18 x:=by
 obtain⟨z,e,j⟩:=h;exact⟨z,144,by rw[<-e],oV,A22 j (A22 m jV),jV⟩
section
variable {P:List Par} {C:CF} {q:Rat} {N k:Nat}
def Azc (m:In N C)(E:N<=28873454400)(H:∃ p:Int,q*30=p/\p.natAbs<=180):∀ r∈Eh C P q,∀ x∈r,Th x:=by
 intro r I x J;have u:=Rx (P:=P) (C:=C) (q:=q);obtain⟨i,hi,rfl⟩:=A3d.1 I;obtain⟨j,F,rfl⟩:=A3d.1 J;have h:i<P.length+1:=by have:=u.1;omega
 have t:j<P.length+1:=by have:=u.2 i h;rw[Ch hi]at this;omega
 have e:=N8 (P:=P) (C:=C) (q:=q) h t;unfold en at e;rw[Ch hi,Cu F]at e;rw[e];refine Az2 (m.c _ _) E ?_;split
 ·exact H
 exact⟨0,jV,fV⟩
def Avn (j:In N C)(m:N<=28873454400)(H:CFV C)(E:C.c=(k:Rat))(F:k<100):Ai6 C k:=by
 refine⟨E,F,fun p=>Abz (j.c none (some p)) m,fun p=>?_⟩;by_cases h:C.t p=0
 ·rw[h];exact Abz (Dn.zero 2 0) oV
 have u:=(H.t p h).2.2;have e:Ay p.1 p.2=p:=by unfold Ay;rw[if_neg u]
 have:=Abz (j.c (some p.1) (some p.2)) m;rw[show As C (some p.1) (some p.2)=C.t (Ay p.1 p.2) from rfl,e]at this;exact this
def Fd.sixty (h:Fd q):∃ p:Int,q*30=p/\p.natAbs<=180:=by
 obtain⟨p,e,j⟩:=h.thirty;exact⟨p,e,oV⟩
def Api {F:List Al}{lab:Int}(L:List Dm):∀ {e:List Dm},Cf F lab (L++e)=(Cf F lab L).add (Cf F lab e):=by
 intro e;induction e using Ig with
 |h0 =>
  rw[A1x];show _=CF.mk ((Cf F lab L).c+0) (fun p=>(Cf F lab L).s p+0) (fun p=>(Cf F lab L).t p+0);simp only[Beu]
 |h1 e y ih =>
  rw[<-A2k,Eb,Eb,ih];simp only[CF.add,Rat.add_assoc]
end
end
section
variable {j:Nat}
def C6 (a:Nat->Nat->Rat):Nat->Nat->Nat->Rat
 |0,i,k=>a i k
 |j+1,i,k=>C6 a j i k-C6 a j i j/C6 a j j j*(C6 a j k j/C6 a j j j)*C6 a j j j
section
variable {n:Nat} {a:Nat->Nat->Rat}
theorem O9 (e:∀ i k,i<n->k<n->a i k=a k i):∀ j i k,i<n->k<n->C6 a j i k=C6 a j k i
 |0,i,k,hi,hk=>e i k hi hk
 |j+1,i,k,hi,hk=>by
  have:=O9 e j i k hi hk;unfold C6;rw[this];grind
def frm (n:Nat)(S:Nat->Nat->Rat)(x:Nat->Rat):Rat:=Bb n fun i=>x i*Bb n fun k=>S i k*x k
theorem Xh (e:j<n)(c:Rat)(g:Nat->Rat):Bb n (fun k=>(if k=j then c else 0)*g k)=c*g j:=by
 induction n with
 |zero=>omega
 |succ n ih =>
  rw[Ds];by_cases h:j<n
  ·rw[ih h,if_neg oV];grind
  obtain rfl:j=n:=oV;rw[if_pos rfl,Ah (g:=fun _=>(0:Rat)*0) fun k m=>by rw[if_neg oV];grind,B4];grind
theorem Ab2 {S:Nat->Nat->Rat}(e:j<n)(t:∀ i k,i<n->k<n->S i k=S k i)(x:Nat->Rat)(c:Rat) :
 frm n S (fun i=>x i+if i=j then c else 0)=frm n S x+2*c*Bb n (fun k=>S j k*x k)+c*c*S j j:=by
 have h:∀ i,i<n->Bb n (fun k=>S i k*(x k+if k=j then c else 0))=Bb n (fun k=>S i k*x k)+c*S i j:=fun i _=>by
  rw[Ah (g:=fun k=>S i k*x k+(if k=j then c else 0)*S i k) fun k _=>by grind,F7,Xh e]
 have m:Bb n (fun i=>x i*S i j)=Bb n fun k=>S j k*x k:=Ah fun i hi=>by rw[t i j hi e];grind
 unfold frm;rw[Ah (g:=fun i=>x i*Bb n (fun k=>S i k*x k)+(c*(x i*S i j)+(if i=j then c else 0)*(Bb n (fun k=>S i k*x k)+c*S i j))) fun i hi=>by rw[h i hi];grind,
  F7,F7,B4,Xh e,m]
 grind
theorem Ash (t:j<n)(F:∀ i k,i<n->k<n->a i k=a k i)(hp:C6 a j j j≠0)(x:Nat->Rat) :
 frm n (C6 a (j+1)) x=frm n (C6 a j) x-Bb n (fun k=>C6 a j j k*x k)*Bb n (fun k=>C6 a j j k*x k)/C6 a j j j:=by
 obtain⟨p,e⟩:∃ p,C6 a j j j=p:=⟨_,rfl⟩;obtain⟨R,m⟩:∃ R,Bb n (fun k=>C6 a j j k*x k)=R:=⟨_,rfl⟩;have h:=O9 F j;have u:∀ i,i<n->Bb n (fun k=>C6 a (j+1) i k*x k)=Bb n (fun k=>C6 a j i k*x k)-C6 a j i j/p*R:=fun i hi=>by
  rw[Ah (g:=fun k=>C6 a j i k*x k-C6 a j i j/p*(C6 a j j k*x k)) fun k E=>by
   show (C6 a j i k-C6 a j i j/C6 a j j j*(C6 a j k j/C6 a j j j)*C6 a j j j)*x k=_;rw[h k j E t,e]at *
   grind,Y8,B4,m]
 have C:Bb n (fun i=>x i*C6 a j i j)=R:=by rw[<-m];exact Ah fun i hi=>by rw[h i j hi t];grind
 rw[m,e];unfold frm;rw[Ah (g:=fun i=>x i*Bb n (fun k=>C6 a j i k*x k)-R/p*(x i*C6 a j i j)) fun i hi=>by rw[u i hi];grind,Y8,B4,C];grind
theorem Aru (u:∀ i k,i<n->k<n->a i k=a k i)(hp:∀ x,(∃ i,i<n/\x i≠0)->0<frm n a x):∀ j,j<=n->∀ x:Nat->Rat,(∀ i,i<j->x i=0)->(∃ i,i<n/\x i≠0)->0<frm n (C6 a j) x
 |0,_,x,_,hx=>hp x hx
 |j+1,hj,x,h0,⟨i,hi,hxi⟩=>by
  have m:j<n:=oV
  have E:=Aru u hp j oV;have h:0<C6 a j j j:=by
   have C:=E (fun i=>0+if i=j then 1 else 0) (fun i t=>by rw[if_neg oV];grind) ⟨j,m,by rw[if_pos rfl];decide +kernel⟩;rw[Ab2 m (O9 u j) (fun _=>0) 1]at C;have F:frm n (C6 a j) (fun _=>0)=0:=by
    unfold frm;rw[Ah (g:=fun _=>(0:Rat)*0) fun i _=>by grind,B4];grind
   have H:Bb n (fun k=>C6 a j j k*(0:Rat))=0:=by
    rw[Ah (g:=fun _=>(0:Rat)*0) fun i _=>by grind,B4];grind
   rw[F,H]at C;grind
  rw[Ash m u (fun e=>by rw[e]at h;exact absurd h jV) x];have t:i≠j:=fun e=>hxi (h0 i oV);have I:=E (fun i=>x i+if i=j then -(Bb n (fun k=>C6 a j j k*x k)/C6 a j j j) else 0) (fun i t=>by rw[if_neg oV,h0 i oV];grind) ⟨i,hi,by rw[if_neg t];grind⟩;rw[Ab2 m (O9 u j)]at I;generalize Bb n (fun k=>C6 a j j k*x k)=R at *
  generalize C6 a j j j=p at *
  have J:p≠0:=fun e=>by rw[e]at h;exact absurd h jV
  have e:2 * -(R/p)*R + -(R/p) * -(R/p)*p = -(R*R/p):=by grind
  grind
theorem Akt (m:∀ i k,i<n->k<n->a i k=a k i)(hp:∀ x,(∃ i,i<n/\x i≠0)->0<frm n a x)(h:j<n):0<C6 a j j j:=by
 have e:=Aru m hp j oV (fun i=>0+if i=j then 1 else 0) (fun i C=>by rw[if_neg oV];grind) ⟨j,h,by rw[if_pos rfl];decide +kernel⟩;rw[Ab2 h (O9 m j) (fun _=>0) 1]at e;have t:frm n (C6 a j) (fun _=>0)=0:=by
  unfold frm;rw[Ah (g:=fun _=>(0:Rat)*0) fun i _=>by grind,B4];grind
 have u:Bb n (fun k=>C6 a j j k*(0:Rat))=0:=by
  rw[Ah (g:=fun _=>(0:Rat)*0) fun i _=>by grind,B4];grind
 rw[t,u]at e;grind
end
end
section
variable {i:Nat}{α:Type}
def idN (i k:Nat):Rat:=if i=k then 1 else 0
def Uj (n:Nat)(X A:Nat->Nat->Rat)(i k:Nat):Rat:=Bb n fun j=>X i j*A j k
def Fy (n:Nat)(X:Nat->Nat->Rat)(x:Nat->Rat)(i:Nat):Rat:=Bb n fun j=>X i j*x j
def Vq (n:Nat)(x y:Nat->Rat):Rat:=Bb n fun j=>x j*y j
def Ac1 (n:Nat)(A:Nat->Nat->Rat):Prop:=∀ i k,i<n->k<n->A i k=A k i
def Fe (n:Nat)(X A:Nat->Nat->Rat):Prop:=∀ i k,i<n->k<n->Uj n X A i k=idN i k
def Xu (n:Nat)(A:Nat->Nat->Rat):Prop:=∀ y:Nat->Rat,(∀ i,i<n->Fy n A y i=0)->∀ i,i<n->y i=0
def Pe (n m:Nat)(f:Nat->Nat->Rat):Bb n (fun i=>Bb m fun j=>f i j)=Bb m fun j=>Bb n fun i=>f i j:=Z2 f _ _
def Jp (n:Nat)(f:Nat->Rat)(k:Rat):Bb n (fun i=>f i*k)=Bb n f*k:=Ls k _
section
variable {n:Nat} {X Y A B:Nat->Nat->Rat} {x y:Nat->Rat} {w:Rat}
def Ag9 (hi:i<n)(f:Nat->Rat):Bb n (fun j=>idN j i*f j)=f i:=by
 have:=Xh hi (1:Rat) f;rw[Rat.one_mul]at this;exact this
def Akw (hi:i<n)(f:Nat->Rat):Bb n (fun j=>f j*idN i j)=f i:=by
 rw[<-Ag9 hi f];exact Ah fun j _=>by
  unfold idN;by_cases e:i=j
  ·rw[if_pos e,if_pos e.symm];exact Rat.mul_comm ..
  rw[if_neg e,if_neg (Ne.symm e)];exact Rat.mul_comm ..
def O1 (i k:Nat):idN i k=idN k i:=by
 unfold idN;by_cases e:i=k
 ·rw[if_pos e,if_pos e.symm]
 rw[if_neg e,if_neg (Ne.symm e)]
theorem Aid (i k:Nat)(Z:Nat->Nat->Rat):Bb n (fun j=>X i j*Uj n A Z j k)=Bb n fun m=>Uj n X A i m*Z m k:=by
 have e:Bb n (fun j=>X i j*Uj n A Z j k)=Bb n fun j=>Bb n fun m=>X i j*(A j m*Z m k):=Ah fun j _=>by unfold Uj;rw[B4]
 rw[e,Pe];refine Ah fun m _=>?_;unfold Uj;rw[<-Jp];exact Ah fun j _=>by grind
def Adp (t:Fe n X A)(u:Fe n A Y):∀ i k,i<n->k<n->X i k=Y i k:=fun i k hi h=>by
 have e:=Aid (n:=n) (X:=X) (A:=A) i k Y;rw[Ah (g:=fun j=>X i j*idN k j) fun j C=>by rw[u j k C h,O1],Akw h,Ah (f:=fun m=>Uj n X A i m*Y m k) (g:=fun m=>idN m i*Y m k) fun m E=>by rw[t i m hi E,O1],Ag9 hi]at e;exact e
def Are (e:Ac1 n A)(h:Fe n X A):Fe n A (fun i k=>X k i):=fun i k hi t=>by
 rw[O1,<-h k i t hi];exact Ah fun j m=>by rw[e i j hi m];exact Rat.mul_comm ..
def Av2 (m:Ac1 n A)(h:Fe n A X):Fe n (fun i k=>X k i) A:=fun i k hi e=>by
 rw[O1,<-h k i e hi];exact Ah fun j t=>by rw[m k j e t];exact Rat.mul_comm ..
def Ak9 (e:Ac1 n A)(h:Fe n X A):Ac1 n X:=fun i k hi j=>Adp h (Are e h) i k hi j
def Tg (e:Ac1 n A)(h:Fe n X A):Fe n A X:=fun i k hi m=>by
 rw[<-Are e h i k hi m];exact Ah fun j t=>by rw[Ak9 e h j k t m]
def Apf (t:Ac1 n A)(h:Fe n A X):Fe n X A:=by
 have e:=Av2 t h;have m:=Adp e h;intro i k hi C;rw[<-e i k hi C];exact Ah fun j u=>by rw[<-m i j hi u]
def Aps (j:Ac1 n A)(h:Fe n X A)(e:Fe n Y A):∀ i k,i<n->k<n->X i k=Y i k:=Adp h (Tg j e)
def byN (n:Nat)(X:Nat->Nat->Rat)(x:Nat->Rat)(w:Rat):Rat:=1+w*Vq n x (Fy n X x)
def Vd (n:Nat)(X:Nat->Nat->Rat)(x:Nat->Rat)(w:Rat)(i k:Nat):Rat:=X i k + -(w/byN n X x w)*Fy n X x i*Fy n (fun i k=>X k i) x k
def Vc (A:Nat->Nat->Rat)(x:Nat->Rat)(w:Rat)(i k:Nat):Rat:=A i k+w*(x i*x k)
theorem Aqh (h:Fe n X A)(P:byN n X x w≠0):Fe n (Vd n X x w) (Vc A x w):=fun i k hi E=>by
 obtain⟨r,t⟩:∃ r,Fy n X x=r:=⟨_,rfl⟩;obtain⟨c,C⟩:∃ c,Fy n (fun i k=>X k i) x=c:=⟨_,rfl⟩;obtain⟨f,H⟩:∃ f,w/byN n X x w=f:=⟨_,rfl⟩;have I:Bb n (fun j=>c j*A j k)=x k:=by
  have u:Bb n (fun j=>c j*A j k)=Bb n fun j=>Bb n fun m=>X m j*x m*A j k:=Ah fun j _=>by rw[<-C];unfold Fy;rw[Jp]
  rw[u,Pe,Ah (g:=fun m=>x m*idN k m) fun m L=>by
   rw[Ah (g:=fun j=>x m*(X m j*A j k)) fun j _=>by grind,B4,show Bb n (fun j=>X m j*A j k)=idN m k from h m k L E,O1],Akw E]
 have J:Bb n (fun j=>c j*x j)=Vq n x r:=by
  have u:Bb n (fun j=>c j*x j)=Bb n fun j=>Bb n fun m=>X m j*x m*x j:=Ah fun j _=>by rw[<-C];unfold Fy;rw[Jp]
  rw[u,Pe];unfold Vq;refine Ah fun m _=>?_;rw[<-t];unfold Fy;rw[<-B4];exact Ah fun j _=>by grind
 have K:Bb n (fun j=>X i j*x j)=r i:=by rw[<-t];rfl
 have F:=h i k hi E;have e:f*byN n X x w=w:=by rw[<-H];grind
 unfold byN at e;rw[t]at e;unfold Uj at F⊢;rw[Ah (g:=fun j=>X i j*A j k+(w*x k)*(X i j*x j)+((-f*r i)*(c j*A j k)+(-f*r i*w*x k)*(c j*x j))) fun j _=>by
  unfold Vd Vc;rw[t,C,H];grind,F7,F7,F7,B4,B4,B4,I,J,K,F]
 grind
theorem Ab6 (h:Fe n A X)(hi:i<n):Fy n A (Fy n X x) i=x i:=by
 have e:Fy n A (Fy n X x) i=Bb n fun m=>Uj n A X i m*x m:=by
  unfold Fy;rw[Ah (g:=fun j=>Bb n fun m=>A i j*(X j m*x m)) fun j _=>by rw[B4],Pe];refine Ah fun m _=>?_;unfold Uj;rw[<-Jp];exact Ah fun j _=>by grind
 rw[e,Ah (g:=fun m=>idN m i*x m) fun m t=>by rw[h i m hi t,O1],Ag9 hi]
theorem Az9 (u:Fe n A X)(hi:Xu n (Vc A x w)):byN n X x w≠0:=fun h0=>by
 have m:∀ i,i<n->Fy n (Vc A x w) (Fy n X x) i=0:=fun i h=>by
  have e:Fy n (Vc A x w) (Fy n X x) i=Fy n A (Fy n X x) i+w*x i*Vq n x (Fy n X x):=by
   obtain⟨r,E⟩:∃ r,Fy n X x=r:=⟨_,rfl⟩;rw[E];unfold Fy Vq Vc;rw[Ah (g:=fun j=>A i j*r j+w*x i*(x j*r j)) fun j _=>by grind,F7,B4]
  rw[e,Ab6 u h];unfold byN at h0;grind
 have t:=hi _ m;unfold byN Vq at h0;rw[Ah (g:=fun _=>(0:Rat)*0) fun j C=>by rw[t j C];grind,B4]at h0;exact absurd h0 (by rw[Ban,Bau];decide +kernel)
def Aye (n:Nat)(X:Nat->Nat->Rat)(x:Nat->Rat):Rat:=Vq n x (Fy n X x)
def Avo (e:Fe n A X):Aye n X x=frm n A (Fy n X x):=by
 unfold Aye Vq frm;refine Ah fun i hi=>?_;have:=Ab6 (x:=x) e hi;unfold Fy at this⊢;rw[this];exact Rat.mul_comm ..
theorem Avk (m:Fe n A X)(hp:∀ x,(∃ i,i<n/\x i≠0)->0<frm n A x)(u:∃ i,i<n/\x i≠0):0<Aye n X x:=by
 rw[Avo m];refine hp _ (A3m fun t=>?_);obtain⟨i,hi,h0⟩:=u;refine h0 ?_;rw[<-Ab6 (x:=x) m hi];have C:∀ j,j<n->Fy n X x j=0:=fun j e=>A3m fun h=>t ⟨j,e,h⟩;rw[show Fy n A (Fy n X x) i=Bb n fun j=>A i j*Fy n X x j from rfl,Ah (g:=fun _=>(0:Rat)*0) fun j e=>by rw[C j e];grind,B4,Ban]
theorem Bem (m:Fe n A X)(hp:∀ x,(∃ i,i<n/\x i≠0)->0<frm n A x):0<=Aye n X x:=by
 by_cases e:∃ i,i<n/\x i≠0
 ·exact Bat (Avk m hp e)
 have:Aye n X x=0:=by
  unfold Aye Vq;rw[Ah (g:=fun _=>(0:Rat)*0) fun j t=>by
   have:x j=0:=A3m fun h=>e ⟨j,t,h⟩;rw[this];grind,B4,Ban]
 rw[this];exact Bcq
theorem Bec (I:Ac1 n X):Aye n (Vd n X x w) x*byN n X x w=Aye n X x\/byN n X x w=0:=by
 by_cases E:byN n X x w=0
 ·exact .inr E
 refine .inl ?_;obtain⟨r,m⟩:∃ r,Fy n X x=r:=⟨_,rfl⟩;have F:∀ k,k<n->Fy n (fun i k=>X k i) x k=r k:=fun k H=>by
  rw[<-m];exact Ah fun j h=>by rw[<-I j k h H]
 obtain⟨f,u⟩:∃ f,w/byN n X x w=f:=⟨_,rfl⟩;have C:∀ i,i<n->Fy n (Vd n X x w) x i=r i + -f*r i*Vq n x r:=fun i hi=>by
  unfold Fy Vq;rw[Ah (g:=fun j=>X i j*x j+(-f*r i)*(x j*r j)) fun j h=>by
   unfold Vd;rw[u,m,F j h];grind,F7,B4,show Bb n (fun j=>X i j*x j)=r i from congrFun m i]
 have t:Aye n (Vd n X x w) x=Vq n x r + -f*Vq n x r*Vq n x r:=by
  unfold Aye;rw[show Vq n x (Fy n (Vd n X x w) x)=Bb n fun j=>x j*Fy n (Vd n X x w) x j from rfl,Ah (g:=fun j=>x j*r j+(-f*Vq n x r)*(x j*r j)) fun j h=>by rw[C j h];grind,F7,B4];unfold Vq;grind
 have e:f*byN n X x w=w:=by rw[<-u];grind
 unfold byN at e⊢;unfold Aye at t⊢;rw[m]at e⊢;rw[t];grind
theorem Bd8 (m:Ac1 n X)(hp:0<Aye n X x):Aye n (Vd n X x 1) x<Aye n X x:=by
 have e:byN n X x 1=1+Aye n X x:=by unfold byN Aye;grind
 rcases Bec (w:=1) m with h|h
 ·rw[e]at h;refine Rat.not_le.1 fun j=>?_;have t:=A4o (a:=Aye n (Vd n X x 1) x-Aye n X x) (b:=1+Aye n X x) (by grind) (by grind);have u:=Bcr hp hp;grind
 rw[e]at h;grind
theorem Beg (h:Fe n X A)(L:List α)(e:α->Rat)(xs:α->Nat->Rat)(K:Nat->Nat->Rat)(E:∀ i k,i<n->k<n->A i k=B9 (fun t=>e t*(xs t i*xs t k)) L+K i k) :
 B9 (fun t=>e t*Aye n X (xs t)) L=Bb n (fun _=>1)-Bb n fun i=>Uj n X K i i:=by
 have u:B9 (fun t=>e t*Aye n X (xs t)) L=B9 (fun t=>Bb n fun i=>Bb n fun j=>X i j*(e t*(xs t j*xs t i))) L:=Dt fun t _=>by
  unfold Aye Vq Fy;rw[<-B4];refine Ah fun i _=>?_;rw[<-B4,<-B4];exact Ah fun j _=>by grind
 have C:B9 (fun t=>Bb n fun i=>Bb n fun j=>X i j*(e t*(xs t j*xs t i))) L=Bb n fun i=>Bb n fun j=>X i j*B9 (fun t=>e t*(xs t j*xs t i)) L:=by
  rw[show B9 (fun t=>Bb n fun i=>Bb n fun j=>X i j*(e t*(xs t j*xs t i))) L=Bb n fun i=>B9 (fun t=>Bb n fun j=>X i j*(e t*(xs t j*xs t i))) L from Z2 _ _ _];refine Ah fun i _=>?_;rw[show B9 (fun t=>Bb n fun j=>X i j*(e t*(xs t j*xs t i))) L=Bb n fun j=>B9 (fun t=>X i j*(e t*(xs t j*xs t i))) L from Z2 _ _ _];exact Ah fun j _=>Ji _ _
 rw[u,C,<-Y8];refine Ah fun i hi=>?_;have m:=h i i hi hi;unfold idN at m;rw[if_pos rfl]at m;rw[<-m];unfold Uj;rw[<-Y8];exact Ah fun j F=>by rw[E j i F hi];grind
def Beh (m:Fe n A X)(hp:∀ x,(∃ i,i<n/\x i≠0)->0<frm n A x)(hi:i<n):0<=X i i:=by
 have h:=Bem (x:=fun j=>idN j i) m hp;unfold Aye Vq at h;rw[Ag9 hi]at h;unfold Fy at h;have e:Bb n (fun j=>X i j*idN j i)=X i i:=by
  rw[Ah (g:=fun j=>X i j*idN i j) fun j _=>by rw[O1],Akw hi]
 rwa[e]at h
theorem Bdu:∀ {n:Nat} {f:Nat->Rat},(∀ i,i<n->0<=f i)->0<=Bb n f
 |0,_,_=>Bcq
 |n+1,f,h=>by
  rw[Ds];have e:=Bdu fun i (hi:i<n)=>h i oV;have j:=h n oV;grind
def Bdj:∀ n:Nat,Bb n (fun _=>1)=(n:Rat)
 |0=>rfl
 |n+1=>by rw[Ds,Bdj n,Bbs];rfl
theorem Bei (F:Ac1 n A)(h:Fe n X A)(hp:∀ x,(∃ i,i<n/\x i≠0)->0<frm n A x)(L:List α)(u:α->Rat)(xs:α->Nat->Rat)(k:Nat->Rat)(E:∀ i,0<=k i)(C:∀ i m,i<n->m<n->A i m=B9 (fun t=>u t*(xs t i*xs t m)) L+k m*idN i m) :
 B9 (fun t=>u t*Aye n X (xs t)) L<=(n:Rat):=by
 rw[Beg h L u xs (fun i m=>k m*idN i m) C,Bdj];have H:0<=Bb n fun i=>Uj n X (fun i m=>k m*idN i m) i i:=Bdu fun i hi=>by
  have e:Uj n X (fun i m=>k m*idN i m) i i=k i*X i i:=by
   unfold Uj;rw[Ah (g:=fun j=>(k i*X i j)*idN i j) fun j _=>by rw[O1 i j];grind,Akw hi]
  rw[e];exact A4o (E i) (Beh (Tg F h) hp hi)
 grind
end
end
def Bc5 {v:Value}{e:List (Value×zV)}{i:Nat}{r:Value×zV}(h:e[i]?=some r):(oQ v e).es[i]?=some r.1:=by
 show (e.map (·.1))[i]?=_;rw[A1a,h];rfl
def Bdo {u:PH}{v:Value}{L:List Par}{p:Par}{k:Nat}(h:Ac u v 2 (L.map Ap))(F:L[k]?=some p)(Q:L.Nodup)(U:L.length<=1000000) :
 zF 214 [v,Ap p] u fun r _=>r=zI k:=by
 obtain⟨a,c,rfl⟩:=h.opn;rw[A03]at h⊢;obtain⟨P,E⟩:=A05.1 F;refine Fn0.o func214<|G.l (ι:=Nat) (fun i=>[(3,.p 0 0),(7,sV a L.length c),(8,iV L.length),(9,iV i)]) (fun _=>[(0,⟨118,[iV p.1,tV p.2]⟩)])
  (fun i X R=>i<=k/\R=PH.mt) (fun i=>k+1-i) 0 ⟨oV,rfl⟩ ?_
 rintro J i K Y V H ⟨hi,rfl⟩;refine G.lT i L.length ?_;have m:L[i]?=some L[i]:=A01 oV;obtain⟨T,W,rfl,I⟩:=Ac.at' (h.mono H) (j:=i) (e:=Ap L[i]) (by simp[m]);refine G.n L.length c I ?_;by_cases C:L[i]=p
 ·have t:i=k:=Yu Q (by rw[m,C]) F;exact G.eqAgg 118 #[zI L[i].1,zS L[i].2] #[zI p.1,zS p.2] true kV kV kV (fun w=>by rw[<-decide_eq_true C];exact Bq.eq L[i] p w)<|G.r (zI i) ⟨rfl,by rw[t]⟩
 have t:i≠k:=fun e=>by subst e;exact C E
 exact G.eqAgg 118 #[zI L[i].1,zS L[i].2] #[zI p.1,zS p.2] false kV kV kV (fun w=>by rw[<-decide_eq_false C];exact Bq.eq L[i] p w)<|G.i i<|G.b (K (i+1) _ _ _ cV H ⟨oV,rfl⟩ oV)
def Bdq (s:Value)(i:Nat):s::List.replicate i (Value.string (mkS [48]))++[Value.string (mkS [48])]=s::List.replicate (i+1) (Value.string (mkS [48])):=by
 rw[A4x,A90]
section
theorem Ax5 (x:Rat):0<=x*x:=by
 rcases A9g (a:=0) (b:=x) with h|h
 ·exact A4o h h
 have:=A4o (a:=-x) (b:=-x) (by grind) (by grind);grind
section
variable {P:List Par} {C:CF} {b d:Option Par->Rat} {q:Rat} {N D:Nat}
theorem Ats {z:Option Par->Rat}(u:0<q)(F:0<C.c)(hp:∀ z,0<=Dh z P C)(h:Dh z P C+q*Vn P z<=0):∀ e∈An P,z e=0:=by
 have K:=hp z;have H:=Arq P z;have L:=A4o (Bat u) H;have I:Vn P z=0:=by
  have:q*Vn P z=0:=by grind
  rcases A40.1 this with e|e
  ·rw[e]at u;exact absurd u jV
  exact e
 have m:∀ p∈P,z (some p)=0:=fun p hp=>by
  have:=Ww (fun q _=>Ax5 (z (some q))) I p hp;rcases A40.1 this with e|e<;>exact e
 have J:z none=0:=by
  have E:Dh z P C=0:=by grind
  have t:B9 (fun f=>z none*As C none f*z f) (An P)=z none*C.c*z none:=by
   rw[S6,Fv fun p hp=>by rw[m p hp,Bau]];show z none*C.c*z none+0=_;grind
  unfold Dh at E;rw[S6,t,Fv fun p hp=>by
   refine Fv fun f _=>?_;rw[m p hp];grind]at E
  have e:z none*C.c*z none=0:=by grind
  rcases A40.1 e with e|e
  ·rcases A40.1 e with e|e
   ·exact e
   rw[e]at F;exact absurd F jV
  exact e
 intro e j;unfold An at j;rcases A1g.1 j with rfl|j
 ·exact J
 obtain⟨p,hp,rfl⟩:=A1b.1 j;exact m p hp
end
end
section
section
variable {P:List Par} {C:CF} {q:Rat} {N:Nat}
def Auy:∀ i k,i<P.length+1->k<P.length+1->en (Eh C P q) i k=en (Eh C P q) k i:=fun i k hi j=>by
 rw[N8 hi j,N8 j hi,Ajc];by_cases e:i=k
 ·subst e;rfl
 rw[if_neg (fun h=>e h.1),if_neg (fun h=>e h.1.symm)]
theorem Axs (Q:0<q)(K:0<C.c)(hp:∀ z,0<=Dh z P C)(F:P.Nodup)(x:Nat->Rat)(R:∃ i,i<P.length+1/\x i≠0):0<frm (P.length+1) (en (Eh C P q)) x:=by
 obtain⟨z,u⟩:∃ z:Option Par->Rat,∀ j,j<P.length+1->z ((An P).getD j none)=x j:=⟨cfE (x 0) (P.zip ((List.range P.length).map fun j=>x (j+1))),fun j t=>by
  rw[Ar2 F mV j t];cases j with
  |zero=>rfl
  |succ j=>exact Aep (by rw[A7r,A1a,A31 oV];rfl)⟩
 have m:∀ i,i<P.length+1->Bb (P.length+1) (fun k=>en (Eh C P q) i k*x k)=B9 (fun f=>As C ((An P).getD i none) f*z f) (An P)+P7 q z ((An P).getD i none):=fun i hi=>by
  rw[Ah (g:=fun j=>As C ((An P).getD i none) ((An P).getD j none)*z ((An P).getD j none)+(if i=j/\0<i then q else 0)*x j) (fun j t=>by rw[N8 hi t,u j t];grind),F7,Agy,Qa _ (An P) none,Cp];have h:P7 q z ((An P).getD i none)=if i<P.length+1/\0<i then q*x i else 0:=by
   cases i with
   |zero=>rw[if_neg oV];rfl
   |succ j =>
    rw[if_pos ⟨hi,oV⟩,<-u _ hi];unfold An;rw[A6b,A02,A1a,A01 oV];rfl
  rw[h]
 have L:frm (P.length+1) (en (Eh C P q)) x=Dh z P C+q*Vn P z:=by
  unfold frm;have J:Bb (P.length+1) (fun i=>x i*Bb (P.length+1) fun k=>en (Eh C P q) i k*x k)=B9 (fun e=>z e*B9 (fun f=>As C e f*z f) (An P)+z e*P7 q z e) (An P):=by
   rw[Qa (fun e=>z e*B9 (fun f=>As C e f*z f) (An P)+z e*P7 q z e) (An P) none,Cp];exact Ah fun i hi=>by rw[m i hi,u i hi];grind
  rw[J,L7,S6 (f:=fun e=>z e*P7 q z e),Zz];have I:B9 (fun p=>z (some p)*P7 q z (some p)) P=q*Vn P z:=by unfold Vn;rw[<-Ji];exact Dt fun p _=>by unfold P7;grind
  rw[I];unfold As4 P7;grind
 rw[L];refine Rat.not_le.1 fun E=>?_;have h0:=Ats Q K hp E;obtain⟨i,hi,H⟩:=R;exact H (by rw[<-u i hi];exact h0 _ (Alq hi))
end
end
section
variable {A B:Nat->Nat->Rat}{n:Nat}
section
variable {P:List Par} {C H:CF} {q w:Rat} {X:Nat->Nat->Rat}
def Fg (P:List Par)(s:Par->Rat)(i:Nat):Rat:=Zg s ((An P).getD i none)
theorem Agi (o:Qi H):∀ i k,i<P.length+1->k<P.length+1->en (Eh (C.add (H.scale w)) P q) i k=Vc (en (Eh C P q)) (Fg P H.s) w i k:=fun i k hi e=>by
 unfold Vc Fg;rw[N8 hi e,N8 hi e,T1,o.cell];grind
def Mn:Ac1 (P.length+1) (en (Eh C P q)):=Auy
def Xx (j:P.Nodup)(t:0<C.c)(u:0<q)(e:∀ z,0<=Dh z P C):Xu (P.length+1) (en (Eh C P q)):=fun y h=>by
 have m:=Rx (P:=P) (C:=C) (q:=q);have:=Aum j t u e y (by rw[m.1];exact h);rwa[m.1]at this
def Am3 (h:Fe n X A)(e:∀ i k,i<n->k<n->B i k=A i k):Fe n X B:=fun i k hi m=>by
 rw[<-h i k hi m];exact Ah fun j t=>by rw[e j k t m]
theorem Anu (h:Xu n A)(e:∀ i k,i<n->k<n->B i k=A i k):Xu n B:=fun y hy=>h y fun i hi=>by
 rw[<-hy i hi];exact Ah fun j hj=>by rw[e i j hi hj]
def Apz (o:Qi H)(j:P.Nodup)(t:0<(C.add (H.scale w)).c)(E:0<q)(e:∀ z,0<=Dh z P (C.add (H.scale w)))(h:Fe (P.length+1) X (en (Eh C P q))) :
 byN (P.length+1) X (Fg P H.s) w≠0/\Fe (P.length+1) (Vd (P.length+1) X (Fg P H.s) w) (en (Eh (C.add (H.scale w)) P q)):=by
 have m:byN (P.length+1) X (Fg P H.s) w≠0:=Az9 (Tg Mn h) (Anu (Xx j t E e) fun i k hi u=>(Agi o i k hi u).symm);exact⟨m,Am3 (Aqh h m) (Agi o)⟩
end
end
section
variable {M n:Nat}{P:Nat->Nat}{R S:Nat->Nat->Int}{v:Int}
def N5:Nat->Nat
 |0=>1
 |n+1=>(n+1)*N5 n
def Aev {f:Nat->Int}{M:Nat}:∀ {n:Nat},(∀ j,j<n->(f j).natAbs<=M)->(Ca n f).natAbs<=n*M
 |0,_=>by rw[Ca];omega
 |n+1,h=>by
  have e:=Aev fun j (t:j<n)=>h j oV;have m:=h n oV;rw[Ca,A16,A3i];have:=Int.natAbs_add_le (Ca n f) (f n);omega
def Aky:∀ n:Nat,(dsg n).natAbs=1
 |0=>rfl
 |n+1=>by rw[dsg,A3l,Aky n]
def Aj1 {M:Nat}:∀ {r:Nat} {C:Nat->Nat->Int},(∀ t,t<r->∀ i,i<r->(C t i).natAbs<=M)->(dt r C).natAbs<=N5 r*M^r
 |0,_,_=>by rw[dt,N5,A8j];decide
 |r+1,C,h=>by
  rw[dt];have e:(Ca (r+1) fun j=>dsg (r+j)*C j r*dt r (Eu j C)).natAbs<=(r+1)*(M*(N5 r*M^r)):=Aev fun j m=>by
   rw[A26,A26,Aky,A3i];refine A25 (h j m r oV) (Aj1 fun t u i hi=>?_);unfold Eu;split
   ·exact h t oV i oV
   exact h (t+1) oV i oV
  refine A04 e (Nat.le_of_eq ?_);rw[N5,A2d];simp only[A17,A19,Nat.mul_left_comm]
def Art (h:Bar n R P n v S){j:Nat}(m:j<n)(k:Nat):S j k=dt n (Dc (fun j i=>R i (P j)) j fun i=>R i k):=by
 have e:=Z3 (fun j i=>R i (P j)) m (fun j=>S j k);have u:dt n (Dc (fun j i=>R i (P j)) j fun i=>Ca n fun t=>S t k*R i (P t))=dt n (Dc (fun j i=>R i (P j)) j fun i=>v*R i k+0*R i k):=Ih fun t E i hi=>by
  unfold Dc;split
  ·show (Ca n fun t=>S t k*R i (P t))=v*R i k+0*R i k;rw[h.lo i hi k,Int.zero_mul,Int.add_zero]
  rfl
 have C:=Mt v 0 (fun i=>R i k) (fun i=>R i k) (fun j i=>R i (P j)) m;rw[u,C,Int.zero_mul,Int.add_zero,h.d,Int.mul_comm]at e;exact (Int.eq_of_mul_eq_mul_right h.v0 e).symm
def Aua (h:Bar n R P n v S)(e:∀ i,i<n->∀ k,(R i k).natAbs<=M):v.natAbs<=N5 n*M^n/\∀ j,j<n->∀ k,(S j k).natAbs<=N5 n*M^n:=by
 refine⟨by rw[<-h.d];exact Aj1 fun t _ i hi=>e i hi _,fun j m k=>?_⟩;rw[Art h m k];refine Aj1 fun t _ i hi=>?_;unfold Dc;split
 ·exact e i hi _
 exact e i hi _
def Auw {n w M:Nat}{X:List (List Int)}(h:E8 n w X)(u:∀ i,i<n->∀ k,(enZ X i k).natAbs<=M)(F:(Fm n n 0 ⟨X,[],1,false⟩).P.length=n) :
 (Fm n n 0 ⟨X,[],1,false⟩).v.natAbs<=N5 n*M^n/\∀ j,j<n->∀ k,(enZ (Fm n n 0 ⟨X,[],1,false⟩).X j k).natAbs<=N5 n*M^n:=by
 have h0:Ajv n w (enZ X) 0 ⟨X,[],1,false⟩:=⟨h,rfl,enZ X,fun i hi=>⟨i,hi,rfl⟩,fun i hi=>⟨i,hi,rfl⟩,Bar.init n _ _⟩;rcases Aci n 0 _ oV h0 with ⟨_,_,R,_,m,t⟩|⟨_,E⟩
 ·exact Aua t fun i hi k=>by
   obtain⟨j,C,e⟩:=m i hi;rw[e];exact u j C k
 omega
end
section
variable {i k:Nat}
def Iu (n:Nat)(Z:Nat->Nat->Int):List (List Int):=(List.range n).map fun i=>(List.range (n+n)).map fun k=>if k<n then Z i k else if i=k-n then 1 else 0
section
variable {n:Nat} {Z:Nat->Nat->Int} {A X:Nat->Nat->Rat} {D M:Nat}
def Sm (hi:i<n):gMZ (Iu n Z) i=(List.range (n+n)).map fun k=>if k<n then Z i k else if i=k-n then 1 else 0:=by
 unfold gMZ Iu;rw[A02,A1a,A31 hi];rfl
def Vu:E8 n (n+n) (Iu n Z):=⟨by unfold Iu;simp,fun i hi=>by rw[Sm hi];simp⟩
def Afx (hi:i<n)(e:k<n):enZ (Iu n Z) i k=Z i k:=by
 unfold enZ;rw[Sm hi,Abr _ oV,if_pos e]
def Ao5 (hi:i<n)(e:k<n):enZ (Iu n Z) i (n+k)=if i=k then 1 else 0:=by
 unfold enZ;rw[Sm hi,Abr _ oV,if_neg oV,show n+k-n=k by omega]
def Ald (h:∀ i k,i<n->k<n->(Z i k).natAbs<=M)(t:1<=M):∀ i,i<n->∀ k,(enZ (Iu n Z) i k).natAbs<=M:=fun i hi k=>by
 by_cases e:k<n
 ·rw[Afx hi e];exact h i k hi e
 by_cases j:k<n+n
 ·obtain⟨m,rfl⟩:∃ m,k=n+m:=⟨k-n,oV⟩;rw[Ao5 hi oV];split<;>simp<;>omega
 unfold enZ;rw[Sm hi,Ado gV];simp
theorem Aqr (hs:Ac1 n A)(Y:Fe n X A)(hi:Xu n A)(V:0<D)(J:∀ i k,i<n->k<n->A i k*(D:Rat)=Z i k)(W:∀ i k,i<n->k<n->(Z i k).natAbs<=M)(U:1<=M) :
 ∃ L:Nat,0<L/\L<=N5 n*M^n/\∀ j k,j<n->k<n->∃ z:Int,X j k*(L:Rat)=z/\z.natAbs<=D*(N5 n*M^n):=by
 have hd:=T4 V;rcases Za (Vu (n:=n) (Z:=Z)) with ⟨hl,_,Q,I⟩|⟨⟨y,⟨j0,E,H⟩,hy⟩,_⟩
 ·obtain⟨K,P⟩:=Auw (Vu (n:=n) (Z:=Z)) (Ald W U) hl;generalize Fm n n 0 ⟨Iu n Z,[],1,false⟩=s at Q I K P;have a0:(s.v:Rat)≠0:=fun e=>Q (A7f.1 (by rw[e];rfl));have hY:Fe n A (fun j k=>(enZ s.X j (n+k):Rat)*(D:Rat)/(s.v:Rat)):=fun i k hi F=>by
   have e:=congrArg (fun z:Int=>(z:Rat)) (I i hi (n+k));simp only[Oy,A3c]at e;rw[Ao5 hi F]at e;have T:(((if i=k then 1 else 0:Int)):Rat)=idN i k:=by unfold idN;split<;>rfl
   rw[T]at e;unfold Uj;rw[Ah (g:=fun j=>(1/(s.v:Rat))*((enZ s.X j (n+k):Rat)*(enZ (Iu n Z) i j:Rat))) fun j m=>by
    rw[Afx hi m,<-J i j hi m];grind,B4,e]
   grind
  have C:=Adp Y hY;refine⟨s.v.natAbs,oV,K,fun j k m F=>?_⟩;have R:=P j m (n+k);rw[C j k m F];rcases Int.natAbs_eq s.v with e|e
  ·refine⟨enZ s.X j (n+k)*(D:Int),?_,?_⟩
   ·have u:((s.v.natAbs:Nat):Rat)=(s.v:Rat):=by
     have:=congrArg (fun z:Int=>(z:Rat)) e;simp only[A2r]at this;exact this.symm
    rw[u,A3c,A2r];grind
   rw[A26,A1s,A19];exact A2h _ R
  refine⟨-(enZ s.X j (n+k)*(D:Int)),?_,?_⟩
  ·have u:((s.v.natAbs:Nat):Rat) = -(s.v:Rat):=by
    have:=congrArg (fun z:Int=>(z:Rat)) e;simp only[A8k,A2r]at this;rw[this];grind
   rw[u,A8k,A3c,A2r];grind
  rw[A3l,A26,A1s,A19];exact A2h _ R
 refine absurd (hi (fun j=>(y j:Rat)) (fun i t=>?_) j0 E) fun e=>H (A7f.1 (by rw[e];rfl));have e:=congrArg (fun z:Int=>(z:Rat)) (hy i t);simp only[Oy,A3c]at e;unfold Fy;have u:Bb n (fun j=>A i j*(y j:Rat))*(D:Rat)=0:=by
  rw[<-Jp,Ah (g:=fun j=>(y j:Rat)*(enZ (Iu n Z) i j:Rat)) fun j m=>by rw[Afx t m,<-J i j t m];grind,e];rfl
 rcases A40.1 u with h|h
 ·exact h
 exact absurd h hd
end
end
def Ap3 {A:zM}{L K:Nat}(h0:0<L)(F:0<K)(P:L<10^K)(Q:nl L<=1000000000)(h:∀ r∈A,∀ q∈r,∃ z:Int,q*(L:Rat)=z/\z.natAbs<10^K):Y5 A L K where
 den:=fun r u q t=>by
  obtain⟨z,j,_⟩:=h r u q t;exact (Wy j h0).1
 pos:=h0
 nl:=Q
 dig:=fun D I J=>by
  have e:D<=L:=A48 h0 I;refine⟨Cz F (A22 e P),fun r u q t R=>Cz F ?_⟩;obtain⟨z,j,C⟩:=h r u q t;have m:=(Wy j h0).1;have E:=Aem m;rw[j]at E;have H:q.num*((L/q.den:Nat):Int)=z:=A7f.1 E;refine A22 ?_ C;rw[<-H,A26,A26,A1s,A1s];exact A2h _ (Nat.div_le_div_right e)
section
variable {n:Nat}
def Aks {n w:Nat}{X Y:zM}(m:Rec n w X)(F:Rec n w Y)(h:∀ i k,i<n->k<w->en X i k=en Y i k):X=Y:=by
 refine A5l (by rw[m.1,F.1]) fun i j u=>?_;have hi:i<n:=by rw[<-m.1];exact j
 have e:=m.2 i hi;have t:=F.2 i hi;rw[Ch j]at e;rw[Ch u]at t;refine A5l (by rw[e,t]) fun k E H=>?_;have:=h i k hi (by rw[<-e];exact E);unfold en at this;rwa[Ch j,Ch u,Cu E,Cu H]at this
section
variable {P:List Par} {C:CF} {q:Rat} {N:Nat} {X Y:zM}
structure H6 (P:List Par)(C:CF)(q:Rat)(X:zM):Prop where
 rc:Rec (P.length+1) (P.length+1) X
 inv:Fe (P.length+1) (en X) (en (Eh C P q))
def H6.uniq (h:H6 P C q X)(e:H6 P C q Y):X=Y:=Aks h.rc e.rc (Aps Mn h.inv e.inv)
theorem Az3 (m:In N C)(L:Fd q):∃ Z:Nat->Nat->Int,∀ i k,i<P.length+1->k<P.length+1->en (Eh C P q) i k*((4320:Nat):Rat)=Z i k/\(Z i k).natAbs<=N*30+12960:=by
 obtain⟨p,hp,u⟩:=L.thirty;have e:((12^2:Nat):Rat)=144:=jV;have F:((4320:Nat):Rat)=4320:=jV;have H:((30:Int):Rat)=30:=jV;have I:((144:Int):Rat)=144:=jV;have E:∀ i k,∃ z:Int,As C ((An P).getD i none) ((An P).getD k none)*144=z/\z.natAbs<=N:=fun i k=>by
  obtain⟨z,h,t⟩:=m.c ((An P).getD i none) ((An P).getD k none);rw[e]at h;exact⟨z,h,t⟩
 obtain⟨Z,J⟩:∃ Z:Nat->Nat->Int,∀ i k,As C ((An P).getD i none) ((An P).getD k none)*144=Z i k/\(Z i k).natAbs<=N:=⟨fun i k=>(E i k).choose,fun i k=>(E i k).choose_spec⟩;refine⟨fun i k=>Z i k*30+(if i=k/\0<i then p*144 else 0),fun i k hi K=>?_⟩;obtain⟨h,t⟩:=J i k;constructor
 ·rw[N8 hi K,A7d,A3c,<-h,F,H];by_cases j:i=k/\0<i
  ·rw[if_pos j,if_pos j,A3c,<-hp,I];grind
  rw[if_neg j,if_neg j,show ((0:Int):Rat)=0 from rfl];grind
 show (Z i k*30+if i=k/\0<i then p*144 else 0).natAbs<=_;split<;>omega
def Ay9:∀ n:Nat,n<=12->N5 n<=10^9:=fV
def H6.dens (h:H6 P C q X)(m:In N C)(I:N<=33000000000)(F:Fd q)(u:P.Nodup)(H:0<C.c)(e:∀ z,0<=Dh z P C) :
 ∃ L:Nat,0<L/\L<=N5 (P.length+1)*(10^12)^(P.length+1)/\∀ j k,j<P.length+1->k<P.length+1->∃ z:Int,en X j k*(L:Rat)=z/\z.natAbs<=4320*(N5 (P.length+1)*(10^12)^(P.length+1)):=by
 obtain⟨Z,E⟩:=Az3 (P:=P) m F;exact Aqr Mn h.inv (Xx u H F.pos e) oV (fun i k hi t=>(E i k hi t).1) (fun i k hi t=>A04 (E i k hi t).2 oV) oV
def Al4 (e:n<=12):N5 n*(10^12)^n<10^(12*n+10):=by
 have h:=Ay9 n e;rw[<-Nat.pow_mul,show 12*n+10=12*n+1+9 by omega,A4k (m:=12*n+1) (n:=9),A2d,A19];have j:0<10^(12*n):=A66 oV;have t:=A2h (10^(12*n)) h;have u:10^(12*n)*10^9<10^(12*n)*10*10^9:=by
  refine A6w ?_ fV;omega
 omega
def H6.de (h:H6 P C q X)(t:In N C)(J:N<=33000000000)(V:Fd q)(u:P.Nodup)(K:0<C.c)(m:∀ z,0<=Dh z P C)(H:P.length<=11):∀ j k,j<P.length+1->k<P.length+1->De 158 154 (en X j k):=fun j k R U=>by
 obtain⟨L,h0,I,E⟩:=h.dens t J V u K m;have Q:=Al4 (n:=P.length+1) oV;have hp:(10:Nat)^(12*(P.length+1)+10)<=10^154:=A10 oV oV;generalize N5 (P.length+1)*(10^12)^(P.length+1)=B at I Q E;obtain⟨z,F,W⟩:=E j k R U;generalize hT:(10:Nat)^154=T at hp;refine⟨z,L,F,h0,?_,by rw[hT];omega⟩;have e:(10:Nat)^158=10000*T:=by rw[<-hT,show 158=4+154 by rfl,A4k]
 rw[e];omega
def H6.light (h:H6 P C q X)(E:In N C)(T:N<=33000000000)(W:Fd q)(H:P.Nodup)(U:0<C.c)(t:∀ z,0<=Dh z P C)(h5:P.length<=5):∃ L,Y5 X L 86:=by
 obtain⟨L,h0,R,K⟩:=h.dens E T W H U t;have V:=Al4 (n:=P.length+1) oV;have hp:(10:Nat)^(12*(P.length+1)+10)<=10^82:=A10 oV oV;generalize N5 (P.length+1)*(10^12)^(P.length+1)=B at R V K;have e:(10:Nat)^86=10000*10^82:=by rw[show 86=4+82 by rfl,A4k]
 have u:L<10^82:=oV
 refine⟨L,Ap3 h0 oV (by rw[e];omega) (A04 (Bd (A04 (Cz (k:=82) oV u) oV)) oV) fun r Z x hx=>?_⟩;obtain⟨j,F,rfl⟩:=A3d.1 Z;obtain⟨k,J,rfl⟩:=A3d.1 hx;have m:j<P.length+1:=by rw[<-h.rc.1];exact F
 have I:=h.rc.2 j m;rw[Ch F]at I;obtain⟨z,Q,h2⟩:=K j k m (by rw[<-I];exact J);refine⟨z,?_,by rw[e];omega⟩;rw[<-Q];unfold en;rw[Ch F,Cu J]
end
end
end Go.Proofs.YtemmheaocgmebaaGreatDoor
