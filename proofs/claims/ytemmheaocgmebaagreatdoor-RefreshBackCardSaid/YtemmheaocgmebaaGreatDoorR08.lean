/- Parts of one proof, joined by a program. -/
import Derived.Test.YtemmheaocgmebaaGreatDoorR07
import Derived.RangeFuncSeq
import Derived.RangeFuncGives
import Derived.RangeFuncIn
import Derived.OrdersIn
import Derived.OwnWalkIn
set_option linter.defProp false
set_option linter.unusedVariables false
set_option linter.unusedSimpArgs false
set_option linter.unusedSectionVars false
set_option maxHeartbeats 16000000
namespace Go.Proofs.YtemmheaocgmebaaGreatDoor
open Go.Proofs.Tryz
open Go.RowKit Go.MapKept
def A5w:=@List.foldl_append
def A91:=@List.getElem?_mapIdx
def A6p:=@List.any_eq_false
def Bas:=@Classical.em
def A92:=@List.getElem?_zipIdx
def A6v:=@List.mem_append_right
def A6f:=@List.pairwise_singleton
def A5l:=@List.ext_getElem
section
variable {i k:Nat}{s:List UInt8}
section rules
variable {P:Program} [A6 P] {fn:Func} {Post:Ce} {st:List KI×S} {u m:PH}
def G.convBU (e:TypeId)(l:List UInt8)(b n c:Nat)(h:Aj P (adv P st)=.conv (some (.slice e)) (some .string) (.slice (some ⟨b,0,none⟩) n c))(O:P.underlying e=some (.int .u8))(T:n=l.length)
 (N:Hc u b 0 1 (Bm l)) (k:G P fn Post (nx (adv P st) (.string (mkS l))) u m):G P fn Post st u m:=by
 refine G.ask h mV (fun J o g w hp=>?_) k;obtain⟨s,d,X,z,H,I,C⟩:=Ln g;obtain⟨F,U,E,pos,after,t⟩:=o;simp only at z;subst z;have R:=(hp (by simp[Hr,Acg C mV])).1;subst T;have:=run_convert_bytes_back (P:=P) w s d e ⟨b,0,none⟩ c l I O C (fun j Q=>by
  have K:=N j (.int .u8 (l[j].toNat:Int)) (by simp[Bm,Q]);have L:=(K 0 (.int .u8 (l[j].toNat:Int)) (by simp[Value.cells])).cell R;rw[Ed];simpa using L)
 simp[execOp,H,this]
end rules
def Zq (i:Nat):UInt8:=UInt8.ofNat (97+i)
def Wv (h:i<26):(Zq i).toNat=97+i:=by
 unfold Zq;rw[UInt8.toNat_ofNat'];omega
def S0 {u:PH}{p:List UInt8}(hi:i<26)(hp:p.length<=1000):Fn0 prog 182 [.string (mkS p),.int .i64 i] u fun v _=>v=.string (mkS (p++[Zq i])):=by
 refine Fn0.o func182<|G.remZ (i:Int) 26 (i:Int) kV oV oV (by rw[A47 oV];omega)<|G.p 97 i (97+i:Nat)<|G.convI .i64 .u8 .i64 (97+i:Nat) ((97+i:Nat):Int) kV ?_ ?_
 ·simp only[IntKind.wrap,IntKind.signed,IntKind.bits];simp;omega
 have h : [Value.int .u8 ((97+i:Nat):Int)]=Bm [Zq i]:=by unfold Bm;rw[A2u,Wv hi];rfl
 refine G.B 5 1 1 (.int .u8 0) [.int .u8 ((97+i:Nat):Int)] (by rw[h];exact Mj _) ?_;intro g n j e;rw[h]at e;exact G.convBU 5 [Zq i] g 1 1 kV kV rfl e<|G.addS p [Zq i] kV gV<|G.r _ ⟨rfl,rfl⟩
def Ai7:List UInt8:=[114,101,100]
def Qf:List UInt8:=[103,114,101,101,110]
def Xg:List UInt8:=[98,108,117,101]
def Ae7 (s:List UInt8):Bool:=Hn s&&(s==Ai7||s==Qf||s==Xg)
def Azb (h:Ae7 s=true):Hn s=true:=by
 unfold Ae7 at h;rw[A1m]at h;exact h.1
def Avi (h:Ae7 s=true):s=Ai7\/s=Qf\/s=Xg:=by
 unfold Ae7 at h;simp only[A1m,A4b,beq_iff_eq]at h;rcases h.2 with (h|h)|h
 ·exact .inl h
 ·exact .inr (.inl h)
 exact .inr (.inr h)
def Rj (k:Nat)(s:List UInt8):Prop:=s = []\/(k=3/\Hn s=true)\/(k=1/\∃ z:Int,z.natAbs<=1000000000/\s=Lib.itoa z)\/(k=2/\∃ q,SmW q/\s=Ae q)
def Zi (k:Nat)(s:List UInt8):Prop:=s = []\/(k=3/\Ae7 s=true)\/(k=1/\∃ z:Int,z.natAbs<=1000000000/\s=Lib.itoa z)\/(k=2/\∃ q,SmR q/\s=Ae q)
def Zi.ok (h:Zi k s):Rj k s:=h.imp id (Or.imp (fun⟨e,h⟩=>⟨e,Azb h⟩) (Or.imp id fun⟨e,q,g,j⟩=>⟨e,q,g.w,j⟩))
def Gr {q:Rat}(h:Ae q=s)(e:SmR q):Zi 2 s:=.inr (.inr (.inr ⟨rfl,q,e,h.symm⟩))
def Tb {z:Int}(h:Lib.itoa z=s)(e:z.natAbs<=1000000000):Zi 1 s:=.inr (.inr (.inl ⟨rfl,z,e,h.symm⟩))
def Ant {u:PH}{s:Src}{ts:List Int}{x:List UInt8×Nat}(h:J0 u s ts)(R:k<=s.n)(O:1<=x.2)(Q:x.2<=3) :
 Ag prog 157 [s.ptr,D9 x] u (s.M k) fun v _ T=>∃ (t:List UInt8) (N:Nat),v=.string (mkS t)/\Zi x.2 t/\N<=s.n/\T=s.M N:=by
 obtain⟨Y,H⟩:=x;simp only at O Q⊢;refine Ag.o func157<|G.A call14 (I4 (n:=9) h R oV oV) ?_;rintro v1 Z X W ⟨r,J,rfl,V,j,rfl⟩ _;rw[By];by_cases U:r=8
 ·exact G.eT r 8<|G.r (.string (mkS [])) ⟨[],J,rfl,.inl rfl,j,rfl⟩
 refine G.eF r 8 ?_;by_cases L:H=3
 ·subst L;refine G.eT (3:Nat) 3<|G.B 9 1 16 (.string (mkS [])) [.string (mkS Ai7),.string (mkS Qf),.string (mkS Xg)] (G6 [Ai7,Qf,Xg]) ?_;intro g I l2 e;obtain⟨i,hi⟩:∃ i,i=r%3:=⟨_,rfl⟩;have C:i<3:=oV;refine G.remZ (r:Int) 3 (i:Int) kV oV oV (by rw[A47 oV];omega)<|G.a g 0 3 3 i 1 C ?_;obtain⟨t,E,F⟩:∃ t,ElP I g (0+i*1) (.string (mkS t))/\Ae7 t=true:=by
   rcases (by omega:i=0\/i=1\/i=2) with h|h|h
   ·rw[h];exact⟨Ai7,e 0 _ rfl,jV⟩
   ·rw[h];exact⟨Qf,e 1 _ rfl,jV⟩
   rw[h];exact⟨Xg,e 2 _ rfl,jV⟩
  exact G.lU none g (0+i*1) (.string (mkS t)) E<|G.r (.string (mkS t)) ⟨t,J,rfl,.inr (.inl ⟨rfl,F⟩),j,rfl⟩
 refine G.eF H 3 ?_;by_cases K:H=1
 ·subst K;refine G.eT (1:Nat) 1<|G.B 9 1 16 (.string (mkS [])) [.string (mkS [49]),.string (mkS [50]),.string (mkS [49,48])] (G6 [[49],[50],[49,48]]) ?_;intro g I l2 e;obtain⟨i,hi⟩:∃ i,i=r%3:=⟨_,rfl⟩;have C:i<3:=oV;refine G.remZ (r:Int) 3 (i:Int) kV oV oV (by rw[A47 oV];omega)<|G.a g 0 3 3 i 1 C ?_;obtain⟨t,E,F⟩:∃ t,ElP I g (0+i*1) (.string (mkS t))/\Zi 1 t:=by
   rcases (by omega:i=0\/i=1\/i=2) with h|h|h
   ·rw[h];exact⟨[49],e 0 _ rfl,Tb (z:=1) jV fV⟩
   ·rw[h];exact⟨[50],e 1 _ rfl,Tb (z:=2) jV fV⟩
   rw[h];exact⟨[49,48],e 2 _ rfl,Tb (z:=10) jV fV⟩
  exact G.lU none g (0+i*1) (.string (mkS t)) E<|G.r (.string (mkS t)) ⟨t,J,rfl,F,j,rfl⟩
 refine G.eF H 1 ?_;obtain rfl:H=2:=oV;refine G.B 9 1 16 (.string (mkS [])) [.string (mkS [48]),.string (mkS [49]),.string (mkS [45,50]),.string (mkS [49,47,50]),.string (mkS [51]),.string (mkS [53,47,51]),.string (mkS [49]),.string (mkS [50])] (G6 [[48],[49],[45,50],[49,47,50],[51],[53,47,51],[49],[50]]) ?_;intro g I l2 e;refine G.a g 0 8 8 r 1 oV ?_;obtain⟨t,E,F⟩:∃ t,ElP I g (0+r*1) (.string (mkS t))/\Zi 2 t:=by
  rcases (by omega:r=0\/r=1\/r=2\/r=3\/r=4\/r=5\/r=6\/r=7) with h|h|h|h|h|h|h|h
  ·rw[h];exact⟨_,e 0 _ rfl,Gr (q:=0) jV ⟨jV,jV⟩⟩
  ·rw[h];exact⟨_,e 1 _ rfl,Gr (q:=1) jV ⟨jV,jV⟩⟩
  ·rw[h];exact⟨_,e 2 _ rfl,Gr (q:=-2) jV ⟨jV,jV⟩⟩
  ·rw[h];exact⟨_,e 3 _ rfl,Gr (q:=1/2) jV ⟨jV,jV⟩⟩
  ·rw[h];exact⟨_,e 4 _ rfl,Gr (q:=3) jV ⟨jV,jV⟩⟩
  ·rw[h];exact⟨_,e 5 _ rfl,Gr (q:=5/3) jV ⟨jV,jV⟩⟩
  ·rw[h];exact⟨_,e 6 _ rfl,Gr (q:=1) jV ⟨jV,jV⟩⟩
  rw[h];exact⟨_,e 7 _ rfl,Gr (q:=2) jV ⟨jV,jV⟩⟩
 exact G.lU none g (0+r*1) (.string (mkS t)) E<|G.r (.string (mkS t)) ⟨t,J,rfl,F,j,rfl⟩
end
def Ami {u:PH}{s:Src}{ts:List Int}{k:Nat}{v w x y:Value}{T:List (List UInt8×Nat)}(h:J0 u s ts)(hk:k<=s.n)(hT:Ac u v 2 (T.map D9))(hl:T.length<=1000)(a0:∀ a∈T,1<=a.2/\a.2<=3)(hw:∃ a n c,w=.slice a n c)(hx:∃ a n c,x=.slice a n c)(hy:∃ z:Int,y=.int .i64 z) :
 Ag prog 87 [s.ptr,.agg #[v,w,x,y]] u (s.M k) fun r u' m'=>∃ (ss:List (List UInt8)) (k':Nat),Ac u' r 1 (ss.map nmV)/\ss.length=T.length/\(∀ (i:Nat) (x:List UInt8×Nat) (t:List UInt8),T[i]?=some x->ss[i]?=some t->Zi x.2 t)/\k'<=s.n/\m'=s.M k':=by
 obtain⟨a,c,rfl⟩:=hT.opn;obtain⟨wa,wn,wc,rfl⟩:=hw;obtain⟨xa,xn,xc,rfl⟩:=hx;obtain⟨z,rfl⟩:=hy;rw[A03]at hT⊢;refine Ag.o func87<|G.l (ι:=Nat×Nat×List (List UInt8)×(Option Addr×Nat)) (fun i=>[(0,.v s.ptr),(5,sV i.2.2.2.1 i.2.2.1.length i.2.2.2.2),(9,sV a T.length c),(10,iV T.length),(11,iV i.1)]) (fun _=>[])
  (fun i u' m'=>i.1<=T.length/\i.2.1<=s.n/\i.2.2.1.length=i.1/\(∀ (j:Nat) (x:List UInt8×Nat) (t:List UInt8),T[j]?=some x->i.2.2.1[j]?=some t->Zi x.2 t)/\Bag m' [s.arr i.2.1,Ajq i.2.2.2.1 i.2.2.2.2 i.2.2.1])
  (fun i=>T.length-i.1) (0,k,[],(none,0))
  ⟨A1t _,hk,rfl,fun j x t _ ht=>by simp at ht,s.bag0 k ⟨PH.mt,Af.nil _ _ _,trivial⟩⟩ ?_
 rintro J ⟨i,k1,ss,⟨na,nc⟩⟩ hJ u1 m1 l1 ⟨hi,N,P,Q,C⟩;simp only at hi N P Q C hJ;obtain⟨m0,V,hL⟩:=C;obtain⟨rfl,L⟩:=Src.split V;by_cases O:i<T.length
 ·refine G.lT i T.length ?_;have H:T[i]?=some T[i]:=A01 O;obtain⟨E,F⟩:=a0 T[i] (A09 O);obtain⟨ba,oa,rfl,ea⟩:=Ac.at' (hT.mono l1) (j:=i) (e:=D9 T[i]) (by simp[H]);generalize T[i]=q at ea H E F;refine G.a ba oa T.length c i 2 O<|G.lU (some 2) ba (oa+i*2) (.agg #[.string (mkS q.1),.int .i64 q.2]) ea<|G.D call157 (Src.apart L) (Ant (x:=q) (h.mono l1) N E F) ?_;rintro v2 u2 m2 l2 ⟨t,k2,rfl,hv,Z,rfl⟩ _;refine G.B 9 1 16 (.string (mkS [])) [.string (mkS t)] (G6 [t]) ?_;intro g3 u3 l3 e3;have I:Bag (m0.or (s.M k2)) [s.arr k2,Ajq na nc ss]:=⟨m0,Src.at L,hL⟩;obtain⟨mm,W,U⟩:=I.focus 1 rfl;rw[Ak3]at W;refine G.k 9 1 16 (.string (mkS [])) mm (ss.map nmV) [.string (mkS t)] (.slice na ss.length nc) g3 0 1 1 W e3 (G6 [t]) ?_;intro v4 m4 m;rw[show ss.map nmV++[.string (mkS t)]=(ss++[t]).map nmV by rw[A1i];rfl]at m;obtain⟨a4,c4,rfl⟩:=m.shape;rw[A03]at m⊢;have K:=U (Ajq a4 c4 (ss++[t])) m4 m;refine G.i i<|G.b (hJ (i+1,k2,ss++[t],(a4,c4)) _ _ _ cV ((l1.trans l2).trans l3) ⟨dV,Z,by dsimp only;simp[P],?_,K⟩ dV);intro j x' t' R g;dsimp only at g;rcases A2e j ss.length with X|X
  ·rw[A1r X]at g;exact Q j x' t' R g
  rw[A18 X]at g;have Y:j-ss.length=0:=by
   obtain⟨h',_⟩:=A05.1 g;simp at h';omega
  rw[Y]at g;obtain rfl:j=i:=oV;rw[H]at R;cases R;simp at g;subst g;exact hv
 obtain rfl:i=T.length:=oV;refine G.lF T.length T.length<|G.giveP (ma:=m0) (sm:=s.M k1) kV rfl (Src.apart L) (s.h0 k k1) ?_;intro u2 l2 hm;exact G.r (.slice na ss.length nc) ⟨ss,k1,hL.list hm 0 rfl,P,Q,N,rfl⟩
section
variable {C:CF}{F:List Al}{a i:Nat}{f:Al}{lab:Int}{p:Par}{q:Rat}{ss:List (List UInt8)}{w:List UInt8}
structure CF.One (F:CF):Prop where
 c:F.c=1
 t:∀ k,F.t k=if 0<Bk k.1 k.2 then 0 else F.s k.1*F.s k.2
theorem CF.One.num:(CF.num 1).One:=⟨rfl,fun k=>by
 show (0:Rat)=if 0<Bk k.1 k.2 then 0 else (0:Rat)*0
 split
 ·rfl
 grind⟩
def Axz (p:Par)(q:Rat)(k:Par):(CF.one1 p q).s k=if k=p then q else 0:=rfl
theorem CF.One.one1 (p:Par)(q:Rat):(CF.one1 p q).One:=⟨rfl,fun k=>by
 show (if k=(p,p) then q*q else 0)=if 0<Bk k.1 k.2 then 0 else (if k.1=p then q else 0)*(if k.2=p then q else 0)
 obtain⟨x,y⟩:=k;by_cases h:(x,y)=(p,p)
 ·obtain⟨j,m⟩:=Prod.mk.inj h;subst m;rw[j];have:=Et.refl y;rw[if_pos rfl,if_neg (by simp only;omega)];simp
 rw[if_neg h];split
 ·rfl
 by_cases g:x=p
 ·have n:y≠p:=fun e=>h (by rw[g,e]);simp only[n,if_false];grind
 simp only[g,if_false];grind⟩
theorem CF.One.mul {F G:CF}(hF:F.One)(e:G.One):(F.mul G).One/\∀ p,(F.mul G).s p=F.s p+G.s p:=by
 have g:∀ p,(F.mul G).s p=F.s p+G.s p:=fun p=>by
  show G.s p*F.c+F.s p*G.c=_;rw[hF.c,e.c];grind
 refine⟨⟨?_,fun k=>?_⟩,g⟩
 ·show F.c*G.c=1;rw[hF.c,e.c];decide +kernel
 rw[g,g];show G.t k*F.c+F.t k*G.c+I2 F G k=_;rw[hF.c,e.c,hF.t,e.t];unfold I2;split
 ·grind
 split
 ·rename_i he;rw[<-he];grind
 grind
abbrev LF:Type:=Option (Option (Par×Rat))
def LF.cf:LF->CF
 |none=>CF.num 0
 |some none=>CF.num 1
 |some (some x)=>CF.one1 x.1 x.2
def Iv (C:CF)(L:List LF):CF:=L.foldl (fun c y=>c.mul y.cf) C
def Aa0 (C:CF)(L:List LF)(x:LF):Iv C (L++[x])=(Iv C L).mul x.cf:=by unfold Iv;rw[A5w];rfl
def Aqb (F:CF):(CF.num 0).mul F=CF.num 0:=by
 rw[CF.mul_comm];exact CF.mul_zero F
def Aae:∀ L,Iv (CF.num 0) L=CF.num 0
 |[]=>rfl
 |x::L=>by
  unfold Iv;rw[A6i,Aqb];exact Aae L
def Am2 {L:List LF}(h:none∈L):Iv C L=CF.num 0:=by
 obtain⟨A,B,rfl⟩:=A6k h;unfold Iv;rw[A5w,A6i];have:(List.foldl (fun c (y:LF)=>c.mul (LF.cf y)) C A).mul (LF.cf none)=CF.num 0:=CF.mul_zero _;rw[this];exact Aae B
def LF.one {x:LF}(h:x≠none):x.cf.One:=by
 match x,h with
 |some none,_=>exact CF.One.num
 |some (some x),_=>exact CF.One.one1 _ _
def We:∀ {L:List LF} {C:CF},C.One->none∉L->(Iv C L).One
 |[],C,h,_=>h
 |x::L,C,h,hn=>by
  have g:x≠none:=fun e=>hn (by rw[e];exact A4l ..);unfold Iv;rw[A6i];exact We (h.mul (LF.one g)).1 fun e=>hn (A2f _ e)
theorem Acr {p:Par}:∀ {L:List LF} {C:CF},C.One->none∉L->(∀ q,some (some (p,q))∉L)->(Iv C L).s p=C.s p
 |[],C,h,_,_=>rfl
 |x::L,C,h,hn,hp=>by
  have j:x≠none:=fun e=>hn (by rw[e];exact A4l ..);have g:=h.mul (LF.one j);unfold Iv;rw[A6i];have:=Acr (p:=p) g.1 (fun e=>hn (A2f _ e)) fun q e=>hp q (A2f _ e);unfold Iv at this;rw[this,g.2];have m:x.cf.s p=0:=by
   match x,j,hp with
   |some none,_,_=>rfl
   |some (some (p',q)),_,hp =>
    show (if p=p' then q else 0)=0;rw[if_neg fun e=>hp q (by rw[e];exact A4l ..)]
  rw[m];grind
theorem Av3 {L:List LF}(h:C.One)(N:none∉L)(T:C.s p=0)(Q:L[a]?=some (some (some (p,q))))(K:∀ b j,L[b]?=some (some (some (p,j)))->b=a):(Iv C L).s p=q:=by
 obtain⟨R,u⟩:=A05.1 Q;have e:L=L.take a++some (some (p,q))::L.drop (a+1):=by
  rw[<-u,List.getElem_cons_drop,A4h]
 have n:none∉L.take a:=fun m=>N (A27 m);have E:none∉L.drop (a+1):=fun m=>N (A3x m);have H:∀ j,some (some (p,j))∉L.take a:=fun j m=>by
  obtain⟨b,z,g⟩:=A2y m;rw[A1e]at z;rw[A7w]at g;have:=K b j (by rw[A01 oV,g]);omega
 have I:∀ j,some (some (p,j))∉L.drop (a+1):=fun j m=>by
  obtain⟨b,z,g⟩:=A2y m;rw[A4y]at z;rw[List.getElem_drop]at g;have:=K (a+1+b) j (by rw[A01 oV,g]);omega
 rw[e];have O:=Acr (p:=p) h n H;have t:=We h n;have J:=t.mul (CF.One.one1 p q);have P:=Acr (p:=p) J.1 E I;have:Iv C (L.take a++some (some (p,q))::L.drop (a+1))=Iv ((Iv C (L.take a)).mul (CF.one1 p q)) (L.drop (a+1)):=by
  unfold Iv;rw[A5w,A6i];rfl
 rw[this,P,J.2,O,T,Axz,if_pos rfl];grind
noncomputable def Lk (t:List UInt8):Rat:=open Classical in if h:∃ q,SmW q/\t=Ae q then h.choose else 0
def Aa7 {t:List UInt8}(h:∃ q,SmW q/\t=Ae q):SmW (Lk t)/\Ae (Lk t)=t:=by
 unfold Lk;rw[dif_pos h];exact⟨h.choose_spec.1,h.choose_spec.2.symm⟩
noncomputable def I3 (i:Nat)(f:Al)(w:List UInt8):LF:=if f.2.1=2 then some (some (((i:Int),w),1)) else if w = [] then (if f.2.2=1 then none else some none) else some (some (((i:Int),[]),Lk w))
noncomputable def Sy (w:List UInt8):LF:=if w = [] then none else some (some ((-1,[]),Lk w))
noncomputable def Gm (F:List Al)(lab:Int)(a:Nat)(w:List UInt8):LF:=if (a:Int)=lab then Sy w else match F.findIdx? (fun f=>f.1==a) with|some k=>I3 k (F.getD k (0,0,0)) w|none=>some none
noncomputable def Fh (F:List Al)(lab:Int)(ss:List (List UInt8)):List LF:=ss.mapIdx (Gm F lab)
def Hg (h:ss[a]?=some w):(Fh F lab ss)[a]?=some (Gm F lab a w):=by
 unfold Fh;rw[A91,h];rfl
def G3 :(Fh F lab ss).length=ss.length:=by unfold Fh;simp
def Aq0 (m:(F.map (·.1)).Nodup)(h:F[i]?=some f):F.findIdx? (fun g=>g.1==f.1)=some i:=by
 obtain⟨hi,rfl⟩:=A05.1 h;refine A52.2 ⟨hi,mV,fun j n=>?_⟩;simp only[beq_iff_eq];intro e;have:=(A9e (xs:=F.map (·.1)) (h₀:=by rw[A03];omega) (h₁:=by rw[A03];omega) (i:=j) (j:=i) m).1 (by rw[A3v,A3v];exact e);omega
def Zu (h:(F.map (·.1)).Nodup)(e:F[i]?=some f)(g:(f.1:Int)≠lab):Gm F lab f.1 w=I3 i f w:=by
 unfold Gm;rw[if_neg g,Aq0 h e];simp[A02,e]
def Gn (h:(a:Int)≠lab):Gm F lab a w=some none\/∃ (i:Nat) (f:Al),F[i]?=some f/\f.1=a/\Gm F lab a w=I3 i f w:=by
 unfold Gm;rw[if_neg h];cases hx:F.findIdx? (fun f=>f.1==a) with
 |none=>exact .inl rfl
 |some k =>
  obtain⟨e,g,_⟩:=A52.1 hx;right;refine⟨k,F[k],A01 e,by simpa using g,?_⟩;simp[A02,A01 e]
def Aoa (I:-1<=lab){a b:Nat}{q H:Rat}(g:(Fh F lab ss)[a]?=some (some (some (p,q))))(u:(Fh F lab ss)[b]?=some (some (some (p,H)))):b=a:=by
 have key:∀ {a:Nat} {q:Rat},(Fh F lab ss)[a]?=some (some (some (p,q)))->((a:Int)=lab/\p.1 = -1)\/∃ (i:Nat) (f:Al),F[i]?=some f/\f.1=a/\p.1=(i:Int):=by
  intro a q g;unfold Fh at g;rw[A91]at g;cases hw:ss[a]? with
  |none=>rw[hw]at g;cases g
  |some w =>
   rw[hw]at g;simp only[A4c,A1f]at g;by_cases h:(a:Int)=lab
   ·left;unfold Gm Sy at g;rw[if_pos h]at g;split at g
    ·cases g
    cases g;exact⟨h,rfl⟩
   right;rcases Gn (F:=F) (w:=w) h with e|⟨i,f,j,m,t⟩
   ·rw[e]at g;cases g
   rw[t]at g;refine⟨i,f,j,m,?_⟩;unfold I3 at g;split at g
   ·cases g;rfl
   split at g
   ·split at g<;>cases g
   cases g;rfl
 rcases key g with ⟨j,m⟩|⟨i,f,j,m,t⟩<;>rcases key u with ⟨n,E⟩|⟨z,f',n,E,J⟩
 ·omega
 ·omega
 ·omega
 obtain rfl:z=i:=oV;rw[j]at n;cases n;omega
end
section
variable {q:Rat}{t:List UInt8}{x:LF}
def My {m:PH}{b:Nat}{t:TypeId}{xs:List Value}{e:Value}(j:m b=some (.cells xs.toArray t (0,0)))(h:e.cells=xs.toArray):ElP m b 0 e:=fun i x g=>by
 refine⟨_,_,_,j,?_⟩;rw[h]at g;simpa using g
def SmW.dat (h:SmW q):Dat q:=⟨by have:=h.num;omega,h.le⟩
def SmW.sb (h:SmW q):SB q:=h.dn.small oV (pw jV)
def SmW.sb2 (h:SmW q):SB (q*q):=(h.dn.mul h.dn).small oV (pw jV)
def I7:SmW 1:=⟨jV,jV⟩
def LF.Small:LF->Prop
 |some (some x)=>SmW x.2/\PV x.1
 |_=>True
theorem LF.Small.cfd (h:x.Small):CFD 2 343731600 x.cf:=by
 match x,h with
 |none,_=>exact CFD.count (Dn.zero _ _)
 |some none,_=>exact CFD.count ⟨144,jV,fV⟩
 |some (some x),h =>
  have e:Dn 2 343731600 x.2:=by
   have:=h.1.dn.mul (show Dn 1 18540 1 from⟨12,jV,fV⟩);rw[show x.2*1=x.2 by grind]at this;exact this.mono oV
  exact Ao6 ⟨144,jV,fV⟩ e ((h.1.dn.mul h.1.dn).mono oV)
def LF.Small.cfv (h:x.Small):CFV x.cf:=by
 match x,h with
 |none,_=>exact CFV.count 0
 |some none,_=>exact CFV.count 1
 |some (some x),h=>exact Ar0 h.2
def R2 {L:List LF}(h:∀ x∈L,x.Small):∀ i,i<=L.length->CFD (2*i) (1374926400^i) (Iv (CF.num 1) (L.take i))/\CFV (Iv (CF.num 1) (L.take i))
 |0,_=>⟨CFD.count ⟨1,jV,fV⟩,CFV.count 1⟩
 |i+1,hi=>by
  obtain⟨j,m⟩:=R2 h i oV;have g:=h _ (A09 (show i<L.length by omega));have e:L.take (i+1)=L.take i++[L[i]]:=by rw[A1n,A01 oV];rfl
  rw[e,Aa0];refine⟨?_,m.mul g.cfv⟩;have:=j.mul g.cfd;rw[show 2*(i+1)=2*i+2 by omega];exact this.mono (by rw[A2d];omega)
def Ax7 {u:PH}{x:List UInt8×Nat}(e:1<=x.2)(g:x.2<=3)(j:Rj x.2 t):Fn0 prog 158 [D9 x,.string (mkS t)] u fun v _=>v=.bool true:=by
 obtain⟨s,k⟩:=x;rcases j with rfl|⟨rfl,m⟩|⟨rfl,z,n,rfl⟩|⟨rfl,q,h,rfl⟩
 ·exact Ati e g
 ·exact Awf m
 ·exact Awl n
 exact Awh h.dat
def Hz (h:Rj 2 t)(g:t≠[]):SmW (Lk t)/\Ae (Lk t)=t:=by
 rcases h with e|⟨e,_⟩|⟨e,_⟩|⟨_,q,j,e⟩
 ·exact absurd e g
 ·omega
 ·omega
 exact Aa7 ⟨q,j,e⟩
def Ahh {T:List (List UInt8×Nat)}{F:List Al}{lab:Int}{a:Nat}{x:List UInt8×Nat}(hF:Da T F lab)(m:∀ l:Nat,lab=(l:Int)->∃ n,T[l]?=some (n,2))(K:F.length<=8)(z:T[a]?=some x)(u:Rj x.2 t):(Gm F lab a t).Small:=by
 by_cases g:(a:Int)=lab
 ·obtain⟨n,E⟩:=m a g.symm;rw[z]at E;cases E;unfold Gm Sy;rw[if_pos g];by_cases j:t = []
  ·rw[if_pos j];trivial
  rw[if_neg j];exact⟨(Hz u j).1,⟨by show (-1:Int)<=-1;omega,by show (-1:Int)<=1000;omega,.inl rfl⟩⟩
 rcases Gn (F:=F) (w:=t) g with e|⟨i,f,C,rfl,J⟩
 ·rw[e];trivial
 rw[J];obtain⟨hi,_⟩:=A05.1 C;obtain⟨n,k,L,h,_⟩:=hF.ok f (A1k C);rw[L]at z;cases z;unfold I3;rcases h with ⟨H,I,O⟩|⟨H,I,O⟩
 ·rw[if_neg oV];by_cases j:t = []
  ·rw[if_pos j];split<;>trivial
  rw[if_neg j];subst I;exact⟨(Hz u j).1,⟨by show (-1:Int)<=(i:Int);omega,by show (i:Int)<=1000;omega,.inl rfl⟩⟩
 rw[if_pos H];refine⟨I7,⟨by show (-1:Int)<=(i:Int);omega,by show (i:Int)<=1000;omega,?_⟩⟩;rcases u with e|⟨_,N⟩|⟨e,_⟩|⟨e,_⟩
 ·exact .inl e
 ·exact .inr N
 ·omega
 omega
end
section
variable {F:List Al}{T:List (List UInt8×Nat)}{f:Al}{i:Nat}{lab:Int}{ss:List (List UInt8)}
structure Bw (T:List (List UInt8×Nat))(ss:List (List UInt8)):Prop where
 len:ss.length=T.length
 val:∀ (i:Nat) (x:List UInt8×Nat) (t:List UInt8),T[i]?=some x->ss[i]?=some t->Rj x.2 t
def Bw.at (h:Bw T ss)(hi:i<ss.length):∃ x,T[i]?=some x/\Rj x.2 ss[i]:=by
 have:=h.len;have e:T[i]?=some (T[i]'oV):=A01 oV;exact⟨_,e,h.val i _ _ e (A01 hi)⟩
def Pp (ss:List (List UInt8))(f:Al):Bool:=f.2.1==1&&f.2.2==1&&(ss.getD f.1 []).isEmpty
def G4 (F:List Al)(lab:Int)(ss:List (List UInt8)):Bool:=!(decide (0<=lab)&&(ss.getD lab.toNat []).isEmpty) && !F.any (Pp ss)
def Vz (hF:Da T F lab)(g:Bw T ss)(e:f∈F):f.1<ss.length:=by
 obtain⟨n,k,h,_⟩:=hF.ok f e;obtain⟨j,_⟩:=A05.1 h;have:=g.len;omega
def Qq (hF:Da T F lab)(m:Bw T ss)(g:F[i]?=some f):(Fh F lab ss)[f.1]?=some (I3 i f (ss.getD f.1 [])):=by
 have j:=A1k g;have h:=Vz hF m j;obtain⟨n,k,_,_,e⟩:=hF.ok f j;rw[Hg (w:=ss[f.1]) (A01 h),Zu hF.nodup g e];simp[A02,A01 h]
def Amw {l:Nat}(e:lab=(l:Int))(h:l<ss.length):(Fh F lab ss)[l]?=some (Sy (ss.getD l [])):=by
 rw[Hg (w:=ss[l]) (A01 h)];unfold Gm;rw[if_pos e.symm];simp[A02,A01 h]
def Acl (hF:Da T F lab)(R:Bw T ss)(W:-1<=lab)(O:∀ l:Nat,lab=(l:Int)->l<ss.length):G4 F lab ss=true↔none∉Fh F lab ss:=by
 unfold G4;simp only[A1m,A3w,A8b,decide_eq_false_iff_not,Int.not_le];constructor
 ·rintro⟨a,b⟩ hm;obtain⟨i,hi,C⟩:=A2y hm;have g:(Fh F lab ss)[i]?=some none:=by rw[A01 hi,C]
  have t:i<ss.length:=by rw[G3]at hi;exact hi
  rw[Hg (w:=ss[i]) (A01 t)]at g;simp only[A1f]at g;by_cases m:(i:Int)=lab
  ·unfold Gm Sy at g;rw[if_pos m]at g;split at g
   ·rename_i he;rcases a with a|a
    ·omega
    rw[<-m]at a;simp[A02,A01 t,he]at a
   cases g
  rcases Gn (F:=F) (w:=ss[i]) m with e|⟨j,f,g1,g2,N⟩
  ·rw[e]at g;cases g
  rw[N]at g;unfold I3 at g;split at g
  ·cases g
  rename_i k2;split at g
  ·rename_i he;split at g
   ·rename_i k3;have u:=A1k g1;obtain⟨n,k,_,Q,_⟩:=hF.ok f u;have U:f.2.1=1:=by rcases Q with ⟨h,_⟩|⟨h,_⟩;exact h;exact absurd h k2
    have:Pp ss f=true:=by
     unfold Pp;rw[g2];simp[U,k3,A02,A01 t,he]
    have I:=A6p.1 b f u;rw[this]at I;exact absurd rfl I
   cases g
  cases g
 intro J;constructor
 ·rcases Bas (lab<0) with h|h
  ·exact .inl h
  right;obtain⟨l,E⟩:∃ l:Nat,lab=(l:Int):=⟨lab.toNat,oV⟩;have H:=O l E;have:=Amw (F:=F) E H;rw[E,A23];cases he:ss.getD l [] with
  |cons x y=>rfl
  |nil =>
   rw[he]at this;exact absurd (A1k this) (by simpa[Sy] using J)
 rw[A6p];intro f P z;obtain⟨i,hi,rfl⟩:=A2y P;have:=Qq hF R (A01 hi);unfold Pp at z;simp only[A1m,beq_iff_eq,List.isEmpty_iff]at z;obtain⟨⟨V,K⟩,L⟩:=z;rw[L]at this;refine J ?_;have e:I3 i F[i] []=none:=by unfold I3;rw[if_neg oV,if_pos rfl,if_pos K]
 rw[e]at this;exact A1k this
noncomputable def cfT (F:List Al)(lab:Int)(ss:List (List UInt8)):CF:=Iv (CF.num 1) (Fh F lab ss)
def Ajl (hF:Da T F lab)(m:Bw T ss)(g:-1<=lab)(j:∀ l:Nat,lab=(l:Int)->l<ss.length)(e:G4 F lab ss=false):cfT F lab ss=CF.num 0:=by
 refine Am2 ?_;rcases Bas (none∈Fh F lab ss) with h|h
 ·exact h
 rw[(Acl hF m g j).2 h]at e;cases e
def Alr (hF:Da T F lab)(j:Bw T ss)(e:-1<=lab)(g:∀ l:Nat,lab=(l:Int)->l<ss.length)(h:G4 F lab ss=true):(cfT F lab ss).One :=
 We CF.One.num ((Acl hF j e g).1 h)
def Tv (hF:Da T F lab)(n:Bw T ss)(e:-1<=lab)(g:∀ l:Nat,lab=(l:Int)->l<ss.length)(m:G4 F lab ss=true){a:Nat}{p:Par}{q:Rat}(h:(Fh F lab ss)[a]?=some (some (some (p,q)))):(cfT F lab ss).s p=q :=
 Av3 CF.One.num ((Acl hF n e g).1 m) rfl h fun b t j=>Aoa e h j
def N0 {u:PH}{R:List Br}(ok:Bl u T R F lab)(g:Bw T ss):∀ x∈Fh F lab ss,x.Small:=fun x j=>by
 obtain⟨i,hi,rfl⟩:=A2y j;rw[G3]at hi;have e:=Hg (F:=F) (lab:=lab) (w:=ss[i]) (A01 hi);rw[A01 (by rw[G3];exact hi),A1f]at e;rw[e];obtain⟨y,m,h⟩:=g.at hi;exact Ahh ok.feat ok.l2 ok.f2 m h
end
section
variable {F:List Al}{T:List (List UInt8×Nat)}{f:Al}{i n:Nat}{lab:Int}{ss:List (List UInt8)}{x:Par×Rat}
noncomputable def Jf (ss:List (List UInt8))(i:Nat)(f:Al):Option (Par×Rat) :=
 if f.2.1=2 then some (((i:Int),ss.getD f.1 []),1) else if ss.getD f.1 [] = []\/ss.getD f.1 [] = [48] then none else some (((i:Int),[]),Lk (ss.getD f.1 []))
noncomputable def Dx (F:List Al)(ss:List (List UInt8))(n:Nat):List (Par×Rat):=(F.zipIdx.take n).filterMap fun p=>Jf ss p.2 p.1
def Ana (F:List Al)(ss:List (List UInt8)):Dx F ss 0 = []:=rfl
def Aaj (h:F[i]?=some f):F.zipIdx[i]?=some (f,i):=by
 rw[A92,h];simp
def Aab (h:F[i]?=some f):Dx F ss (i+1)=Dx F ss i++(Jf ss i f).toList:=by
 unfold Dx;rw[A1n,Aaj h,List.filterMap_append];cases e:Jf ss i f with
 |none=>simp[e]
 |some x=>simp[e]
def F9 :x∈Dx F ss n↔∃ i f,i<n/\F[i]?=some f/\Jf ss i f=some x:=by
 unfold Dx;rw[Baa];constructor
 ·rintro⟨⟨f,i⟩,hm,he⟩;obtain⟨j,g,e⟩:=A2y hm;rw[A1e]at g;rw[A7w,List.getElem_zipIdx]at e;cases e;refine⟨j,_,oV,A01 (by have:=g;simp at this;omega),?_⟩;simpa using he
 rintro⟨i,f,hi,hf,he⟩;refine⟨(f,i),?_,he⟩;have:(F.zipIdx.take n)[i]?=some (f,i):=by rw[A3y,if_pos hi,Aaj hf]
 exact A1k this
def Ow (h:Jf ss i f=some x):x.1.1=(i:Int):=by
 unfold Jf at h;split at h
 ·cases h;rfl
 split at h
 ·cases h
 cases h;rfl
def Nb (F:List Al)(ss:List (List UInt8)):∀ n,n<=F.length->((Dx F ss n).map (·.1)).Nodup
 |0,_=>by rw[Ana];simp
 |n+1,hn=>by
  rw[Aab (A01 (show n<F.length by omega)),A1i];rw[A4p];refine⟨Nb F ss n oV,?_,fun a j b m e=>?_⟩
  ·cases Jf ss n F[n]<;>simp
  subst e;obtain⟨x,u,rfl⟩:=A1b.1 j;obtain⟨i,f,hi,_,t⟩:=F9.1 u;obtain⟨y,z,g⟩:=A1b.1 m;have h:Jf ss n F[n]=some y:=by simpa using z
  have:=Ow t;have:=Ow h;rw[g]at this;omega
def S3 (hF:Da T F lab)(t:Bw T ss)(j:f∈F)(z:f.2.1≠2)(h0:ss.getD f.1 []≠[]):SmW (Lk (ss.getD f.1 []))/\Ae (Lk (ss.getD f.1 []))=ss.getD f.1 []:=by
 obtain⟨n,k,C,g,_⟩:=hF.ok f j;have m:=Vz hF t j;have e:ss.getD f.1 []=ss[f.1]:=by simp[A02,A01 m]
 have u:=t.val f.1 _ _ C (A01 m);rw[<-e]at u;rcases g with ⟨_,rfl,_⟩|⟨h,_⟩
 ·exact Hz u h0
 exact absurd h z
def Um {t:List UInt8}(h:Ae (Lk t)=t):Lk t=0↔t = [48]:=by
 constructor
 ·intro e;rw[<-h,e];exact Fz
 intro e;refine A3m fun g=>?_;exact Sf g (h.trans e)
theorem An5 (hF:Da T F lab)(ht:Bw T ss)(hx:x∈Dx F ss n):x.2≠0/\∃ a:Nat,(Fh F lab ss)[a]?=some (some (some x)):=by
 obtain⟨i,f,_,hf,hv⟩:=F9.1 hx;have hm:=A1k hf;have hl:=Qq hF ht hf;unfold Jf at hv;unfold I3 at hl;split at hv
 ·rename_i h2;cases hv;rw[if_pos h2]at hl;exact⟨(by decide:(1:Rat)≠0),_,hl⟩
 ·rename_i h2;split at hv
  ·cases hv
  ·rename_i h0;cases hv;rw[if_neg h2,if_neg (fun e=>h0 (.inl e))]at hl;refine⟨fun e=>h0 (.inr ?_),_,hl⟩;exact (Um (S3 hF ht hm h2 (fun e=>h0 (.inl e))).2).1 e
noncomputable def Ax2 (lab:Int)(ss:List (List UInt8)):List (Par×Rat):=if 0<=lab/\ss.getD lab.toNat []≠[48] then [((-1,[]),Lk (ss.getD lab.toNat []))] else []
def As8 (hF:Da T F lab)(I:Bw T ss)(J:-1<=lab){a:Nat}(h:(Fh F lab ss)[a]?=some (some (some x)))(C:x.2≠0)(t:∀ l:Nat,lab=(l:Int)->ss.getD l [] = [48]->Lk (ss.getD l [])=0):x∈Ax2 lab ss++Dx F ss F.length:=by
 have m:a<ss.length:=by
  obtain⟨z,_⟩:=A05.1 h;rw[G3]at z;exact z
 have j:ss.getD a []=ss[a]:=by simp[A02,A01 m]
 rw[Hg (w:=ss[a]) (A01 m)]at h;simp only[A1f]at h;by_cases g:(a:Int)=lab
 ·unfold Gm Sy at h;rw[if_pos g]at h;split at h
  ·cases h
  cases h;refine A24 _ ?_;unfold Ax2;have u:ss[a]≠[48]:=fun e=>C (by
   have:=t a g.symm;rw[j]at this;exact this e)
  rw[<-g,A23,j,if_pos ⟨oV,u⟩];exact A12.2 rfl
 rcases Gn (F:=F) (w:=ss[a]) g with e|⟨i,f,g1,g2,E⟩
 ·rw[e]at h;cases h
 rw[E]at h;refine A6v _ (F9.2 ⟨i,f,(A05.1 g1).1,g1,?_⟩);have H:=A1k g1;unfold I3 at h;unfold Jf;rw[g2,j];split at h
 ·rename_i h2;cases h;rw[if_pos h2]
 rename_i h2;split at h
 ·split at h<;>cases h
 rename_i h0;cases h;rw[if_neg h2,if_neg];rintro (e|e)
 ·exact h0 e
 refine C ?_;have:=S3 hF I H h2 (by rw[g2,j];exact h0);rw[g2,j]at this;exact (Um this.2).2 e
end
section
variable {F:List Al}{R:List Br}{T:List (List UInt8×Nat)}{i:Nat}{lab:Int}{ss:List (List UInt8)}{tv v:Value}{u:PH}
structure Mv (u:PH)(v tv:Value)(T:List (List UInt8×Nat))(R:List Br)(F:List Al)(lab:Int)(ss:List (List UInt8)):Prop where
 sch:H5 u v T R F lab
 ok:Bl u T R F lab
 lst:Ac u tv 1 (ss.map nmV)
 fit:Bw T ss
def Mv.mono {u g:PH}{v tv:Value}{T:List (List UInt8×Nat)}{R:List Br}{F:List Al}{lab:Int}{ss:List (List UInt8)}(h:Mv u v tv T R F lab ss)(e:PH.le u g):Mv g v tv T R F lab ss :=
 ⟨h.sch.mono e,h.ok.mono e,h.lst.mono e,h.fit⟩
def Mv.lt (h:Mv u v tv T R F lab ss):∀ l:Nat,lab=(l:Int)->l<ss.length:=fun l e=>by
 obtain⟨n,g⟩:=h.ok.l2 l e;obtain⟨j,_⟩:=A05.1 g;have:=h.fit.len;omega
def M5 {a:Option Addr}{n c:Nat}(h:Ac u (.slice a n c) 1 (ss.map nmV))(hi:i<ss.length):∃ b off,a=some ⟨b,off,none⟩/\ElP u b (off+i*1) (.string (mkS (ss.getD i []))):=by
 have e:ss.getD i []=ss[i]:=by simp[A02,A01 hi]
 rw[e];exact Ac.at' h (j:=i) (by simp[nmV,A01 hi])
def Lm (h:Mv u v tv T R F lab ss) :
 Fn0 prog 89 [v,tv] u fun r _=>r=.int .i64 0:=by
 have C:=fun (O:PH) (l:PH.le u O)=>Adn (h.sch.mono l) (h.ok.mono l);obtain⟨⟨xa,xc,Z,xd,xe,xf,rfl,z,V,Q⟩,ok,t,hT⟩:=h;obtain⟨ya,P,rfl⟩:=t.opn;rw[A03]at t⊢;have L:=hT.len;have t2:=ok.t2;refine Fn0.o func89<|G.c call98 (C u (PH.le_refl _)) ?_;rintro v1 u1 W rfl;refine G.nF 0 0<|G.nF ss.length T.length<|G.l (ι:=Nat) (fun i=>[(2,.p 0 0),(19,sV ya ss.length P),(20,iV ss.length),(21,iV i)])
  (fun _=>[(0,⟨30,[sV xa T.length xc,sV Z R.length xd,sV xe F.length xf,iV lab]⟩)])
  (fun i O Y=>i<=ss.length/\Y=PH.mt) (fun i=>ss.length-i) 0 ⟨oV,rfl⟩ ?_
 rintro J i U u2 m2 l2 ⟨hi,rfl⟩;have n:=W.trans l2;by_cases g:i<ss.length
 ·refine G.lT i ss.length ?_;obtain⟨b,off,rfl,e⟩:=M5 (t.mono n) g;refine G.a b off ss.length P i 1 g<|G.lU none b (off+i*1) (.string (mkS (ss.getD i []))) e ?_;have m:T[i]?=some T[i]:=A01 oV;have E:=ok.att.kind T[i] (A09 oV);have H:=hT.val i _ _ m (A01 g);rw[show ss[i]=ss.getD i [] by simp[A02,A01 g]]at H;obtain⟨I,N,rfl,K⟩:=Ac.at' (z.mono n) (j:=i) (e:=D9 T[i]) (by simp[m]);generalize T[i]=x at m E H K;refine G.a I N T.length xc i 2 oV<|G.lU (some 2) I (N+i*2) (D9 x) K<|G.c call158 (Ax7 E.1 E.2 H) ?_;rintro v3 u3 X rfl;exact G.i i<|G.b (U (i+1) _ _ _ cV (l2.trans X) ⟨oV,rfl⟩ oV)
 obtain rfl:i=ss.length:=oV;exact G.lF ss.length ss.length<|G.r (.int .i64 0) ⟨rfl,rfl⟩
def Aig {u m:PH}{v cap:Value}{T:List Al}{fid:Nat}(p:Al->Bool)(r:Bool)(n:T.any p=r)(h:Ac u v 3 (T.map Cm))(C:T.length<=1000000)
 (g:∀ args w,(callFunc fid args).run prog w=.ok (.enter fid args) w) (z:∀ f∈T,∀ t,PH.le u t->FnK prog fid [Cm f,cap] t m fun v _=>v=.bool (p f)) :
 FnK prog 159 [v,.func (.func fid) #[] #[cap]] u m fun E _=>E=.bool r:=by
 obtain⟨a,c,rfl⟩:=h.opn;refine FnK.of func159 kV kV<|G.callK _ _ kV call219 (Alt (cap:=cap) p h C g z) ?_;rintro J I H rfl;cases r with
 |true =>
  obtain⟨x,j,hp⟩:=A5h.1 n;have:0<=Ad1 p T:=by
   unfold Ad1;cases e:T.findIdx? p with
   |none=>exact absurd hp (by rw[List.findIdx?_eq_none_iff.1 e x j];simp)
   |some k=>simp only;omega
  exact G.hT (Ad1 p T) 0<|G.r (.bool true) ⟨rfl,rfl⟩
 |false =>
  have h0:=A6p.1 n;rw[Abp fun x j=>by simpa using h0 x j];exact G.hF (-1) 0<|G.r (.bool false) ⟨rfl,rfl⟩
def Axg {u m:PH}{f:Al}{b:Nat}{j:Option Addr}{g:Nat}(H:ElP m b 0 (.slice j ss.length g))(E:Ac u (.slice j ss.length g) 1 (ss.map nmV))(h:f.1<ss.length) :
 FnK prog 160 [Cm f,.pointer (some ⟨b,0,none⟩)] u m fun v _=>v=.bool (Pp ss f):=by
 obtain⟨f1,f2,t⟩:=f;simp only at h;refine FnK.of func160 kV kV ?_;unfold Pp;simp only;by_cases z:f2=1
 ·subst z;refine G.eT (1:Nat) 1 ?_;by_cases C:t=1
  ·subst C;refine G.eT (1:Nat) 1<|G.lM none b 0 (.slice j ss.length g) H ?_;obtain⟨n,off,rfl,e⟩:=M5 E h;refine G.a n off ss.length g f1 1 h<|G.lU none n (off+f1*1) (.string (mkS (ss.getD f1 []))) e ?_;by_cases h0:ss.getD f1 [] = []
   ·exact G.q (ss.getD f1 []) [] h0<|G.r (.bool true) ⟨rfl,by rw[h0];rfl⟩
   refine G.w (ss.getD f1 []) [] h0 ?_;exact G.r (.bool false) ⟨rfl,by
    cases hx:ss.getD f1 [] with
    |nil=>exact absurd hx h0
    |cons x y=>rfl⟩
  exact G.eF t 1<|G.r (.bool false) ⟨rfl,by simp[C]⟩
 exact G.eF f2 1<|G.r (.bool false) ⟨rfl,by simp[z]⟩
def Yv (h:Mv u v tv T R F lab ss) :
 Fn0 prog 90 [v,tv] u fun r _=>r=.bool (G4 F lab ss):=by
 have z:=Lm h;have N:=h.lt;obtain⟨⟨xa,xc,xb,xd,xe,xf,rfl,W,V,I⟩,ok,E,hT⟩:=h;obtain⟨C,j,rfl⟩:=E.opn;rw[A03]at E z⊢;have f2:=ok.f2;refine Fn0.o func90<|G.c call89 z ?_;rintro v1 U O rfl;refine G.nF 0 0 ?_;have g:∀ (m:PH) (b:Nat),ElP m b 0 (.slice C ss.length j)->∀ P,PH.le u P->FnK prog 159 [.slice xe F.length xf,.func (.func 160) #[] #[.pointer (some ⟨b,0,none⟩)]] P m fun v' _=>v'=.bool (F.any (Pp ss)):=fun m b X P l =>
  Aig (Pp ss) _ rfl (I.mono l) oV call160 fun f Y Z l'=>Axg X (E.mono (l.trans l')) (Vz ok.feat hT Y)
 have n:∀ b:Nat,ElP (PH.mt.upd b (.cells [Value.slice C ss.length j].toArray 51 (0,0))) b 0 (.slice C ss.length j):=fun b=>My (xs:=[.slice C ss.length j]) (Ab _ _ _) rfl;unfold G4;by_cases Q:lab<0
 ·refine G.hF lab 0<|G.pub 1 51 [.slice C ss.length j] kV kV ?_;intro b J K;refine G.callK _ _ kV call159 (g _ b (n b) U O) ?_;rintro v2 u2 l2 rfl;rw[decide_eq_false oV];cases F.any (Pp ss) with
  |true =>
   exact G.drop PH.mt kV (PH.mt_le _)<|G.r (.bool false) ⟨rfl,rfl⟩
  |false =>
   exact G.drop PH.mt kV (PH.mt_le _)<|G.r (.bool true) ⟨rfl,rfl⟩
 obtain⟨l,rfl⟩:∃ l:Nat,lab=(l:Int):=⟨lab.toNat,oV⟩;have t:=N l rfl;rw[decide_eq_true oV,A23];refine G.hT l 0 ?_;obtain⟨H,off,rfl,e⟩:=M5 (E.mono O) t;refine G.a H off ss.length j l 1 t<|G.lU none H (off+l*1) (.string (mkS (ss.getD l []))) e ?_;by_cases h0:ss.getD l [] = []
 ·exact G.q (ss.getD l []) [] h0<|G.r (.bool false) ⟨rfl,by rw[h0];rfl⟩
 have L:(ss.getD l []).isEmpty=false:=by
  cases hx:ss.getD l [] with
  |nil=>exact absurd hx h0
  |cons x y=>rfl
 rw[L];refine G.w (ss.getD l []) [] h0<|G.pub 1 51 [.slice (some ⟨H,off,none⟩) ss.length j] kV kV ?_;intro b J K;refine G.callK _ _ kV call159 (g _ b (n b) U O) ?_;rintro v2 u2 l2 rfl;cases F.any (Pp ss) with
 |true =>
  exact G.drop PH.mt kV (PH.mt_le _)<|G.r (.bool false) ⟨rfl,rfl⟩
 |false =>
  exact G.drop PH.mt kV (PH.mt_le _)<|G.r (.bool true) ⟨rfl,rfl⟩
def Amh (h:Mv u v tv T R F lab ss) :
 Fn0 prog 136 [v,tv] u fun r _=>r=if lab<0\/ss.getD lab.toNat [] = [] then .tuple #[.string (mkS [48]),.bool false] else .tuple #[.string (mkS (ss.getD lab.toNat [])),.bool true]:=by
 have m:=Lm h;have z:=h.lt;obtain⟨⟨xa,xc,N,O,P,Q,rfl,I,H,E⟩,ok,t,hT⟩:=h;obtain⟨U,C,rfl⟩:=t.opn;rw[A03]at t m⊢;refine Fn0.o func136<|G.c call89 m ?_;rintro L K J rfl;refine G.nF 0 0 ?_;by_cases j:lab<0
 ·exact G.lT lab 0<|G.r (.tuple #[.string (mkS [48]),.bool false]) ⟨rfl,by rw[if_pos (.inl j)]⟩
 obtain⟨l,rfl⟩:∃ l:Nat,lab=(l:Int):=⟨lab.toNat,oV⟩;have g:=z l rfl;rw[A23];refine G.lF l 0 ?_;obtain⟨n,off,rfl,e⟩:=M5 (t.mono J) g;refine G.a n off ss.length C l 1 g<|G.lU none n (off+l*1) (.string (mkS (ss.getD l []))) e ?_;by_cases h0:ss.getD l [] = []
 ·exact G.q (ss.getD l []) [] h0<|G.r (.tuple #[.string (mkS [48]),.bool false]) ⟨rfl,by rw[if_pos (.inr h0)]⟩
 exact G.w (ss.getD l []) [] h0<|G.a n off ss.length C l 1 g<|G.lU none n (off+l*1) (.string (mkS (ss.getD l []))) e<|G.r (.tuple #[.string (mkS (ss.getD l [])),.bool true]) ⟨rfl,by rw[if_neg (fun e=>e.elim oV h0)]⟩
def A0n (h:i<=8):1374926400^i<10^100:=A22 (A10 oV h) jV
def Azz (h:i<8):8*(1374926400^i*343731600)<10^100:=by
 have e:1374926400^i<=1374926400^8:=A10 oV oV;have g:1374926400^8<10^80:=jV
 have j:(10:Nat)^80*100000000000<10^100:=jV
 omega
def Aql (h:Mv u v tv T R F lab ss) :
 Fn0 prog 208 [v,tv] u fun r n=>∃ g j,r=.func (.func 251) #[] #[.pointer (some ⟨g,0,none⟩),.pointer (some ⟨j,0,none⟩)]/\ElP n g 0 v/\ElP n j 0 tv:=by
 obtain⟨⟨xa,xc,t,z,C,E,rfl,U,P,O⟩,ok,Q,hT⟩:=h;obtain⟨H,I,rfl⟩:=Q.opn;rw[A03];have V:Ag prog 208 [.agg #[.slice xa T.length xc,.slice t R.length z,.slice C F.length E,.int .i64 lab],.slice H ss.length I] u PH.mt (fun r n K=>∃ g j,r=.func (.func 251) #[] #[.pointer (some ⟨g,0,none⟩),.pointer (some ⟨j,0,none⟩)]/\ElP K g 0 (.agg #[.slice xa T.length xc,.slice t R.length z,.slice C F.length E,.int .i64 lab])/\ElP K j 0 (.slice H ss.length I)):=by
  refine Ag.o func208<|G.pastI<|G.pub 0 30 [.slice xa T.length xc,.slice t R.length z,.slice C F.length E,.int .i64 lab] kV kV ?_;intro g X W;refine G.pub 1 51 [.slice H ss.length I] kV kV ?_;intro j Y m;have J:g≠j:=fun e=>by subst e;rw[Ab]at m;cases m
  exact G.r (.func (.func 251) #[] #[.pointer (some ⟨g,0,none⟩),.pointer (some ⟨j,0,none⟩)]) ⟨g,j,rfl,My (xs:=[.slice xa T.length xc,.slice t R.length z,.slice C F.length E,.int .i64 lab]) (by rw[Ad _ _ J,Ab]) rfl,My (xs:=[.slice H ss.length I]) (Ab _ _ _) rfl⟩
 refine Fn0.weak V.giveAll ?_;rintro r n ⟨u1,Z,_,l2,g,j,e,L,N⟩;exact⟨g,j,e,L.mono l2,N.mono l2⟩
end
section
variable {F:List Al}{R:List Br}{T:List (List UInt8×Nat)}{a:Option Addr}{c k n:Nat}{l:List Nat}{m m0 u:PH}
def nmA (j:Nat):List UInt8:=[97]++[Zq j]
def nmR (j:Nat):List UInt8:=[114]++[Zq j]
def Axx (h:n<=6):Rc ((List.range n).map nmA):=by
 have e:∀ n:Fin 7,(((List.range n.val).map nmA).all Hn&&decide ((List.range n.val).map nmA).Nodup)=true:=jV
 exact Sc (e ⟨n,oV⟩)
def Ayn (h:n<=6):Rc ((List.range n).map nmR):=by
 have e:∀ n:Fin 7,(((List.range n.val).map nmR).all Hn&&decide ((List.range n.val).map nmR).Nodup)=true:=jV
 exact Sc (e ⟨n,oV⟩)
structure TOK (T:List (List UInt8×Nat)):Prop where
 nm:T.map (·.1)=(List.range T.length).map nmA
 kd:∀ a∈T,1<=a.2/\a.2<=3
 le:T.length<=6
def TOK.nil:TOK []:=⟨rfl,fun a e=>by simp at e,mV⟩
def TOK.snoc (h:TOK T)(g:1<=k)(j:k<=3)(z:T.length<6):TOK (T++[(nmA T.length,k)]):=by
 refine⟨?_,fun a t=>?_,gV⟩
 ·rw[A1i,h.nm,A1d,A20,A5d,A1i];rfl
 rcases A1h.1 t with e|e
 ·exact h.kd a e
 obtain rfl:=A12.1 e;exact⟨g,j⟩
structure TOM (N:Nat)(T:List (List UInt8×Nat)):Prop extends TOK T where
 lem:T.length<=N
def TOM.nil (N:Nat):TOM N []:=⟨TOK.nil,A1t _⟩
def TOM.snocm {N:Nat}(h:TOM N T)(e:1<=k)(g:k<=3)(t:T.length<N)(j:N<=6):TOM N (T++[(nmA T.length,k)]) :=
 ⟨h.toTOK.snoc e g oV,by rw[A1d,A20];omega⟩
def TOK.att (h:TOK T):Aq4 T:=⟨by rw[h.nm];exact Axx h.le,h.kd⟩
structure LOK (l:List Nat)(n:Nat):Prop where
 asc:l.Pairwise (· < ·)
 lt:∀ a∈l,a<n
 len:l.length<=n
def LOK.nil:LOK [] 0:=⟨List.Pairwise.nil,fun a e=>by simp at e,mV⟩
def LOK.up (h:LOK l n):LOK l (n+1):=⟨h.asc,fun a e=>by have:=h.lt a e;omega,by have:=h.len;omega⟩
def LOK.snoc (h:LOK l n):LOK (l++[n]) (n+1):=by
 refine⟨A35.2 ⟨h.asc,A6f _ _,fun a g b j=>?_⟩,fun a g=>?_,by simp;have:=h.len;omega⟩
 ·obtain rfl:=A12.1 j;exact h.lt a g
 rcases A1h.1 g with e|e
 ·have:=h.lt a e;omega
 obtain rfl:=A12.1 e;omega
def LOK.zero (h:0<n):LOK [0] n:=⟨A6f _ _,fun a e=>by
 obtain rfl:=A12.1 e;exact h,gV⟩
structure ROK (u:PH)(n:Nat)(R:List Br):Prop where
 nm:R.map (·.1)=(List.range R.length).map nmR
 ne:∀ r∈R,r.2.1≠[]
 ok:∀ r∈R,LOK r.2.1 n
 all:∀ a<n,∃ r∈R,a∈r.2.1
 at':∀ r∈R,Ac u (.slice r.2.2.1 r.2.1.length r.2.2.2) 1 (Ai r.2.1)
def ROK.nil :ROK u 0 []:=⟨rfl,fun a e=>by simp at e,fun a e=>by simp at e,fun a e=>oV,fun a e=>by simp at e⟩
def ROK.mono {u e:PH}{n:Nat}{R:List Br}(h:ROK u n R)(g:PH.le u e):ROK e n R:=⟨h.nm,h.ne,h.ok,h.all,fun r j=>(h.at' r j).mono g⟩
def ROK.snoc {n t:Nat}(h:ROK u n R)(J:n<=t)(H:LOK l t)(E:l≠[])(j:∀ a,n<=a->a<t->a∈l)(C:Ac u (.slice a l.length c) 1 (Ai l)):ROK u t (R++[(nmR R.length,l,(a,c))]):=by
 refine⟨?_,fun r g=>?_,fun r g=>?_,fun a z=>?_,fun r g=>?_⟩
 ·rw[A1i,h.nm,A1d,A20,A5d,A1i];rfl
 ·rcases A1h.1 g with e|e
  ·exact h.ne r e
  obtain rfl:=A12.1 e;exact E
 ·rcases A1h.1 g with e|e
  ·have:=h.ok r e;exact⟨this.asc,fun a z=>by have:=this.lt a z;omega,by have:=this.len;omega⟩
  obtain rfl:=A12.1 e;exact H
 ·rcases A2e a n with e|e
  ·obtain⟨r,g,I⟩:=h.all a e;exact⟨r,A24 _ g,I⟩
  exact⟨_,A6v _ (A12.2 rfl),j a e z⟩
 rcases A1h.1 g with e|e
 ·exact h.at' r e
 obtain rfl:=A12.1 e;exact C
def ROK.rel (h:ROK u n R)(E:n<=6)(t:R.length<=6):Py u n R:=by
 refine⟨by rw[h.nm];exact Ayn t,h.ne,fun r e=>(h.ok r e).lt,fun r e=>by have:=(h.ok r e).len;omega,fun r e k x y z C=>?_,h.all,h.at'⟩;obtain⟨g,rfl⟩:=A05.1 z;obtain⟨j,rfl⟩:=A05.1 C;exact A3n.1 (h.ok r e).asc k (k+1) g j oV
structure FOK (T:List (List UInt8×Nat))(F:List Al)(lab:Int)(a:Nat):Prop where
 feat:Da T F lab
 lt:∀ f∈F,f.1<a
 len:F.length<=a
 l1:-1<=lab
 l2:∀ l:Nat,lab=(l:Int)->l<a/\∃ n,T[l]?=some (n,2)
def FOK.nil :FOK T [] (-1) 0:=⟨⟨fun f e=>by simp at e,mV⟩,fun f e=>by simp at e,mV,oV,fun l g=>oV⟩
def FOK.skip {lab:Int}{a:Nat}(h:FOK T F lab a):FOK T F lab (a+1):=⟨h.feat,fun f g=>by have:=h.lt f g;omega,by have:=h.len;omega,h.l1,fun l j=>by
 obtain⟨t,e⟩:=h.l2 l j;exact⟨oV,e⟩⟩
def FOK.lab {lab:Int}{a:Nat}{n:List UInt8}(h:FOK T F lab a)(t:T[a]?=some (n,2)):FOK T F (a:Int) (a+1):=by
 refine⟨⟨fun f e=>?_,h.feat.nodup⟩,fun f e=>by have:=h.lt f e;omega,by have:=h.len;omega,oV,fun l C=>?_⟩
 ·obtain⟨n,k,g,j,z⟩:=h.feat.ok f e;exact⟨n,k,g,j,by have:=h.lt f e;omega⟩
 obtain rfl:l=a:=oV;exact⟨oV,n,t⟩
def FOK.put {lab:Int}{a k:Nat}{n:List UInt8}{g:Nat×Nat}(h:FOK T F lab a)(z:T[a]?=some (n,k))(C:(g.1=1/\k=2/\g.2<=1)\/(g.1=2/\k=3/\g.2=0)):FOK T (F++[(a,g)]) lab (a+1):=by
 refine⟨⟨fun f j=>?_,?_⟩,fun f j=>?_,by simp;have:=h.len;omega,h.l1,fun l E=>?_⟩
 ·rcases A1h.1 j with e|e
  ·exact h.feat.ok f e
  obtain rfl:=A12.1 e;refine⟨n,k,z,C,fun e=>?_⟩;have:=(h.l2 a e.symm).1;omega
 ·rw[A1i];refine A4p.2 ⟨h.feat.nodup,mV,fun x H y I=>?_⟩;obtain⟨f,j,rfl⟩:=A1b.1 H;have:=h.lt f j;simp at I;omega
 ·rcases A1h.1 j with e|e
  ·have:=h.lt f e;omega
  obtain rfl:=A12.1 e;show a<a+1;omega
 obtain⟨J,t⟩:=h.l2 l E;exact⟨oV,t⟩
def Aw6 {lab:Int}(hT:TOK T)(h:ROK u T.length R)(hF:FOK T F lab T.length)(h0:0<T.length)(g:0<R.length)(e:R.length<=6):Bl u T R F lab :=
 ⟨hT.att,h.rel hT.le e,hF.feat,h0,by have:=hT.le;omega,g,e,by have:=hF.len;have:=hT.le;omega,hF.l1,fun l j=>(hF.l2 l j).2⟩
def Acx (a:Option Addr)(c:Nat)(T:List (List UInt8×Nat)):Arr:=⟨.slice a T.length c,96,2,T.map D9⟩
def Zn (a:Option Addr)(c:Nat)(R:List Br):Arr:=⟨.slice a R.length c,98,2,R.map Hs⟩
def W3 (a:Option Addr)(c:Nat)(F:List Al):Arr:=⟨.slice a F.length c,100,3,F.map Cm⟩
def Agt (a:Option Addr)(c:Nat)(l:List Nat):Arr:=⟨.slice a l.length c,3,1,Ai l⟩
def Ath :(Acx a c T).At m0 m=Af m0 m (.slice a T.length c) 96 2 (T.map D9):=rfl
theorem Aj5 :(Zn a c R).At m0 m=Af m0 m (.slice a R.length c) 98 2 (R.map Hs):=rfl
def Acb :(W3 a c F).At m0 m=Af m0 m (.slice a F.length c) 100 3 (F.map Cm):=rfl
def Aca :(Agt a c l).At m0 m=Af m0 m (.slice a l.length c) 3 1 (Ai l):=rfl
def Ak2 (x:List UInt8×Nat):A9 2 [D9 x]:=by
 intro e g;simp at g;subst g;exact⟨rfl,fun y h=>by simp[D9,Value.cells]at h;rcases h with rfl|rfl<;>rfl⟩
def Sh (x:Br):A9 2 [Hs x]:=by
 intro e g;simp at g;subst g;exact⟨rfl,fun y h=>by simp[Hs,Value.cells]at h;rcases h with rfl|rfl<;>rfl⟩
def Kg (x:Al):A9 3 [Cm x]:=by
 intro e g;simp at g;subst g;exact⟨rfl,fun y h=>by simp[Cm,Value.cells]at h;rcases h with rfl|rfl|rfl<;>rfl⟩
end
section
variable {A T:List Nat}{i x:Nat}{listed:Array Bool}{o:Oper}{s0:S}
variable [Cl] [Co]
section
variable {P:Program} {id:Nat} {ops:Array Oper} {dr:Bool} {Fin:S->PH->PH->Prop} {c:Cx} {Q:Exit->Act->World->Prop}
def Ob.append {l2:List Nat}:∀ {e:List Nat} {s:S} {u m:PH},Ob P id ops dr (fun s u m=>Ob P id ops dr Fin l2 s u m) e s u m->Ob P id ops dr Fin (e++l2) s u m
 |[],s,u,m,h=>by
  cases h with
  |nil h=>exact h
 |i::e,s,u,m,h=>by
  cases h with
  |auto ho hg hd he hl=>exact .auto ho hg hd he hl.append
  |skip ho hg hd hl=>exact .skip ho hg hd hl.append
  |ask ho hg hd hv hs hal hw hl=>exact .ask ho hg hd hv hs hal hw hl.append
  |big ho hg hd hv hs hf hk hw hl=>exact .big ho hg hd hv hs hf hk hw fun v t n g j=>(hl v t n g j).append
def Ob.fin {e:S->PH->PH->Prop}(g:∀ s u m,Fin s u m->e s u m):∀ {l:List Nat} {s:S} {u m:PH},Ob P id ops dr Fin l s u m->Ob P id ops dr e l s u m
 |[],s,u,m,h=>by
  cases h with
  |nil h=>exact .nil (g _ _ _ h)
 |i::l1,s,u,m,h=>by
  cases h with
  |auto ho hg hd he hl=>exact .auto ho hg hd he (hl.fin g)
  |skip ho hg hd hl=>exact .skip ho hg hd (hl.fin g)
  |ask ho hg hd hv hs hal hw hl=>exact .ask ho hg hd hv hs hal hw (hl.fin g)
  |big ho hg hd hv hs hf' hk hw hl=>exact .big ho hg hd hv hs hf' hk hw fun v z t j n=>(hl v z t j n).fin g
structure Km (ops:Array Oper)(listed:Array Bool)(T:List Nat):Prop where
 sz:listed.size=ops.size
 mem:∀ i,i<ops.size->(listed.getD i true=false↔i∈T)
 lt:∀ i∈T,i<ops.size
 nd:T.Nodup
 cl:Ag7 ops listed
theorem Tz :i∈Region.ready .any ops listed↔i<ops.size/\listed.getD i true=false/\∃ o,ops[i]?=some o/\∀ e∈o.after,Region.binds .any e=true->listed.getD e.on false=true:=by
 simp only[Region.ready,A7a,A6q,A1m,A3w];refine and_congr_right fun hi=>and_congr_right fun _=>?_;have g:ops[i]?=some ops[i]:=A2v hi;rw[g];simp only[A4c,A4w,Bab];constructor
 ·grind
 grind
theorem Km.no (h:Km ops listed T)(j:x∈T):listed.getD x false=true->False:=by
 intro e;have g:=h.lt x j;have:=(h.mem x g).2 j;have n:x<listed.size:=by grind
 simp only[A2t,A2v n,A4w]at e this;rw[this]at e;cases e
theorem Km.next {A B:List Nat}(h:Km ops listed (A++i::B))(R:ops[i]?=some o)(K:∀ e∈o.after,Region.binds .any e=true->listed.getD e.on false=true):Km ops (listed.setIfInBounds i true) (A++B):=by
 obtain⟨I,hT,C,O,E⟩:=h;have t:(A++B).Nodup/\i∉A++B:=by grind
 refine⟨by simpa using I,fun j n=>?_,fun j n=>C j ?_,t.1,?_⟩
 ·by_cases g:j=i
  ·simp_all
  have:=hT j n;simp only[A2t,A2m (fun h=>g h.symm)]at this⊢;rw[this];simp[g]
 ·grind
 intro j n o' H e N L;have z:∀ k,listed.getD k false=true->(listed.setIfInBounds i true).getD k false=true:=by
  intro k J;by_cases F:k=i
  ·grind
  simp only[A2t,A2m (fun h=>F h.symm)]at J⊢;exact J
 by_cases g:j=i
 ·grind
 refine z _ (E j ?_ o' H e N L);simp only[A2t,A2m (fun h=>g h.symm)]at n⊢;exact n
def Km.swaps (h:Km ops listed T)(C:∀ x∈A,x∈T)(F:ops[i]?=some o)(t:∀ e∈o.after,Region.binds .any e=true->listed.getD e.on false=true)(E:∀ x∈A,Ge ops s0 x i=true):∀ x∈A,Aga ops s0 x i=true:=by
 intro x z;have hp:=E x z;unfold Ge at hp;simp only[A1m,A4b]at hp;have n:∀ o',ops[i]?=some o'->∀ e∈o'.after,Region.binds .any e=true->listed.getD e.on false=true:=fun o' j=>by rw[F]at j;obtain rfl:=A28 j;exact t
 rcases hp.2 with (g|g)|g
 ·exact (h.no (C x z) (Xi n g)).elim
 ·exact g
 exact (h.no (C x z) (Ib h.cl ops.size i n g)).elim
def Km.any {s0:S}(e:On s0)(j:(List.range ops.size).all (Kd ops)=true)(hF:∀ s u m ρ a w,Fin s u m->Rel c s u m ρ a w->Q .normal a w){n:Nat}{T:List Nat}{listed:Array Bool}{s:S}{u m:PH}{ρ:Nat->Nat}{a:Act}{w:World}(h:Km ops listed T)(C:T.length=n)
 (z:T.Pairwise (fun x y=>Ge ops s0 x y=true)) (g:Gb ops s0 s) (t:Ob P id ops true Fin T s u m) (E:Rel c s u m ρ a w):Go.wpAny P .any ops Q n listed a w :=
 Ob.wpAny e j hF n T listed C h.sz h.mem h.lt h.nd h.cl z g t E
def Km.perm {T e:List Nat}(h:Km ops listed T)(hp:T.Perm e):Km ops listed e :=
 ⟨h.sz,fun i hi=>(h.mem i hi).trans hp.mem_iff,fun i hi=>h.lt i (hp.mem_iff.2 hi),hp.nodup_iff.1 h.nd,h.cl⟩
theorem Km.first {t:Nat}(h:Km ops listed (t::T))(z:(List.range ops.size).all (Kd ops)=true)(J:∀ x∈T,dir ops t x=false):t∈Region.ready .any ops listed:=by
 have hp:=h.lt t mV;refine Tz.2 ⟨hp,(h.mem t hp).2 mV,ops[t],A2v hp,fun e F C=>?_⟩;rw[A1o]at z;have g:=z t (by simpa using hp);unfold Kd at g;rw[A2v hp]at g;simp only[A1o]at g;have:=g e (by simpa using F);simp only[C,A72,A80,A1m]at this;have j:e.on<ops.size:=A8f▸this.1;have I:e.on≠t:=fun h=>by rw[h]at this;simp at this
 have E:dir ops t e.on=true:=by
  unfold dir;rw[A2v hp];simp only[A5h,A1m];exact⟨e,by simpa using F,C,mV⟩
 cases hl:listed.getD e.on true with
 |true =>
  have H:e.on<listed.size:=by have:=h.sz;omega
  simp only[A2t,A2v H]at hl⊢;exact hl
 |false =>
  have n:=(h.mem e.on j).1 hl;rcases A1g.1 n with n|n
  ·grind
  grind
def Gq {x y:Nat}(h:Ge ops s0 x y=true):dir ops x y=false:=by
 unfold Ge at h;simp only[A1m,A3w]at h;exact h.1.1
theorem Ob.wpAny2 (H:On s0)(hE:(List.range ops.size).all (Kd ops)=true)(hF:∀ s u m ρ a w,Fin s u m->Rel c s u m ρ a w->Q .normal a w){p q:Nat}{e:List Nat}(U:∀ y∈e,bef ops ops.size y p=true)(a0:dir ops p q=false) :
 ∀ (n:Nat) (pre:List Nat) (listed:Array Bool) {s:S} {u m:PH} {ρ:Nat->Nat} {a:Act} {w:World},pre.length+(e.length+2)=n->Km ops listed (pre++p::q::e) ->
  (pre++p::e).Pairwise (fun x y=>Ge ops s0 x y=true)->(pre++q::e).Pairwise (fun x y=>Ge ops s0 x y=true)->Gb ops s0 s ->
  Ob P id ops true (fun s u m=>Ob P id ops true Fin (p::q::e) s u m/\Ob P id ops true Fin (q::p::e) s u m) pre s u m->Rel c s u m ρ a w->Go.wpAny P .any ops Q n listed a w:=by
 intro n;induction n with
 |zero=>intro pre listed s u m ρ a w L;omega
 |succ n ih =>
  intro pre listed s u m ρ a w L g E O F hO V;refine⟨fun N=>?_,fun i hi=>?_⟩
  ·exfalso;cases pre with
   |nil =>
    have:=g.first hE fun x C=>by
     rcases A1g.1 C with rfl|C
     ·exact a0
     exact Gq (A34 E C)
    rw[N]at this;cases this
   |cons t T' =>
    have:=Km.first (t:=t) (T:=T'++p::q::e) g hE fun x C=>by
     simp only[A1h,A1g]at C;rcases C with C|rfl|rfl|C
     ·exact Gq (A34 E (by simp[C]))
     ·exact Gq (A34 E mV)
     ·exact Gq (A34 O mV)
     exact Gq (A34 E (by simp[C]))
    rw[N]at this;cases this
  obtain⟨h1,h2,o,R,z⟩:=Tz.1 hi;have K:=(g.mem i h1).1 h2;simp only[A1h,A1g]at K;rcases K with K|K|K|K
  ·obtain⟨A,B,rfl⟩:=A6k K;have j:Km ops listed (A++i::(B++p::q::e)):=by grind
   have W:(A++i::(B++p::e)).Pairwise (fun x y=>Ge ops s0 x y=true):=by grind
   have J:=j.swaps (A:=A) (s0:=s0) (fun x C=>by simp[C]) R z fun x C=>(A35.1 W).2.2 x C i mV;have I:=Ob.bubble H A J V.lv F hO;refine wpOp_mono (fun a' w' ⟨s',u',m',ρ',Y,ra,Z⟩=>?_) (I.step (Q:=Q) V);refine ih (A++B) _ (by simp at L⊢;omega) (by rw[A2k];exact j.next R z) ?_ ?_ (F.trans ra) Z Y
   ·grind
   grind
  ·subst K;have J:=g.swaps (A:=pre) (s0:=s0) (fun x C=>by simp[C]) R z fun x C=>(A35.1 E).2.2 x C i mV;have I:=Ob.bubble H pre J V.lv F (Ob.append (l2:=i::q::e) (hO.fin fun s u m h=>h.1));refine wpOp_mono (fun a' w' ⟨s',u',m',ρ',Y,ra,Z⟩=>?_) (I.step (Q:=Q) V);exact (g.next R z).any H hE hF gV O (F.trans ra) Z Y
  ·subst K;have j:Km ops listed (pre++i::p::e):=g.perm ((List.Perm.swap i p e).append_left pre);have J:=j.swaps (A:=pre) (s0:=s0) (fun x C=>by simp[C]) R z fun x C=>(A35.1 O).2.2 x C i mV;have I:=Ob.bubble H pre J V.lv F (Ob.append (l2:=i::p::e) (hO.fin fun s u m h=>h.2));refine wpOp_mono (fun a' w' ⟨s',u',m',ρ',Y,ra,Z⟩=>?_) (I.step (Q:=Q) V);exact (j.next R z).any H hE hF gV E (F.trans ra) Z Y
  exfalso;exact g.no (x:=p) mV (Ib g.cl ops.size i (fun o' X=>by rw[R]at X;obtain rfl:=A28 X;exact z) (U i K))
def Ru (P:Program)(id:Nat)(ops:Array Oper):List Nat->S->Option S
 |[],s=>some s
 |i::l,s=>match ops[i]? with
  |some o=>match Fb s o with
   |true=>match gv s ops o with
    |some true=>match eff P (id*1000+i) s o.op with
     |some (x,hw)=>Ru P id ops l ((s.put o.dst x).setb hw)
     |none=>none
    |some false=>Ru P id ops l (s.put o.dst (.v undef))
    |none=>none
   |false=>none
  |none=>none
def Ob.autos:∀ {l:List Nat} {s e:S} {u m:PH},Ru P id ops l s=some e->Fin e u m->Ob P id ops dr Fin l s u m
 |[],s,e,u,m,h,hf=>by
  unfold Ru at h;cases h;exact .nil hf
 |i::l,s,e,u,m,h,hf=>by
  unfold Ru at h;split at h
  ·rename_i o ho;split at h
   ·rename_i hd;split at h
    ·rename_i hg;split at h
     ·rename_i x hw he;exact .auto ho hg hd he (Ob.autos h hf)
     cases h
    ·rename_i hg;exact .skip ho hg hd (Ob.autos h hf)
    cases h
   cases h
  cases h
def Aqn (ops:Array Oper)(s:S)(pre:List Nat)(p q:Nat)(post:List Nat):Bool :=
 Nat.beq (pre.length+(post.length+2)) ops.size&&(List.range ops.size).all (fun i=>(pre++p::q::post).contains i)&&(pre++p::q::post).all (fun i=>Nat.blt i ops.size)&&Qp ops s (pre++p::post)&&Qp ops s (pre++q::post) &&
  (List.range ops.size).all (Kd ops)&&post.all (fun y=>bef ops ops.size y p) && !dir ops p q && !Nat.beq p q
end
section
variable {P:Program} {fn:Func} {Post:Ce}
def Nr {ops:Array Oper}{s:S}(h:T.Pairwise (fun x y=>Ge ops s x y=true)):T.Nodup:=by
 refine h.imp fun {x y} hxy e=>?_;unfold Ge at hxy;subst e;simp at hxy
theorem Sym.reg_two (V:P.follows .mixedOrders=true){id:Nat}{ops:Array Oper}{pre g:List Nat}{p q:Nat}{s:S}(t:Aqn ops s pre p q g=true){k:List KI}{u m:PH}
 (h:Ob P id ops true (fun s u m=>Ob P id ops true (Hm P fn Post k) (p::q::g) s u m/\Ob P id ops true (Hm P fn Post k) (q::p::g) s u m) pre s u m):Hm P fn Post (.code (.region id ops true)::k) s u m:=by
 intro c ρ a w z j;unfold Aqn at t;simp only[A1m,A3w]at t;obtain⟨⟨⟨⟨⟨⟨⟨⟨n,J⟩,F⟩,K⟩,L⟩,N⟩,H⟩,O⟩,I⟩:=t;have n:=A1y n;rw[A1o]at J F H;have C:=G0 K;have E:=G0 L;have n1:=Nr C;have n2:=Nr E;have W:p≠q:=fun e=>by rw[e]at I;simp at I
 refine wp_region_any V ?_;refine Ob.wpAny2 (c:=c) j.lv N (fun s u m ρ a w R j=>R c ρ a w z j) H O _ pre _ n ⟨mV,fun i hi=>?_,fun i hi=>A8f▸F i hi,?_,fun i hi=>?_⟩ C E (Gb.refl _ _) h j.drew
 ·simp_all
 ·grind
 simp only[A2t]at hi;by_cases U:i<ops.size
 ·grind
 grind
def Aw2 (P:Program)(pre:List Nat)(p q:Nat)(post:List Nat)(st:List KI×S):Bool:=match st with
 |(.code (.region id ops true)::k,s)=>Aqn ops s pre p q post&&(Ru P id ops pre s).isSome
 |_=>false
def Akz (P:Program)(pre l:List Nat)(st:List KI×S):List KI×S:=match st with
 |(.code (.region id ops true)::k,s)=>match Ru P id ops pre s with
  |some s'=>(.reg id ops true l::k,s')
  |none=>st
 |_=>st
end
section rules
variable {P:Program} [A6 P] {fn:Func} {Post:Ce} {st:List KI×S} {u m:PH}
def G.both (pre:List Nat)(p q:Nat)(g:List Nat)(h:Aw2 P pre p q g (adv P st)=true)(n:G P fn Post (Akz P pre (p::q::g) (adv P st)) u m)(t:G P fn Post (Akz P pre (q::p::g) (adv P st)) u m):G P fn Post st u m:=by
 refine G.stp ⟨?_⟩;generalize adv P st=st' at h n t;unfold Aw2 at h;split at h
 ·rename_i id ops k s;rw[A1m]at h;obtain⟨z,C⟩:=h;obtain⟨E,j⟩:=A6a.1 C;have e:∀ l,Akz P pre l (.code (.region id ops true)::k,s)=(.reg id ops true l::k,E):=fun l=>by unfold Akz;simp only[j]
  rw[e]at n t;exact Sym.reg_two A6.mx z (Ob.autos j ⟨n.out,t.out⟩)
 cases h
end rules
end
section
variable {a:Act}{i:Nat}{o:Oper}{s:S}{w w':World}
structure Aoh (F:Fence):Prop where
 fn:∀ f,F.fn f
 dep:F.depth.isSome=false
 calls:∀ {P:Program} {f:FuncId} {args:Array Value} {w:World} {R:Ending->World->Prop},Calls P f args w R->CallsIn F 0 P f args w R
def Tf:Aoh Fence.wide:=⟨fun _=>trivial,rfl,fun h=>callsIn_wide.2 h⟩
def Aju (l:Nat):Aoh (Fence.wide.inRound l):=⟨fun _=>trivial,rfl,fun h=>(callsIn_wide (n:=0)).2 h⟩
def Ak1:Op->Bool
 |.defer _=>true
 |_=>false
def M3 (ops:Array Oper):Bool:=ops.toList.all fun o=>!Ak1 o.op
def Mo {ops:Array Oper}(h:M3 ops=true)(g:ops[i]?=some o):∀ c,o.op≠.defer c:=fun c e=>by
 unfold M3 at h;rw[A1o]at h;have:=h o (Array.mem_toList_iff.2 (Array.mem_of_getElem? g));rw[e]at this;simp[Ak1]at this
section
variable {P:Program} {id:Nat} {ops:Array Oper} {dr:Bool} {Fin:S->PH->PH->Prop} {c:Cx} {Q:Exit->Act->World->Prop} {F:Fence}
def Aas {y:Value}{K:Act->World->Prop}(hF:Aoh F)(g:∀ c,o.op≠.defer c)(h:Ay2 P a o w y w')(e:K (a.put o.dst y) w'):o.wpIn F 0 P a w K Q:=by
 refine⟨fun f _=>hF.fn f,?_⟩;rw[Oper.semAt_plain F _ _ g];rcases h with h|⟨h,rfl⟩<;>rw[h]<;>exact e
theorem Aoy {a:Act}{o:Oper}{w:World}{s:S}{u m:PH}{ρ:Nat->Nat}{K:Value->World->Prop}{j:Act->World->Prop}(hF:Aoh F)(C:∀ c,o.op≠.defer c)(E:Rel c s u m ρ a w)(I:Kl s o.op=true)(H:Ix o.op=true)
 (h:Eg P (C2 s) o w K) (g:∀ v w',K v w'->j (a.put o.dst v) w'):o.wpIn F 0 P a w j Q:=by
 refine⟨fun f _=>hF.fn f,?_⟩;rw[Oper.semAt_plain F _ _ C,Hw E (Gv H) I];unfold Eg at h;split at h
 ·rename_i v w' e;rw[e];exact g _ _ h
 ·rename_i w' e;rw[e];exact g _ _ h
 ·rename_i f args w' e;rw[e];refine⟨fun n=>(by rw[hF.dep]at n;cases n),hF.calls (Calls.mono h fun L J z=>?_)⟩;obtain⟨v,rfl,t⟩:=z;exact g _ _ t
 grind
def Rel.after {u m t j:PH}{ρ:Nat->Nat}(h:Rel c s u m ρ a w)(g1:Bv t j w')(g2:B0 u m w t j w'){d:Option Nat}(K:∀ e,d=some e->e<s.n)(v:Value):Rel c (s.put d (.v v)) t j ρ (a.put d v) w':=by
 refine Rel.put (x:=.v v) ?_ (fun _=>rfl) mV K;refine⟨h.sz,h.tm,h.df.of fun r e _ L E=>⟨by rw[g2.old _ (Aw e) E];exact e,by rw[g2.us _ (Aw e)];exact L,g2.ms _ (Aw e) E⟩,fun k b J=>?_,h.inj,h.lv,g1,h.gr.trans g2⟩;obtain⟨z,H,I,C⟩:=h.box k b J;have g:ρ k<w.heap.size:=by obtain⟨cs,e,_⟩:=z;exact Aw e
 refine⟨?_,H,?_,?_⟩
 ·rw[g2.old _ g C];exact z
 ·rw[g2.us _ g];exact I
 exact g2.ms _ g C
def Ob.wpOpsIn (hF:Aoh F)(g:M3 ops=true){rest:List Nat}(e:∀ s u m ρ a w,Fin s u m->Rel c s u m ρ a w->Go.wpOpsIn F 0 P ops Q rest a w) :
 ∀ {l:List Nat} {s:S} {u m:PH} {ρ:Nat->Nat} {a:Act} {w:World},Ob P id ops dr Fin l s u m->Rel c s u m ρ a w->Go.wpOpsIn F 0 P ops Q (l++rest) a w
 |[],s,u,m,ρ,a,w,h,hr=>by
  cases h with
  |nil h=>exact e _ _ _ _ _ _ h hr
 |i::l,s,u,m,ρ,a,w,h,hr=>by
  rw[A4x,wpOpsIn_cons];cases h with
  |auto ho hg hd he hl =>
   simp only[wpOpIn,ho,Ey hr hg,if_true];obtain⟨E,w',y,n,t⟩:=Aav (P:=P) hr he (Lg hd);exact Aas hF (Mo g ho) n (Ob.wpOpsIn hF g e hl t)
  |skip ho hg hd hl =>
   simp only[wpOpIn,ho,Ey hr hg,if_false,A4z];exact⟨fun f _=>hF.fn f,Ob.wpOpsIn hF g e hl (hr.put (x:=.v undef) (fun _=>rfl) mV (Lg hd))⟩
  |ask ho hg hd hv hs hal hw hl =>
   simp only[wpOpIn,ho,Ey hr hg,if_true];refine Aas hF (Mo g ho) (.inl ?_) (Ob.wpOpsIn hF g e hl (hr.put (fun _=>rfl) mV (Lg hd)));rw[Hw hr (Gv hs) hv];exact hw w (fun _=>⟨hr.gd.pu,fun _=>hr.gd.pm⟩)
  |big ho hg hd hv hs hf hk hw hl =>
   simp only[wpOpIn,ho,Ey hr hg,if_true];refine Aoy hF (Mo g ho) hr hv hs (hw w hr.gd) fun v w' ⟨C,z,g1,g2,j⟩=>?_;exact Ob.wpOpsIn hF g e (hl v C z (g2.le hr.gd.pu) j) (hr.after g1 g2 (Lg hd) v)
end
def yv (s:S)(ops:Array Oper)(i:Nat):Option (Nat×List Value):=match ops[i]? with
 |some o=>match Fb s o&&(Kl s o.op&&Ix o.op) with
  |true=>match gv s ops o with
   |some true=>match o.op with
    |.call c=>match c.callee with
     |.value f=>match C2 s f with
      |.func (.yield l) first cap=>some (l,first.toList++c.args.toList.map (C2 s))
      |_=>none
     |_=>none
    |_=>none
   |_=>none
  |false=>none
 |none=>none
def ysk (s:S)(ops:Array Oper)(i:Nat):Bool:=match ops[i]? with
 |some o=>match Fb s o with
  |true=>match gv s ops o with
   |some false=>true
   |_=>false
  |false=>false
 |none=>false
def Acq (P:Program)(l:Nat)(args:List Value)(u m:PH)(K:Value->PH->PH->Prop):Prop :=
 ∀ w,Bv u m w->YieldAt Fence.wide 0 P l args.toArray w fun e w'=>∃ v u' m',e=.returned v/\Bv u' m' w'/\B0 u m w u' m' w'/\K v u' m'
theorem Ate {ops:Array Oper}{i l:Nat}{args:List Value}(h:yv s ops i=some (l,args)):∃ o,ops[i]?=some o/\gv s ops o=some true/\Fb s o=true/\Kl s o.op=true/\Ix o.op=true /\
 ∀ (P:Program) (w:World),(execOp (C2 s) o).run P w=(Instr.yield l args.toArray).run P w:=by
 unfold yv at h;split at h
 ·rename_i o ho;split at h
  ·rename_i hc;simp only[A1m]at hc;split at h
   ·rename_i hg;split at h
    ·rename_i c hop;split at h
     ·rename_i f hcal;split at h
      ·rename_i l' first cap he
       obtain⟨rfl,rfl⟩:=h;refine⟨o,ho,hg,hc.1,hc.2.1,hc.2.2,fun P w=>?_⟩;obtain⟨j,t,g,pos,after,e⟩:=o;simp only at hop;subst hop;have n:(first.toList++c.args.toList.map (C2 s)).toArray=first++c.args.map (C2 s):=by grind
       rw[n];simp[execOp,resolve,hcal,he,Deferred.ofValue,invoke]
      cases h
     cases h
    cases h
   cases h
  cases h
 cases h
theorem Arg {ops:Array Oper}(h:ysk s ops i=true):∃ o,ops[i]?=some o/\gv s ops o=some false/\Fb s o=true:=by
 unfold ysk at h;split at h
 ·grind
 cases h
def yB (pre:List Nat)(i:Nat)(post:List Nat)(st:List KI×S):Bool:=match st.1 with
 |.code (.region _ ops false)::_=>Nat.beq ops.size (pre.length+1+post.length)&&(List.range ops.size).zipIdx.all (fun x=>(pre++i::post)[x.2]? == some x.1)&&M3 ops
 |_=>false
def Azg (st:List KI×S):Array Oper:=match st.1 with
 |.code (.region _ ops false)::_=>ops
 |_=>#[]
def yS (pre:List Nat)(J:S->PH->PH->Prop)(st:List KI×S):List KI×S:=match st.1 with
 |.code (.region id ops false)::k=>(.reg id ops false pre::.lp J::k,st.2)
 |_=>st
def Alw (i:Nat)(post:List Nat)(st:List KI×S)(s:S)(v:Value):List KI×S:=match st.1 with
 |.code (.region id ops false)::k=>match ops[i]? with
  |some o=>(.reg id ops false post::k,s.put o.dst (.v v))
  |none=>st
 |_=>st
section rules
variable {P:Program} [A6 P] {fn:Func} {Post:Ce} {st:List KI×S} {u m:PH}
def G.yreg (pre:List Nat)(i:Nat)(g:List Nat)(h:yB pre i g (Ff P 200 st)=true)
 (kk:∀ J:S->PH->PH->Prop,
  (∀ z I L,ysk z (Azg (Ff P 200 st)) i=true->G P fn Post (Alw i g (Ff P 200 st) z undef) I L->J z I L) ->
  (∀ z I L l args (K:Value->PH->PH->Prop),yv z (Azg (Ff P 200 st)) i=some (l,args)->Acq P l args I L K->(∀ v t E,PH.le I t->K v t E->G P fn Post (Alw i g (Ff P 200 st) z v) t E)->J z I L) ->
  G P fn Post (yS pre J (Ff P 200 st)) u m):G P fn Post st u m:=by
 refine⟨Mq 200 st ?_⟩;generalize Ff P 200 st=st' at h kk;obtain⟨ks,s⟩:=st';unfold yB at h;simp only at h;split at h
 ·rename_i id ops k;simp only[A1m]at h;obtain⟨⟨Y,V⟩,N⟩:=h;have hl:List.range ops.size=pre++i::g:=by
   refine A4g fun j=>?_;rw[A1o]at V;by_cases hj:j<ops.size
   ·have:=V (j,j) (by
     refine A1k (i:=j) ?_;rw[A92];simp[hj])
    simp only[beq_iff_eq]at this;rw[this];simp[hj]
   have O:=A1y Y;rw[A1v gV,A1v gV]
  intro c ρ a w U hr;refine (wpIn_wide (n:=0)).1 (wpIn_region ?_);rw[hl];have a0:=(kk (fun z I L=>(∃ o,ops[i]?=some o/\gv z ops o=some false/\Fb z o=true/\Ob P id ops false (Hm P fn Post k) g (z.put o.dst (.v undef)) I L) \/
   ∃ (o:Oper) (l:Nat) (args:List Value) (K:Value->PH->PH->Prop),ops[i]?=some o/\gv z ops o=some true/\Fb z o=true/\Kl z o.op=true/\Ix o.op=true/\(∀ (P:Program) (w:World),(execOp (C2 z) o).run P w=(Instr.yield l args.toArray).run P w)/\Acq P l args I L K /\
    ∀ v t E,PH.le I t->K v t E->Ob P id ops false (Hm P fn Post k) g (z.put o.dst (.v v)) t E)
   (fun z I L hs hg=>by
    obtain⟨o,H,O,R⟩:=Arg hs;have H:ops[i]?=some o:=H;have:=hg.out;simp only[Alw]at this;rw[H]at this;exact .inl ⟨o,H,O,R,this⟩)
   (fun z I L l args K hy hc hg=>by
    obtain⟨o,H,O,R,T,W,X⟩:=Ate hy;have H:ops[i]?=some o:=H;refine .inr ⟨o,l,args,K,H,O,R,T,W,X,hc,fun v t E Y V=>?_⟩;have:=(hg v t E Y V).out;simp only[Alw]at this;rw[H]at this;exact this)).out
  refine Ob.wpOpsIn Tf N (fun s1 u1 m1 ρ1 a1 w1 Z a2=>?_) a0 hr;obtain⟨s2,u2,m2,ρ2,C,hJ⟩:=Z c ρ1 a1 w1 U a2;rw[wpOpsIn_cons];have fin:∀ (s u m ρ a w),Hm P fn Post k s u m->Rel c s u m ρ a w->Go.wpOpsIn Fence.wide 0 P ops (It P fn Post c k) [] a w:=fun s u m ρ a w Z hr=>Z c ρ a w U hr;rcases hJ with ⟨o,H,O,R,T⟩|⟨o,l,args,K,H,O,R,T,W,X,e6,e7⟩
  ·simp only[wpOpIn,H,Ey C O,if_false,A4z];refine⟨fun f _=>trivial,?_⟩;have:=Ob.wpOpsIn Tf N fin T (C.put (x:=.v undef) (fun _=>rfl) mV (Lg R));rwa[A1x]at this
  simp only[wpOpIn,H,Ey C O,if_true];refine⟨fun f _=>trivial,?_⟩;rw[Oper.semAt_plain _ _ _ (Mo N H),Hw C (Gv W) T,X];obtain⟨a3,tmps,assign,body,hy,hR⟩:=e6 w1 C.gd;rw[hy];refine⟨fun hh=>(by cases hh),hR.mono fun e w' he=>?_⟩;obtain⟨v,I,L,rfl,g1,g2,g3⟩:=he;have:=Ob.wpOpsIn Tf N fin (e7 v I L (g2.le C.gd.pu) g3) (C.after g1 g2 (Lg R) v);rwa[A1x]at this
 cases h
def Az8 {F:Fence}(hF:Aoh F){id:Nat}{ops:Array Oper}(g:M3 ops=true){J:S->PH->PH->Prop}{s:S}{c:Cx}{ρ:Nat->Nat}{a:Act}{w:World}{Q:Exit->Act->World->Prop}
 (h:G P fn Post ([.reg id ops false (List.range ops.size),.lp J],s) u m) (E:Rel c s u m ρ a w) (e:c.m0=Post.m0) (z:∀ s u m ρ a w,Rel c s u m ρ a w->J s u m->Q .normal a w):(Code.region id ops false).wpIn F 0 P Q a w:=by
 refine wpIn_region ?_;have:=Ob.wpOpsIn (rest:=[]) hF g (Q:=Q) (fun N R K I a1 H C j=>by
  obtain⟨O,T,L,U,n,t⟩:=C c I a1 H e j;exact z _ _ _ _ _ _ n t) h.out E
 rwa[A1x]at this
end rules
def S.ofT (n:Nat)(T:List (Nat×Value)):S:={ n:=n,tm:=fun d=>match T.find? (fun x=>Nat.beq x.1 d) with|some x=>.v x.2|none=>.junk,hp:=fun _=>none }
theorem Rel.start {u m:PH}(h:Bv u m w){tmps:Array Value}{T:List (Nat×Value)}(hT:∀ x∈T,tmps[x.1]?=some x.2):Rel ⟨w,u,m⟩ (S.ofT tmps.size T) u m (fun _=>0) { tmps:=tmps,defers:=[] } w:=by
 refine⟨rfl,fun d g=>?_,Agv.nil _ _ _ _,fun k b n=>(by cases n),fun k j t=>absurd rfl t,⟨fun d k off g=>?_,fun j b k off n=>(by cases n)⟩,h,⟨A08 _,fun _ _ _=>rfl,fun _ _=>rfl,fun _ _ h=>h,⟨rfl,rfl⟩,fun _=>⟨rfl,A08 _⟩⟩⟩
 ·unfold S.ofT at g⊢;simp only at g⊢;split
  ·rename_i x hx;have:=hT x (List.mem_of_find?_eq_some hx);have e:=List.find?_some hx;rw[<-A1y e];exact this
  grind
 unfold S.ofT at g;simp only at g;split at g<;>cases g
def Bv.putO {u m:PH}(h:Bv u m w){g:Nat}{o o':Obj}(e:m g=some o)(j:Q9 o'=true):Bv u (m.upd g o') (w.putObj g o')/\B0 u m w u (m.upd g o') (w.putObj g o'):=by
 have:=h.setO e j;rwa[show Ta w g o'=w.putObj g o' from rfl]at this
end
def ElP.sub {u:PH}{b off:Nat}{e x:Value}{k:Nat}(h:ElP u b off e)(m:∀ i y,x.cells[i]?=some y->e.cells[k+i]?=some y):ElP u b (off+k) x:=fun i y n=>by
 obtain⟨cs,t,fr,g,j⟩:=h (k+i) y (m i y n);exact⟨cs,t,fr,g,by rw[A3p];exact j⟩
def Acq.mono {P:Program}{l:Nat}{args:List Value}{u m:PH}{K n:Value->PH->PH->Prop}(h:Acq P l args u m K)(J:∀ v j g,K v j g->n v j g):Acq P l args u m n:=fun w I=>by
 obtain⟨fn,tmps,assign,body,F,H⟩:=h w I;exact⟨fn,tmps,assign,body,F,RoundIn.mono H fun e w' ⟨v,j,g,t,z,C,E⟩=>⟨v,j,g,t,z,C,J _ _ _ E⟩⟩
def Bcw {u m:PH}{l b1 b2:Nat}{v tv:Value}{T:List (List UInt8×Nat)}{R:List Br}{F:List Al}{lab:Int}{ss:List (List UInt8)}(h:Mv u v tv T R F lab ss)(a6:ElP u b1 0 v)(Z:ElP u b2 0 tv)(J:List (Par×Rat)->PH->PH->Prop)(D:PH->PH->Prop)
 (a7:∀ L z V E,PH.le z V->J L z E->J L V E)
 (hY:∀ (i:Nat) (x:Par×Rat) z E,i<F.length->PH.le u z->J (Dx F ss i) z E->x∈Dx F ss F.length->x.1.1=(i:Int)->Acq prog l [Ap x.1,.string (mkS (Ae x.2))] z E fun r V a4=>r=.bool true/\J (Dx F ss i++[x]) V a4\/r=.bool false/\D V a4)
 (h0:J [] u m):Ag prog 251 [.func (.yield l) #[] #[],.pointer (some ⟨b1,0,none⟩),.pointer (some ⟨b2,0,none⟩)] u m fun _ z E=>J (Dx F ss F.length) z E\/D z E:=by
 obtain⟨⟨xa,xc,xb,xd,xe,xf,rfl,a9,a8,a5⟩,ok,hS,hT⟩:=h;obtain⟨ya,yc,rfl⟩:=hS.opn;rw[A03]at hS Z;have aa:=ok.f2;have I:=ok.feat;have e2:ElP u b1 (0+2) (.slice xe F.length xf):=a6.sub (k:=2) fun i y P=>by
  match i,P with
  |0,P=>simpa[Value.cells] using P
  |i+1,P=>simp[Value.cells]at P
 refine Ag.o func251<|G.f 30 b1 0 2 2<|G.lU none b1 (0+2) (.slice xe F.length xf) e2<|G.l (ι:=Nat) (fun i=>[(0,.v (.func (.yield l) #[] #[])),(2,.v (.pointer (some ⟨b2,0,none⟩))),(9,sV xe F.length xf),(10,iV F.length),(11,iV i)]) (fun _=>[])
  (fun i z E=>i<=F.length/\J (Dx F ss i) z E) (fun i=>F.length-i) 0 ⟨oV,h0⟩ ?_
 rintro Jl i hJ u1 m1 Y ⟨hi,n⟩;by_cases N:i<F.length
 ·refine G.lT i F.length ?_;have W:F[i]?=some F[i]:=A01 N;have a0:=A09 N;have K:=Vz I hT a0;have t:=Aab (ss:=ss) W;have C:=fun h2 h0=>S3 I hT a0 h2 h0;have a3:∀ x,Jf ss i F[i]=some x->x∈Dx F ss F.length:=fun x hx=>F9.2 ⟨i,F[i],N,W,hx⟩;obtain⟨fb,fo,rfl,ef⟩:=Ac.at' (a5.mono Y) (j:=i) (e:=Cm F[i]) (by simp[W]);have step:=fun (x:Par×Rat) (hx:Jf ss i F[i]=some x) (z E:PH) (hl:PH.le u1 z) (hj:J (Dx F ss i) z E)=>hY i x z E N (Y.trans hl) hj (a3 x hx) (Ow hx);have U:Jf ss i F[i]=none->Dx F ss (i+1)=Dx F ss i:=fun e=>by rw[t,e];simp
  have H:∀ x,Jf ss i F[i]=some x->Dx F ss (i+1)=Dx F ss i++[x]:=fun x e=>by rw[t,e];simp
  clear t a3;generalize F[i]=f at W a0 K C ef step U H;obtain⟨f1,f2,f3⟩:=f;simp only at K C;refine G.a fb fo F.length xf i 3 N<|G.lU (some 3) fb (fo+i*3) (.agg #[.int .i64 f1,.int .i64 f2,.int .i64 f3]) ef<|G.lU none b2 0 (.slice ya ss.length yc) (Z.mono Y) ?_;obtain⟨b,off,rfl,e⟩:=M5 (hS.mono Y) K;refine G.a b off ss.length yc f1 1 K<|G.lU none b (off+f1*1) (.string (mkS (ss.getD f1 []))) e ?_;by_cases a1:f2=2
  ·subst a1;have hv:Jf ss i (f1,2,f3)=some (((i:Int),ss.getD f1 []),1):=by unfold Jf;rw[if_pos rfl]
   refine G.eT (2:Nat) 2<|G.lU none b2 0 (.slice (some ⟨b,off,none⟩) ss.length yc) (Z.mono Y)<|G.a b off ss.length yc f1 1 K<|G.lU none b (off+f1*1) (.string (mkS (ss.getD f1 []))) e<|G.yreg [0,1,2,3,4,5,6,7,8,9] 10 [11,12] kV ?_;intro Jy O Q;refine G.x [49] [] mV<|G.x [49] [48] mV ?_;have P:=step _ hv u1 m1 (PH.le_refl _) n;rw[Sv]at P;refine G.b (Q _ _ _ l _ _ kV P ?_);rintro v2 u2 m2 l2 (⟨rfl,hJ2⟩|⟨rfl,hD2⟩)
   case inr=>exact G.r (.tuple #[]) (.inr hD2)
   rw[<-H _ hv]at hJ2;exact G.i i<|G.b (hJ (i+1) _ _ _ cV (Y.trans l2) ⟨oV,hJ2⟩ oV)
  refine G.eF f2 2 ?_;have g:Jf ss i (f1,f2,f3)=if ss.getD f1 [] = []\/ss.getD f1 [] = [48] then none else some (((i:Int),[]),Lk (ss.getD f1 [])):=by unfold Jf;rw[if_neg a1]
  have C:=C a1;generalize ss.getD f1 []=w at g C e;by_cases X:w = []
  ·subst X;rw[if_pos (.inl rfl)]at g;refine G.yreg [0,1,2,3,4,5,6,7,8,9] 10 [11,12] kV ?_;intro Jy O Q;refine G.y [] [] rfl<|G.b (O _ _ _ kV ?_);rw[<-U g]at n;exact G.i i<|G.b (hJ (i+1) _ _ _ cV Y ⟨oV,n⟩ oV)
  by_cases a2:w = [48]
  ·subst a2;rw[if_pos (.inr rfl)]at g;refine G.yreg [0,1,2,3,4,5,6,7,8,9] 10 [11,12] kV ?_;intro Jy O Q;refine G.x [48] [] mV<|G.y [48] [48] rfl<|G.b (O _ _ _ kV ?_);rw[<-U g]at n;exact G.i i<|G.b (hJ (i+1) _ _ _ cV Y ⟨oV,n⟩ oV)
  rw[if_neg (fun e=>e.elim X a2)]at g;refine G.yreg [0,1,2,3,4,5,6,7,8,9] 10 [11,12] kV ?_;intro Jy O Q;refine G.x w [] X<|G.x w [48] a2 ?_;have P:=step _ g u1 m1 (PH.le_refl _) n;rw[(C X).2]at P;refine G.b (Q _ _ _ l _ _ kV P ?_);rintro v2 u2 m2 l2 (⟨rfl,hJ2⟩|⟨rfl,hD2⟩)
  case inr=>exact G.r (.tuple #[]) (.inr hD2)
  rw[<-H _ g]at hJ2;exact G.i i<|G.b (hJ (i+1) _ _ _ cV (Y.trans l2) ⟨oV,hJ2⟩ oV)
 obtain rfl:i=F.length:=oV;exact G.lF F.length F.length<|G.r (.tuple #[]) (.inl n)
def Arp {u m:PH}{l H I:Nat}{v K:Value}{T:List (List UInt8×Nat)}{R:List Br}{F:List Al}{lab:Int}{ss:List (List UInt8)}(h:Mv u v K T R F lab ss)(z:ElP u H 0 v)(C:ElP u I 0 K)(J:List (Par×Rat)->PH->PH->Prop)
 (t:∀ L g n j,PH.le g n->J L g j->J L n j)
 (Z:∀ (i:Nat) (x:Par×Rat) g j,i<F.length->PH.le u g->J (Dx F ss i) g j->x∈Dx F ss F.length->x.1.1=(i:Int)->Acq prog l [Ap x.1,.string (mkS (Ae x.2))] g j fun r n E=>r=.bool true/\J (Dx F ss i++[x]) n E)
 (h0:J [] u m):Ag prog 251 [.func (.yield l) #[] #[],.pointer (some ⟨H,0,none⟩),.pointer (some ⟨I,0,none⟩)] u m fun _ g j=>J (Dx F ss F.length) g j:=fun w hg =>
 Calls.mono (Bcw h z C J (fun _ _=>False) t (fun i x g j U V W X Y=>(Z i x g j U V W X Y).mono fun _ _ _ h=>.inl h) h0 w hg) fun e w' ⟨v,g,j,N,O,P,Q⟩=>⟨v,g,j,N,O,P,Q.resolve_right id⟩
section
variable {c x y:Code}{id:Nat}
def Lb:Code->Option (Operand×Array Tmp×Code×Code)
 |.seq a b=>match Lb a with|some x=>some x|none=>Lb b
 |.block _ a=>Lb a
 |.loop a=>Lb a
 |.cond _ a b=>match Lb a with|some x=>some x|none=>Lb b
 |.rangeFunc g ps x y=>some (g,ps,x,y)
 |_=>none
def rfG (fn:Func):Operand:=match Lb (Qd fn) with|some x=>x.1|none=>.tmp 0
def A0v (fn:Func):Array Tmp:=match Lb (Qd fn) with|some x=>x.2.1|none=>#[]
def rfX (fn:Func):Code:=match Lb (Qd fn) with|some x=>x.2.2.1|none=>.skip
def rfY (fn:Func):Code:=match Lb (Qd fn) with|some x=>x.2.2.2|none=>.skip
def Az5:Code->Bool
 |.seq _ _=>true
 |_=>false
def A0q:Code->Code
 |.seq a _=>a
 |_=>.skip
def A0w:Code->Code
 |.seq _ b=>b
 |_=>.skip
def A0r:Code->Bool
 |.block _ _=>true
 |_=>false
def A0f:Code->Code
 |.block _ a=>a
 |_=>.skip
def rgB:Code->Bool
 |.region _ ops false=>M3 ops
 |_=>false
def rgI:Code->Nat
 |.region id _ _=>id
 |_=>0
def rgO:Code->Array Oper
 |.region _ ops _=>ops
 |_=>#[]
def cnB:Code->Bool
 |.cond _ _ _=>true
 |_=>false
def cnX:Code->Operand
 |.cond x _ _=>x
 |_=>.tmp 0
def cnZ:Code->Code
 |.cond _ _ z=>z
 |_=>.skip
def skB:Code->Bool
 |.skip=>true
 |_=>false
def RW (P:Program)(l:Nat)(c:Code)(J:S->PH->PH->Prop)(s:S)(u m:PH):Prop :=
 ∀ (cx:Cx) (ρ:Nat->Nat) (a:Act) (w:World),Rel cx s u m ρ a w->c.wpIn (Fence.wide.inRound l) 0 P (Exit.then (fun a w=>∃ s u m ρ,Rel cx s u m ρ a w/\J s u m) (fun _ _ _=>False)) a w
section
variable {P:Program} {l:Nat} {J J':S->PH->PH->Prop} {s:S} {u m:PH}
def RW.skip (h:J s u m):RW P l .skip J s u m:=fun g ρ a w e=>wpIn_skip ⟨s,u,m,ρ,e,h⟩
def RW.seq (h:RW P l x (fun s u m=>RW P l y J s u m) s u m):RW P l (.seq x y) J s u m:=fun g ρ a w z=>wpIn_seq (wpIn_mono (h g ρ a w z) fun e a w j=>by
 cases e with
 |normal=>obtain⟨s,u,m,ρ,n,t⟩:=j;exact t g ρ a w n
 |_=>exact j)
def RW.block (h:RW P l x J s u m):RW P l (.block id x) J s u m:=fun j ρ a w n=>wpIn_block (wpIn_mono (h j ρ a w n) fun e a w g=>by
 cases e with
 |normal=>exact g
 |_=>exact g.elim)
def RW.condF {x:Operand}{y z:Code}(g:s.ev x=.v (.bool false))(h:RW P l z J s u m):RW P l (.cond x y z) J s u m:=fun j ρ a w e =>
 wpIn_cond_false (by rw[e.eval x (by rw[g];simp),g];rfl) (h j ρ a w e)
def RW.reg [A6 P]{e:Array Oper}(fn:Func)(g:M3 e=true)(h:∀ (Post:Ce) (J':S->PH->PH->Prop),(∀ s u m,J s u m->J' s u m)->G P fn Post ([.reg id e false (List.range e.size),.lp J'],s) u m):RW P l (.region id e false) J s u m:=fun j ρ a w z =>
 Az8 (Aju l) g (h ⟨fun _ _ _=>False,j.m0⟩ J fun _ _ _ h=>h) z rfl fun s u m ρ a w n t=>⟨s,u,m,ρ,n,t⟩
end
def Ag.weak {P:Program}{f:FuncId}{args:List Value}{u m:PH}{R n:Value->PH->PH->Prop}(h:Ag P f args u m R)(H:∀ v j g,R v j g->n v j g):Ag P f args u m n:=fun w F=>Calls.mono (h w F) fun e w' ⟨v,j,g,t,z,C,E⟩=>⟨v,j,g,t,z,C,H _ _ _ E⟩
def RW.seq' {P:Program}{l:Nat}{J:S->PH->PH->Prop}{s:S}{u m:PH}(e:Az5 c=true)(h:RW P l (A0q c) (fun s u m=>RW P l (A0w c) J s u m) s u m):RW P l c J s u m:=by
 cases c<;>first|exact RW.seq h|cases e
def RW.block' {P:Program}{l:Nat}{J:S->PH->PH->Prop}{s:S}{u m:PH}(e:A0r c=true)(h:RW P l (A0f c) J s u m):RW P l c J s u m:=by
 cases c<;>first|exact RW.block h|cases e
def RW.skip' {P:Program}{l:Nat}{J:S->PH->PH->Prop}{s:S}{u m:PH}(e:skB c=true)(h:J s u m):RW P l c J s u m:=by
 cases c<;>first|exact RW.skip h|cases e
def RW.condF' {P:Program}{l:Nat}{J:S->PH->PH->Prop}{s:S}{u m:PH}(e:cnB c=true)(g:s.ev (cnX c)=.v (.bool false))(h:RW P l (cnZ c) J s u m):RW P l c J s u m:=by
 cases c<;>first|exact RW.condF g h|cases e
def RW.reg' {P:Program}[A6 P]{l:Nat}{J:S->PH->PH->Prop}{s:S}{u m:PH}(fn:Func)(e:rgB c=true)(h:∀ (Post:Ce) (J':S->PH->PH->Prop),(∀ s u m,J s u m->J' s u m)->G P fn Post ([.reg (rgI c) (rgO c) false (List.range (rgO c).size),.lp J'],s) u m):RW P l c J s u m:=by
 cases c with
 |region id ops dr =>
  cases dr with
  |false=>exact RW.reg fn e h
  |true=>cases e
 |_=>cases e
def Vg (r:Loop):Loop:={ r with state:=.busy }
def Aje (p q:Nat)(a b:Value)(t:Array Value):((#[p,q].zip [a,b].toArray).foldl (fun tmps (t,a)=>tmps.setIfInBounds t a) t)=(t.setIfInBounds p a).setIfInBounds q b:=mV
theorem Amn {P:Program}{l n:Nat}{r:Loop}{args:List Value}{T:List (Nat×Value)}{u m:PH}{K:PH->PH->Prop}(hm:m l=some (.loop r))(hr:r.state=.ready)(hp:r.pending=none)(hs:args.length=r.params.size)
 (hn:r.tmps.size=n) (hT:∀ x∈T,((r.params.zip args.toArray).foldl (fun tmps (t,a)=>tmps.setIfInBounds t a) r.tmps)[x.1]?=some x.2)
 (h:RW P l r.assign (fun s Z Q=>Q l=some (.loop r)/\RW P l r.body (fun _ u2 X=>X l=some (.loop (Vg r))/\K u2 (X.upd l (.loop r))) s Z (Q.upd l (.loop (Vg r)))) (S.ofT n T) u m) :
 Acq P l args u m fun v u' m'=>v=.bool true/\K u' m':=by
 intro w E;have hl:=E.pm l _ hm;have W:((r.params.zip args.toArray).foldl (fun tmps (t,a)=>tmps.setIfInBounds t a) r.tmps).size=n:=by
  rw[<-hn,<-A99];generalize (r.params.zip args.toArray).toList=L;generalize r.tmps=t0;induction L generalizing t0 with
  |nil=>rfl
  |cons x L ih=>grind
 refine⟨r.fn,_,r.assign,r.body,run_yield hl (by simpa using hs),roundIn_of_wpIn trivial ?_⟩;have j:=Rel.start (T:=T) E (tmps:=(r.params.zip args.toArray).foldl (fun tmps (t,a)=>tmps.setIfInBounds t a) r.tmps) hT;rw[W]at j;refine wpIn_mono (h _ _ _ _ j) fun e a1 w1 hq=>?_;cases e with
 |normal =>
  obtain⟨s1,Z,Q,ρ1,g,O,h2⟩:=hq;have U:=g.gd.pm l _ O;have F:∀ k b,s1.hp k=some b->ρ1 k≠l:=fun k b C e=>by
   obtain⟨_,_,_,N⟩:=g.box k b C;rw[e,O]at N;cases N
  obtain⟨g1,g2⟩:=g.gd.putO (o':=.loop (Vg r)) O rfl;have r2:Rel ⟨w,u,m⟩ s1 Z (Q.upd l (.loop (Vg r))) ρ1 a1 (w1.putObj l (.loop (Vg r))):=by
   refine⟨g.sz,g.tm,g.df.of fun q e _ hu z=>?_,fun k b C=>?_,g.inj,g.lv,g1,g.gr.trans g2⟩
   ·have I:q≠l:=fun e'=>by rw[e',O]at z;cases z
    exact⟨by rw[World.putObj_heap_other I];exact e,hu,by rw[Ad _ _ I];exact z⟩
   obtain⟨e1,R,e3,N⟩:=g.box k b C;exact⟨by rw[World.putObj_heap_other (F k b C)];exact e1,R,e3,by rw[Ad _ _ (F k b C)];exact N⟩
  refine⟨_,run_beginRound U hr,wpIn_mono (h2 _ _ _ _ r2) fun R a2 w2 H=>?_⟩;cases R with
  |normal =>
   obtain⟨s2,u2,X,ρ2,Y,h3,h4⟩:=H;have V:=Y.gd.pm l _ h3;refine⟨_,_,run_endRound none V,?_⟩;have e5:({ Vg r with state:=if (none:Option Code).isNone then .ready else .done,pending:=none }:Loop)=r:=by
    cases r;subst hr;subst hp;rfl
   rw[e5];obtain⟨g3,g4⟩:=Y.gd.putO (o':=.loop r) h3 rfl;exact⟨_,_,_,rfl,g3,Y.gr.trans g4,rfl,h4⟩
  |_=>exact H.elim
 |_=>exact hq.elim
section
variable {P:Program} [A6 P] {fn:Func} {Post:Ce} {st:List KI×S} {u m:PH}
def Azy (st:List KI×S):Option (Operand×Array Tmp×Code×Code):=match st.1 with
 |.code (.rangeFunc g ps x y)::_=>some (g,ps,x,y)
 |_=>none
def Ais (st:List KI×S):List KI×S:=match st.1 with
 |.code (.rangeFunc _ _ _ _)::k=>(k,st.2)
 |_=>st
theorem G.rangeF (g:Operand)(ps:Array Tmp)(x y:Code)(N:Nat)(cap:List Value)(a0:PH->PH->Prop)(h:Azy (adv P st)=some (g,ps,x,y))(I:(adv P st).2.ev g=.v (.func (.func N) #[] cap.toArray))(hn:F2 (Ais (adv P st)).1=true)
 (hc:∀ args w,(callFunc N args).run P w=.ok (.enter N args) w)
 (O:∀ (l:Nat) (r:Loop),r.state=.ready->r.pending=none->r.params=ps->r.assign=x->r.body=y->r.tmps.size=(adv P st).2.n->(∀ d v,(adv P st).2.tm d=.v v->r.tmps[d]?=some v)->m l=none->u l=none ->
  Ag P N (.func (.yield l) #[] #[]::cap) u (m.upd l (.loop r)) fun _ Y X=>∃ r':Loop,r'.state≠.busy/\r'.pending=none/\X l=some (.loop r')/\∃ T,PH.le T X/\T l=none/\a0 Y T)
 (k:∀ Y X,PH.le u Y->a0 Y X->G P fn Post (Ais (adv P st)) Y X):G P fn Post st u m:=by
 refine G.stp ?_;generalize adv P st=st' at h I hn O k;obtain⟨ks,s⟩:=st'
 match ks,h with
 |.code (.rangeFunc g' ps' x' y')::kk,h =>
  simp only[Azy,A1f,A2i]at h;obtain⟨rfl,rfl,rfl,rfl⟩:=h;simp only[Ais]at hn O k;refine⟨?_⟩;intro c ρ a w ad L;show (Code.rangeFunc g' ps' x' y').wp P (It P fn Post c kk) a w;refine (wpIn_wide (n:=0)).1 (wpIn_rangeFunc fun fid _=>?_);obtain⟨C,F⟩:∃ C:Loop,C={ state:=.ready,pending:=none,fn:=fid,tmps:=a.tmps,params:=ps',assign:=x',body:=y',defers:=w.heap.size }:=⟨_,rfl⟩;have U:=run_enterLoop_outer (P:=P) (w:=w) fid a.tmps ps' x' y';rw[<-F]at U;obtain⟨E,H⟩:∃ E,E=w.alloc (.deferred (some [])):=⟨_,rfl⟩;rw[<-H]at U;have a8:E.heap.size=w.heap.size+1:=by rw[H,B6]
  rw[<-a8]at U;have a1:E.heap[w.heap.size]?=some (.deferred (some [])):=by rw[H];exact Cn _ _
  have ag:u w.heap.size=none:=L.gd.pu.none (A08 _);have ae:m w.heap.size=none:=L.gd.pm.none (A08 _);have W:Bv u m E:=by
   refine⟨fun g o I=>?_,fun g o I=>?_,L.gd.ap,fun g cs t fr j z I hj=>?_⟩
   ·rw[H,Aq _ _ (L.gd.pu.lt I)];exact L.gd.pu g o I
   ·rw[H,Aq _ _ (L.gd.pm.lt I)];exact L.gd.pm g o I
   by_cases e:g=w.heap.size
   ·subst e;rw[a1]at I;simp at I
   have K:=Aw I;rw[a8]at K;rw[H,Aq _ _ oV]at I;exact L.gd.cl g cs t fr j z I hj
  have a3:B0 c.u0 c.m0 c.w0 u m E:=L.gr.trans ⟨oV,fun g I _=>by rw[H];exact Aq _ _ I,fun _ _=>rfl,fun _ _ h=>h,by rw[H];exact⟨rfl,rfl⟩,fun _=>by rw[H];exact⟨rfl,A08 _⟩⟩;have Q:Rel c s u m ρ { a with defers:=Xm w.heap.size::a.defers } E:=by
   refine⟨L.sz,L.tm,?_,fun k b hb=>?_,L.inj,L.lv,W,a3⟩
   ·obtain⟨ds,d1,d2,a9,d3⟩:=L.df;refine⟨w.heap.size::ds,A4j.2 ⟨fun a6=>?_,d1⟩,by rw[A2u,<-d2];rfl,by rw[<-a9];rfl,fun q hq=>?_⟩
    ·obtain⟨e,_⟩:=d3 _ a6;exact absurd (Aw e) oV
    rcases A1g.1 hq with rfl|hq
    ·exact⟨a1,L.gr.sz,ag,ae⟩
    obtain⟨e1,e2,e3,e4⟩:=d3 q hq;exact⟨by rw[H,Aq _ _ (Aw e1)];exact e1,e2,e3,e4⟩
   obtain⟨⟨cs,f1,f2,f3⟩,f4⟩:=L.box k b hb;exact⟨⟨cs,by rw[H,Aq _ _ (Aw f1)];exact f1,f2,f3⟩,f4⟩
  obtain⟨g1,g2,g3,g4⟩:=W.newO (o:=.loop C) rfl;have R:Rel c s u (m.upd E.heap.size (.loop C)) ρ { a with defers:=Xm w.heap.size::a.defers } (E.alloc (.loop C)):=by
   refine⟨Q.sz,Q.tm,Q.df.of fun q e _ hu V=>?_,fun k b hb=>?_,Q.inj,Q.lv,g1,Q.gr.trans g2⟩
   ·have K:=Aw e;exact⟨by rw[Aq _ _ K];exact e,hu,by rw[Ad _ _ oV];exact V⟩
   obtain⟨⟨cs,f1,f2,f3⟩,f4,f5,f6⟩:=Q.box k b hb;have K:=Aw f1;exact⟨⟨cs,by rw[Aq _ _ K];exact f1,f2,f3⟩,f4,f5,by rw[Ad _ _ oV];exact f6⟩
  have ab:a.eval g'=.func (.func N) #[] cap.toArray:=by rw[L.eval g' (by rw[I];simp),I];rfl
  have aa:=O E.heap.size C (by rw[F]) (by rw[F]) (by rw[F]) (by rw[F]) (by rw[F]) (by rw[F];exact L.sz) (fun d v hd=>by
   have:=L.tm d (by rw[hd];simp);rw[hd]at this;rw[F];exact this) g3 g4
  obtain⟨dd,a2⟩:∃ dd:Deferred,dd={ target:=.fn (.func N) cap.toArray,args:=#[.func (.yield E.heap.size) #[] #[]] }:=⟨_,rfl⟩;have a7:(resolve a.eval (rangeCall g' E.heap.size) 0).run P (E.alloc (.loop C))=.ok dd (E.alloc (.loop C)):=by
   rw[a2];simp only[resolve,ab,Deferred.ofValue];simp[Act.eval]
  have a4:(invoke dd.target dd.args).run P (E.alloc (.loop C))=.ok (.enter N (.func (.yield E.heap.size) #[] #[]::cap).toArray) (E.alloc (.loop C)):=by
   rw[a2];simp[invoke,hc]
  refine⟨E.heap.size,[Xm w.heap.size],E.alloc (.loop C),dd,E.alloc (.loop C),N,(.func (.yield E.heap.size) #[] #[]::cap).toArray,E.alloc (.loop C),U,a7,fun _ _=>trivial,a4,(fun h=>by cases h),?_⟩;refine callsIn_wide.2 (Calls.mono (aa _ g1) fun e w3 he=>?_);obtain⟨v,Y,X,rfl,k1,k2,r',q1,q2,q3,T,q4,q5,q6⟩:=he;have ac:=k1.pm _ _ q3;refine⟨none,_,by rw[<-q2];exact run_endLoop ac q1,?_⟩;obtain⟨p1,p2⟩:=k1.putO (o':=.loop { r' with state:=.exhausted }) q3 rfl;have a5:PH.le T (X.upd E.heap.size (.loop { r' with state:=.exhausted })):=fun g o I=>by
   by_cases e:g=E.heap.size
   ·grind
   rw[Ad _ _ e];exact q4 g o I
  have af:Rel c s Y (X.upd E.heap.size (.loop { r' with state:=.exhausted })) ρ { a with defers:=Xm w.heap.size::a.defers } (w3.putObj E.heap.size (.loop { r' with state:=.exhausted })):=by
   have Z:=k2.trans p2;refine⟨R.sz,R.tm,R.df.of fun q e _ hu V=>⟨by rw[Z.old _ (Aw e) V];exact e,by rw[Z.us _ (Aw e)];exact hu,Z.ms _ (Aw e) V⟩,fun k b hb=>?_,R.inj,R.lv,p1,R.gr.trans Z⟩;obtain⟨e1,e2,e3,e4⟩:=R.box k b hb;have K:ρ k<(E.alloc (.loop C)).heap.size:=by obtain⟨cs,e,_⟩:=e1;exact Aw e
   refine⟨?_,e2,?_,?_⟩
   ·rw[Z.old _ K e4];exact e1
   ·rw[Z.us _ K];exact e3
   exact Z.ms _ K e4
  have hk:=(k Y T (k2.le g1.pu) q6).out;rw[Sym.ofNo hn]at hk;exact hk c ρ _ _ ad (af.less a5)
end
end
section
variable {b sz:Nat}{es:List Value}{m m0:PH}{o:Obj}{t:TypeId}{v:Value}
def Af.base (h:Af m0 m v t sz es)(H:m0 b≠none):Af (m0.upd b o) (m.upd b o) v t sz es:=by
 obtain⟨z,h⟩:=h;rcases h with ⟨n,u,rfl⟩|⟨g,cap,rest,n,rfl,u,C,E,F⟩
 ·exact⟨z,.inl ⟨n,u,rfl⟩⟩
 have j:g≠b:=fun e=>by subst e;exact H n
 exact⟨z,.inr ⟨g,cap,rest,by rw[Ad _ _ j];exact n,Iq _ _ _ j,u,C,E,F⟩⟩
def Af.see (h:Af m0 m v t sz es)(e:m0 b=some o):m b=some o:=h.le b o e
end
section
variable {l:Nat}{m:PH}{o:Obj}
def Alu {l b:Nat}(h:b≠l):(m.upd b o).del l=(m.del l).upd b o:=by
 funext k
 by_cases e:k=l
 ·subst e;rw[Ad _ _ (fun g=>h g.symm)];simp[PH.del]
 by_cases g:k=b
 ·subst g;rw[Ab];simp[PH.del,e,Ab]
 rw[Ad _ _ g];simp[PH.del,e,Ad _ _ g]
def Rk (h:m l=none):(m.upd l o).del l=m:=by
 funext k
 by_cases e:k=l
 ·subst e;simp[PH.del,h]
 simp[PH.del,e,Ad _ _ e]
def Ap6 (m:PH)(l:Nat):PH.le (m.del l) m:=fun g o h=>by
 unfold PH.del at h;split at h
 ·cases h
 exact h
def Axu (m:PH)(l:Nat):m.del l l=none:=by unfold PH.del;simp
def Af.del {m0 m:PH}{v:Value}{t:TypeId}{sz:Nat}{es:List Value}{l:Nat}(h:Af m0 m v t sz es)(H:m0 l≠none):Af (m0.del l) (m.del l) v t sz es:=by
 obtain⟨z,h⟩:=h;rcases h with ⟨n,u,rfl⟩|⟨g,cap,rest,n,rfl,u,C,E,F⟩
 ·exact⟨z,.inl ⟨n,u,rfl⟩⟩
 have j:g≠l:=fun e=>by subst e;exact H n
 exact⟨z,.inr ⟨g,cap,rest,by unfold PH.del;rw[if_neg j];exact n,Alu j,u,C,E,F⟩⟩
def Y4 (t et:TypeId)(sz b:Nat)(mr:PH)(es:List Value)(m:PH):Prop:=∃ a c,Af (mr.upd b (.cells #[.slice a es.length c] t (0,0))) m (.slice a es.length c) et sz es
def Y4.see {t et:TypeId}{sz b l:Nat}{g m:PH}{es:List Value}{o:Obj}(h:Y4 t et sz b g es m)(j:b≠l)(n:g l=some o):m l=some o:=by
 obtain⟨a,c,h⟩:=h;exact h.see (by rw[Ad _ _ (fun e=>j e.symm)];exact n)
def Y4.base {t et:TypeId}{sz b l:Nat}{g m:PH}{es:List Value}{o:Obj}(h:Y4 t et sz b g es m)(j:b≠l)(n:g l≠none):Y4 t et sz b (g.upd l o) es (m.upd l o):=by
 obtain⟨a,c,h⟩:=h;refine⟨a,c,?_⟩;rw[Iq _ _ _ (fun e=>j e.symm)];exact h.base (by rw[Ad _ _ (fun e=>j e.symm)];exact n)
end
section
variable {k:Nat}{v:Value}
def Af.fresh {m0 m:PH}{t:TypeId}{sz:Nat}{es:List Value}{b:Nat}{o:Obj}(h:Af m0 m v t sz es)(C:m b=none):Af (m0.upd b o) (m.upd b o) v t sz es:=by
 obtain⟨E,h⟩:=h;rcases h with ⟨n,z,rfl⟩|⟨g,cap,rest,n,rfl,z,F,H,I⟩
 ·exact⟨E,.inl ⟨n,z,rfl⟩⟩
 have j:g≠b:=fun e=>by subst e;rw[Ab]at C;cases C
 exact⟨E,.inr ⟨g,cap,rest,by rw[Ad _ _ j];exact n,Iq _ _ _ j,z,F,H,I⟩⟩
section
variable [Cl] [Co] [Pu] {P:Program} [A6 P] {fn:Func} {Post:Ce} {st:List KI×S} {u m:PH}
def G.appendL (e:TypeId)(sz t:Nat)(z:Value)(m0:PH)(es xs:List Value)(v:Value)(a:Option Addr)(n c:Nat)(h:Aj P (adv P st)=.app (some (e,sz,t,z)) true [v,.slice a n c])(Q:z.cells.toList.all Ax=true)(I:z.cells.size=sz)(F:0<sz)
 (C:Af m0 m v e sz es) (H:Ac u (.slice a n c) sz xs) (O:A9 sz xs) (N:(es.length+xs.length)*t<=140737488355328) (E:es.length+xs.length<=9223372036854775807)
 (k:∀ K J,Af m0 J K e sz (es++xs)->G P fn Post (nx (adv P st) K) u J):G P fn Post st u m:=by
 have g:n=xs.length:=by obtain⟨_,_,L,_⟩:=H;cases L;rfl
 cases xs with
 |nil =>
  simp only[A30]at g;subst g;obtain⟨a1,c1,rfl⟩:=C.shape;refine G.append0 e sz t z a1 a es.length c1 c h C.cap ?_;exact k _ _ (by rw[A1x];exact C)
 |cons x xs =>
  obtain⟨b,off,rfl,_⟩:=Ac.at' H (j:=0) (e:=x) rfl;subst g;exact G.append e sz t z m0 es (x::xs) v b off _ c h Q I F C H.els O rfl mV N E k
end
def Aue {u:PH}{L:List Par}{p:Par}(h:Ac u v 2 (L.map Ap))(K:L[k]?=some p)(O:∀ j,j<k->L[j]?≠some p)(R:L.length<=1000000) :
 Fn0 prog 209 [v,Ap p] u fun r _=>r=.int .i64 k:=by
 obtain⟨a,c,rfl⟩:=h.opn;rw[A03]at h⊢;obtain⟨N,z⟩:=A05.1 K;refine Fn0.o func209<|G.l (ι:=Nat) (fun i=>[(0,sV a L.length c),(3,.p 0 0),(7,iV L.length),(8,iV i)]) (fun _=>[(0,⟨118,[iV p.1,tV p.2]⟩)])
  (fun i U Q=>i<=k/\Q=PH.mt) (fun i=>k+1-i) 0 ⟨oV,rfl⟩ ?_
 rintro J i I V T E ⟨hi,rfl⟩;refine G.lT i L.length ?_;have g:L[i]?=some L[i]:=A01 oV;obtain⟨C,F,rfl,H⟩:=Ac.at' (h.mono E) (j:=i) (e:=Ap L[i]) (by simp[g]);refine G.a C F L.length c i 2 oV<|G.lU (some 2) C (F+i*2) (.agg #[.int .i64 L[i].1,.string (mkS L[i].2)]) H ?_;by_cases t:p=L[i]
 ·have n:i=k:=by
   rcases A2e i k with e|e
   ·exact absurd (by rw[g,<-t]) (O i e)
   omega
  exact G.eqAgg 118 #[.int .i64 p.1,.string (mkS p.2)] #[.int .i64 L[i].1,.string (mkS L[i].2)] true kV kV kV (fun w=>by rw[<-decide_eq_true t];exact Bq.eq p L[i] w)<|G.r (.int .i64 i) ⟨rfl,by rw[n]⟩
 have n:i≠k:=fun e=>by subst e;exact t z.symm
 exact G.eqAgg 118 #[.int .i64 p.1,.string (mkS p.2)] #[.int .i64 L[i].1,.string (mkS L[i].2)] false kV kV kV (fun w=>by rw[<-decide_eq_false t];exact Bq.eq p L[i] w)<|G.i i<|G.b (I (i+1) _ _ _ cV E ⟨oV,rfl⟩ oV)
def F5 (P:List Par)(L:List (Par×Rat)):List (List UInt8):=[49]::P.map fun p=>Ae (Fo p L)
def Ae2 (P:List Par)(L:List (Par×Rat)):(F5 P L).length=P.length+1:=by unfold F5;simp
def Ar9 (P:List Par):F5 P [] = [49]::List.replicate P.length [48]:=by
 unfold F5
 congr 1
 have:(fun p:Par=>Ae (Fo p []))=fun _=>[48]:=by funext p;unfold Fo;exact Fz
 rw[this,List.map_const']
def Zb {κ:Type}[DecidableEq κ]{a:κ}{x:κ×Rat}:∀ {L:List (κ×Rat)},x.1∉L.map (·.1)->Fo a (L++[x])=if a=x.1 then x.2 else Fo a L
 |[],_=>by obtain⟨b,q⟩:=x;simp[Fo]
 |(b,q)::L,h=>by
  rw[A2u,A1g,not_or]at h;rw[A4x];unfold Fo;by_cases e:a=b
  ·rw[if_pos e,if_neg (fun g=>h.1 (by rw[<-g,e]))];simp[e]
  rw[if_neg e,Zb h.2];simp[e]
def Yu {κ:Type}{l:List κ}(h:l.Nodup){i j:Nat}{x:κ}(t:l[i]?=some x)(z:l[j]?=some x):i=j:=by
 obtain⟨a1,a2⟩:=A05.1 t;obtain⟨g,n⟩:=A05.1 z;rcases A5u i j with e|e|e
 ·exact absurd (a2.trans n.symm) (A3n.1 h i j a1 g e)
 ·exact e
 exact absurd (n.trans a2.symm) (A3n.1 h j i g a1 e)
def Amm {P:List Par}{L:List (Par×Rat)}{x:Par×Rat}(n:P[k]?=some x.1)(C:P.Nodup)(E:x.1∉L.map (·.1)):(F5 P L).set (k+1) (Ae x.2)=F5 P (L++[x]):=by
 unfold F5;rw[A2j]
 congr 1
 obtain⟨z,g⟩:=A05.1 n;refine A5l mV fun j h F=>?_;rw[List.getElem_set];simp only[A3v];rw[Zb E];by_cases e:k=j
 ·subst e;rw[if_pos rfl,if_pos g]
 rw[if_neg e,if_neg];intro t;simp at h;exact e (Yu C n (by rw[A01 (by simpa using h),t]))
def Anh {u:PH}{v pv tv:Value}{T:List (List UInt8×Nat)}{R:List Br}{F:List Al}{lab:Int}{ss:List (List UInt8)}{Q:List Par}(h:Mv u v tv T R F lab ss)(hQ:Ac u pv 2 (Q.map Ap))(hs:Hb Bk Q)(b6:∀ x∈Dx F ss F.length,x.1∈Q)(hl:Q.length<=100000) :
 Fn0 prog 140 [v,pv,tv] u fun r U=>∃ lv,r=.tuple #[lv,.int .i64 0]/\Ac U lv 1 ((F5 Q (Dx F ss F.length)).map nmV):=by
 have am:=Lm h;have ad:=fun (U:PH) (l:PH.le u U)=>Aql (h.mono l);have ah:=h;have br:=h.ok.f2;obtain⟨⟨xa,xc,xb,xd,xe,xf,rfl,bo,bn,bm⟩,ok,hS,hT⟩:=h;obtain⟨ya,yc,rfl⟩:=hS.opn;obtain⟨pa,pc,rfl⟩:=hQ.opn;rw[A03]at hS am ad ah hQ⊢;rw[A03]at⊢;have ag:=hs.nodup Et;refine Fn0.o func140<|G.c call89 am ?_;rintro v1 u1 l1 rfl;refine G.nF 0 0<|G.l (ι:=Nat) (fun i=>[(2,sV ya ss.length yc),(3,.p 0 0),(4,.p 1 0),(6,.p 2 0),(7,.p 3 0),(9,iV i)])
  (fun _=>[(0,⟨30,[sV xa T.length xc,sV xb R.length xd,sV xe F.length xf,iV lab]⟩),(1,⟨43,[sV pa Q.length pc]⟩),(2,⟨46,[sV none 0 0]⟩),(3,⟨39,[iV 0]⟩)])
  (fun i U z=>1<=i/\z=PH.mt) (fun i=>Q.length-i) 1 ⟨oV,rfl⟩ ?_
 rintro J i E u2 m2 l2 ⟨hi,rfl⟩;by_cases a1:i<Q.length
 ·refine G.lT i Q.length ?_;have aa:=hQ.mono (l1.trans l2);have ax:Q[i]?=some Q[i]:=A01 a1;have ay:Q[i-1]?=some (Q[i-1]'oV):=A01 oV;have b0:Bk (Q[i-1]'oV) Q[i]<0:=A3n.1 hs (i-1) i oV a1 oV;obtain⟨ba,oa,e0,ea⟩:=Ac.at' aa (j:=i) (e:=Ap Q[i]) (by simp[ax]);obtain⟨bl,bu,a4,eb⟩:=Ac.at' aa (j:=i-1) (e:=Ap (Q[i-1]'oV)) (by simp[ay]);rw[e0]at a4;cases a4;subst e0;refine G.s i 1 (i-1:Nat)<|G.a ba oa Q.length pc (i-1) 2 oV<|G.lU (some 2) ba (oa+(i-1)*2) (Ap (Q[i-1]'oV)) eb<|G.a ba oa Q.length pc i 2 a1<|G.lU (some 2) ba (oa+i*2) (Ap Q[i]) ea<|G.c call127 (Re _ _ true (decide_eq_true b0)) ?_;rintro v3 u3 l3 rfl;exact G.i i<|G.b (E (i+1) _ _ _ cV (l2.trans l3) ⟨oV,rfl⟩ oV)
 refine G.lF i Q.length ?_;clear E;refine G.pub 1 43 [.slice pa Q.length pc] kV kV ?_;intro K bi bj;refine G.buildM 34 1 16 (.string (mkS [])) [.string (mkS [49])] kV (Gc [[49]]) rfl oV mV mV ?_;intro g3 m3 a7;refine G.B 34 1 16 (.string (mkS [])) [.string (mkS [48])] (Gc [[48]]) ?_;intro g4 u4 l4 e4;have aw:Ac u4 (.slice (some ⟨g4,0,none⟩) 1 1) 1 [.string (mkS [48])]:=⟨_,1,rfl,A08 _,fun j e hj=>⟨g4,0,rfl,e4 j e hj⟩⟩;refine G.lM none K 0 (.slice pa Q.length pc) (My (xs:=[.slice pa Q.length pc]) (a7.see (Ab _ _ _)) rfl)<|G.c call207 (Ao2 (n:=Q.length) aw (Gc [[48]]) oV) ?_;intro v5 u5 l5 k5;obtain⟨a5,c5,rfl⟩:=Ac.opn k5;have b3:(F5 Q []).map nmV = [Value.string (mkS [49])]++List.replicate Q.length (Value.string (mkS [48])):=by
  rw[Ar9,A2u,A8z];rfl
 refine G.appendL 34 1 16 (.string (mkS [])) _ [.string (mkS [49])] (List.replicate Q.length (.string (mkS [48]))) _ a5 _ c5 kV rfl rfl oV a7 k5 ((Gc [[48]]).replicate _) gV gV ?_;intro v6 m6 N;rw[<-b3]at N;obtain⟨a6,c6,rfl⟩:=N.shape;refine G.pub 9006 46 [.slice a6 ((F5 Q []).map nmV).length c6] kV kV ?_;intro b bq Z;have ac:m6 K=some (.cells [Value.slice pa Q.length pc].toArray 43 (0,0)):=N.see (Ab _ _ _);have a0:b≠K:=fun e=>by subst e;rw[ac]at Z;cases Z
 have an:=N.fresh (o:=.cells [Value.slice a6 ((F5 Q []).map nmV).length c6].toArray 46 (0,0)) Z;have a3:PH.le u u5:=(((l1.trans l2).trans l4).trans l5);refine G.c call208 (ad u5 a3) ?_;rintro v8 u8 l8 ⟨b1,b2,rfl,e1,e2⟩;obtain⟨C,O⟩:∃ C,C=Pj K (.cells [Value.slice pa Q.length pc].toArray 43 (0,0)):=⟨_,rfl⟩;have ao:Y4 46 34 1 b C ((F5 Q []).map nmV) (m6.upd b (.cells [Value.slice a6 ((F5 Q []).map nmV).length c6].toArray 46 (0,0))):=by
  rw[O];exact⟨a6,c6,an⟩
 have b9:C K=some (.cells [Value.slice pa Q.length pc].toArray 43 (0,0)):=by rw[O];exact Ck _ _
 have b4:∀ {es:List Value} {z:PH},Y4 46 34 1 b C es z->PH.le C z:=fun h=>(by
  obtain⟨a,c,h⟩:=h;exact fun g o hg=>h.see (by rw[Ad _ _ (fun e=>by rw[O]at hg;rw[e,Mz _ a0]at hg;cases hg)];exact hg))
 refine G.rangeF (rfG Tryz.f140) (A0v Tryz.f140) (rfX Tryz.f140) (rfY Tryz.f140) 251 [.pointer (some ⟨b1,0,none⟩),.pointer (some ⟨b2,0,none⟩)] (fun U z=>Y4 46 34 1 b C ((F5 Q (Dx F ss F.length)).map nmV) z) kV kV kV call251 ?_ ?_
 ·intro l r r1 r2 r3 r4 r5 r6 r7 I ae;have t:b≠l:=fun e=>by subst e;rw[Ab]at I;cases I
  have ai:K≠l:=fun e=>by subst e;rw[Ad _ _ (fun e=>a0 e.symm),ac]at I;cases I
  have af:C l=none:=by rw[O];exact Mz _ (fun e=>ai e.symm)
  have aj:r.params = #[46,47]:=r3.trans kV;have hn:r.tmps.size=59:=r6.trans kV;have bd:r.tmps[4]?=some (.pointer (some ⟨K,0,none⟩)):=r7 4 _ kV;have al:r.tmps[10]?=some (.pointer (some ⟨b,0,none⟩)):=r7 10 _ kV;have a2:∀ {es:List Value} {z:PH},Y4 46 34 1 b (C.upd l (.loop r)) es z->z l=some (.loop r):=fun h=>h.see t (Ab _ _ _);refine Ag.weak (Arp (ah.mono (a3.trans l8)) e1 e2 (fun L U z=>PH.le u8 U/\Y4 46 34 1 b (C.upd l (.loop r)) ((F5 Q L).map nmV) z) (fun _ _ _ _ hl h=>⟨h.1.trans hl,h.2⟩) (fun i x U z hi hl E hx bs=>?_) ?_) ?_
  ·obtain⟨a9,E⟩:=E;have be:=b6 x hx;obtain⟨k,hk,b8⟩:=A2y be;have H:Q[k]?=some x.1:=by rw[A01 hk,b8]
   have bf:x.1∉(Dx F ss i).map (·.1):=fun hm=>by
    obtain⟨y,hy,bg⟩:=A1b.1 hm;obtain⟨j,f,hj,_,hv⟩:=F9.1 hy;have:=Ow hv;rw[bg]at this;omega
   refine Amn (n:=59) (T:=[(4,.pointer (some ⟨K,0,none⟩)),(10,.pointer (some ⟨b,0,none⟩)),(46,Ap x.1),(47,.string (mkS (Ae x.2)))]) (a2 E) r1 r2 (by rw[aj];rfl) hn (fun y hy=>?_) ?_
   ·rw[aj,Aje];simp only[A1g,A11,or_false]at hy;rcases hy with rfl|rfl|rfl|rfl
    ·rw[A2m mV,A2m mV];exact bd
    ·rw[A2m mV,A2m mV];exact al
    ·rw[A2m mV];simp[hn]
    simp[hn]
   rw[r4,r5];refine RW.seq' kV (RW.reg' Tryz.f140 kV fun Post J' ap=>?_);refine G.b (ap _ _ _ (RW.reg' Tryz.f140 kV fun Post J2 aq=>?_));have Y:=E.base (o:=.loop (Vg r)) t (by rw[Ab];simp);rw[Dp]at Y;have bb:(z.upd l (.loop (Vg r))) K=some (.cells [Value.slice pa Q.length pc].toArray 43 (0,0)):=Y.see a0.symm.symm (by rw[Ad _ _ ai];exact b9);obtain⟨a,c,V⟩:=Y;have az:∀ {n c':Nat} {a':Option Addr},((C.upd l (.loop (Vg r))).upd b (.cells #[.slice a' n c'] 46 (0,0))) b=some (.cells [Value.slice a' n c'].toArray 46 (0,0)):=Ab _ _ _;refine G.b (aq _ _ _ ⟨a2 E,RW.block' kV (RW.seq' kV (RW.reg' Tryz.f140 kV fun Post J3 ar=>?_))⟩);refine G.lM none K 0 (.slice pa Q.length pc) (My (xs:=[.slice pa Q.length pc]) bb rfl)<|G.c call209 (Aue (hQ.mono ((a3.trans l8).trans a9)) H (fun j hj b7=>?_) oV) ?_
   ·have:=Yu ag b7 H;omega
   rintro v9 u9 l9 rfl;refine G.b (ar _ _ _ (RW.seq' kV (RW.seq' kV (RW.reg' Tryz.f140 kV fun Post J4 au=>?_))));refine G.lF k 0<|G.b (au _ _ _ (RW.condF' kV kV (RW.skip' kV ?_)));refine RW.reg' Tryz.f140 kV fun Post J5 av=>?_;refine G.lM none b 0 (.slice a ((F5 Q (Dx F ss i)).map nmV).length c) (My (xs:=[.slice a ((F5 Q (Dx F ss i)).map nmV).length c]) (V.see az) rfl) ?_;obtain⟨g,c',b5⟩:=V.ptr (by unfold F5;simp);cases b5;refine G.i k ?_;have bk:((F5 Q (Dx F ss i)).map nmV).length=Q.length+1:=by rw[A03,Ae2]
   refine G.a g 0 ((F5 Q (Dx F ss i)).map nmV).length c (k+1) 1 oV<|G.storeA 1 _ ((F5 Q (Dx F ss i)).map nmV) g ((F5 Q (Dx F ss i)).map nmV).length c (k+1) (.string (mkS (Ae x.2))) kV V oV rfl rfl ?_;intro bh W;have ak:((F5 Q (Dx F ss i)).map nmV).set (k+1) (.string (mkS (Ae x.2)))=(F5 Q (Dx F ss i++[x])).map nmV:=by
    rw[<-Amm H ag bf,A2g];rfl
   have ae:((F5 Q (Dx F ss i)).map nmV).length=((F5 Q (Dx F ss i++[x])).map nmV).length:=by simp[Ae2]
   rw[ak,ae]at W;have hB:Y4 46 34 1 b (C.upd l (.loop (Vg r))) ((F5 Q (Dx F ss i++[x])).map nmV) bh:=⟨_,_,W⟩;refine G.b (av _ _ _ ⟨hB.see t (Ab _ _ _),a9.trans l9,?_⟩);have a8:=hB.base (o:=.loop r) t (by rw[Ab];simp);rw[Dp]at a8;exact a8
  ·refine⟨PH.le_refl _,?_⟩;obtain⟨a,c,h⟩:=ao;refine⟨a,c,?_⟩;rw[Iq _ _ _ (fun e=>t e.symm)];exact h.fresh I
  rintro v' U z ⟨_,E⟩;refine⟨r,by rw[r1];simp,r2,a2 E,z.del l,Ap6 _ _,Axu _ _,?_⟩;obtain⟨a,c,V⟩:=E;have:=V.del (l:=l) (by rw[Ad _ _ (fun e=>t e.symm),Ab];simp);rw[Alu t,Rk af]at this;exact⟨a,c,this⟩
 rintro u9 m9 l9 ⟨a,c,V⟩;refine G.giveP (ma:=m9) (sm:=PH.mt) kV (by funext g;unfold PH.or;cases m9 g<;>rfl) (fun g=>.inr rfl) (fun g=>.inl rfl) ?_
 intro bw bt X;have ab:m9 b=some (.cells [Value.slice a ((F5 Q (Dx F ss F.length)).map nmV).length c].toArray 46 (0,0)):=V.see (Ab _ _ _);exact G.lU none b 0 (.slice a ((F5 Q (Dx F ss F.length)).map nmV).length c) ((My (xs:=[.slice a ((F5 Q (Dx F ss F.length)).map nmV).length c]) ab rfl).mono X)<|G.r (.tuple #[.slice a ((F5 Q (Dx F ss F.length)).map nmV).length c,.int .i64 0]) ⟨rfl,_,rfl,V.list X⟩
end
section
variable {N:Nat}{k:Par×Par}{q:Rat}
def Awv (T:TypeId):Op->Bool
 |.indexAddr t _ _=>Nat.beq t T
 |_=>false
section
variable {P:Program} [A6 P] {fn:Func} {Post:Ce} {st:List KI×S} {u m:PH}
def G.addrA (t e:TypeId)(n b off j sz:Nat)(h:Aj P (adv P st)=.addr none (.pointer (some ⟨b,off,none⟩)) (.int .i64 j))(O:Yr (Awv t) (adv P st)=true)(T:P.underlying t=some (.array n e))(Q:szB P e=some sz)(W:j<n)
 (k:G P fn Post (nx (adv P st) (.pointer (some ⟨b,off+j*sz,none⟩))) u m):G P fn Post st u m:=by
 refine G.askQ (Awv t) h O mV (fun L o g E w _=>?_) k;obtain⟨Y,X,I,z,J,K,_⟩:=Z1 g;rw[z]at E;have R:=A1y E;subst R;obtain⟨H,U,F,pos,after,C⟩:=o;simp only at z;subst z;simp[execOp,Instr.indexAt,Instr.sureAddr,asIntOf,J,K,run_underlying T,Bf Q,Ed];intro V;omega
end
def Aly {m:PH}{b:Nat}{t:TypeId}(h:m b=some (.cells [Value.int .i64 k.1.1,.string (mkS k.1.2),.int .i64 k.2.1,.string (mkS k.2.2)].toArray t (0,0))):ElP m b (0+0*2) (Ap k.1)/\ElP m b (0+1*2) (Ap k.2):=by
 have h0:ElP m b 0 (.agg #[.int .i64 k.1.1,.string (mkS k.1.2),.int .i64 k.2.1,.string (mkS k.2.2)]):=My h rfl;refine⟨h0.sub (k:=0) fun i y e=>?_,h0.sub (k:=2) fun i y e=>?_⟩
 ·match i,e with
  |0,e=>simpa[Ap,Value.cells] using e
  |1,e=>simpa[Ap,Value.cells] using e
 match i,e with
 |0,e=>simpa[Ap,Value.cells] using e
 |1,e=>simpa[Ap,Value.cells] using e
def SB.ten (h:SB q):Sz q 10000000000:=h.sz.mono oV
def KO.fix (h:KO k):Ay k.1 k.2=k:=by unfold Ay;rw[if_neg h]
def D7.at {κ:Type}[DecidableEq κ]{enc:κ->Value}{K:κ->Prop}{u:PH}{o:Obj}{f:κ->Rat}(h:D7 enc K u o f N) :
 ∃ l:List (κ×Value),Hu enc o l/\(∀ p∈l,QP u p.2 (f p.1)/\K p.1)/\(∀ k,k∉l.map (·.1)->f k=0)/\l.length<=N:=by
 obtain⟨l,g,e,j,n⟩:=h;exact⟨l,g,fun p hp=>⟨(e p hp).1,(e p hp).2.1⟩,j,n⟩
def Ar1 {u mf:PH}{F H:CF}{N M:Nat}{vf vg vk:Value}(hf:Kk mf u vf F N)(hg:R9 u vg H M)(hk:QP u vk q)(hq:SB q)(sF:CFS F)(sH:CFS H)(sK:CFS (H.scale q))(sR:CFS (F.add (H.scale q))) :
 Ag prog 48 [vf,vg,vk] u mf fun v u' m'=>Kk m' u' v (F.add (H.scale q)) (N+M):=by
 obtain⟨b,a,n,c,b',a',n',c',g1,g2,o1,o2,rfl,hF,a9,rfl,h1,h2⟩:=hf;obtain⟨wb,wa,wn,wc,ay,ax,b0,az,w1,w2,p1,p2,rfl,hH,e1,e2,k1,k2⟩:=hg;obtain⟨kb,ka,kn,kc,ar,av,au,rfl,_⟩:=hk.opn;obtain⟨l1,⟨es1,z,rfl,ac,Z⟩,b8,bb,bs⟩:=k1.at;obtain⟨l2,⟨W,h,rfl,ad,a0⟩,b9,bd,bt⟩:=k2.at;have ap:(l1.map (·.1)).Nodup:=Hu.nodup (enc:=Ap) ⟨es1,z,rfl,ac,Z⟩;have aq:(l2.map (·.1)).Nodup:=Hu.nodup (enc:=prV) ⟨W,h,rfl,ad,a0⟩;refine Ag.o func48<|G.c call28 (Gh hH hk (SB.ten sH.c) hq.ten) ?_;intro v1 u1 aw r1;obtain⟨b1,a1,x1,c1,bn,bw,bo,rfl,_⟩:=r1.opn;refine G.c call26 (Pd (hF.mono aw) r1 (SB.ten sF.c) (SB.ten sK.c)) ?_;intro v2 u2 be r2;obtain⟨b2,a2,x2,c2,U,a6,V,rfl,_⟩:=r2.opn;have a3:=aw.trans be;obtain⟨m2,ba,ag,ah⟩:∃ m2:PH,m2=(PH.mt.upd g1 o1).upd g2 o2/\m2 g1=some o1/\m2 g2=some o2:=⟨_,rfl,by rw[Ad _ _ a9,Ab],Ab _ _ _⟩;rw[<-ba];refine G.mapRange w1 es1 z 118 69 kV (.inl (a3 _ _ e1)) ?_;intro it am br;have i1:g1≠it:=fun e=>by subst e;rw[am]at ag;cases ag
 have i2:g2≠it:=fun e=>by subst e;rw[am]at ah;cases ah
 refine G.l (ι:=List MapEntry×List (Par×Value)) (fun _=>[(3,.p 0 0),(4,.p 1 0),(5,.p 2 0),(6,.p 3 0),(21,.v (.pointer (some ⟨it,0,none⟩)))])
  (fun _=>[(0,⟨108,[bV b2,sV a2 x2 c2,bV false,sV U a6 V,.v (.map (some g1)),.v (.map (some g2))]⟩),(1,⟨108,[bV wb,sV wa wn wc,bV ay,sV ax b0 az,.v (.map (some w1)),.v (.map (some w2))]⟩),(2,⟨69,[bV kb,sV ka kn kc,bV false,sV ar av au]⟩),(3,⟨108,[bV false,sV none 0 0,bV false,sV none 0 0,.v (.map none),.v (.map none)]⟩)])
  (fun i u' m'=>Gj Ap es1 l1 i.1 i.2/\m' it=some (.mapIter (some w1) z (Ar i.1) z)/\m' g2=some o2/\∃ I,m' g1=some I/\D7 Ap KT u' I (Ek F.s H.s q (i.2.map (·.1))) (N+i.2.length))
  (fun i=>l1.length-i.2.length) ([],[])
  ⟨Gj.nil _ _,Ab _ _ _,by rw[Ad _ _ i2];exact ah,o1,by rw[Ad _ _ i1];exact ag,by
   have:Ek F.s H.s q (([]:List (Par×Value)).map (·.1))=F.s:=by funext k;simp[Ek]
   dsimp only;rw[this];exact h1.mono a3⟩ ?_
 rintro J ⟨D,L⟩ hJ u3 m3 ai ⟨hS,an,C,I,Y,hR⟩;simp only at hS an C Y hR hJ;have j:=a3.trans ai;refine G.mapNextL Bq.inj it w1 es1 z l1 D L kV kV an (.inl (j _ _ e1)) Z ac ap hS ?done1 ?next1
 case next1 =>
  rintro⟨k,xv⟩ e hp hkn he hek hev hS';simp only at hkn hek hev;have hx:=(b8 _ hp).1;simp only at hx;obtain⟨yb,ya,yn,yc,bi,bk,bj,rfl,_⟩:=hx.opn;refine G.mapEntry it w1 es1 z D e kV (Ab _ _ _) (.inl (j _ _ e1)) Z he ?_;rw[hek,hev];refine G.c call28 (Gh (hx.mono j) (hk.mono j) (SB.ten (sH.s k)) hq.ten) ?_;intro v4 u4 a5 r4;obtain⟨b4,a4,x4,c4,b3,bh,b5,rfl,_⟩:=r4.opn;refine G.callG _ _ kV kV call109 (g:=g1) (o:=I) (by rw[Ad _ _ i1];exact Y)
   (Oi (g2:=some g2) (y1:=b2) (y2:=(a2,x2,c2)) (y3:=false) (y4:=(U,a6,V)) (hR.mono a5) r4 (sK.s k) (O3 sF.s sR.s k) (by
    have:Ek F.s H.s q (L.map (·.1)) k=F.s k:=by unfold Ek;rw[if_neg hkn]
    rw[this,A46];exact sR.s k)) ?_
  intro v5 u5 o5 aj r5;rw[Jo _ _ _ hkn]at r5;refine G.b (hJ (D++[e],L++[(k,_)]) _ _ _ cV ((ai.trans a5).trans aj)
   ⟨hS',by rw[Ad _ _ (Ne.symm i1),Ab],by rw[Ad _ _ (Ne.symm a9),Ad _ _ i2];exact C,o5,Ab _ _ _,by
    simpa[A3p] using r5⟩ (by have:=hS'.len;simp at this;dsimp only;simp;omega))
 case done1 =>
 intro al;have b6:Ek F.s H.s q (L.map (·.1))=(F.add (H.scale q)).s:=Me _ _ _ fun k hk=>bb k fun hm=>hk (by
  obtain⟨p,hp,rfl⟩:=A1b.1 hm;exact A1b.2 ⟨p,al p hp,rfl⟩)
 rw[b6]at hR;have bp:=hS.len;refine G.mapRange w2 W h 175 69 kV (.inl (j _ _ e2)) ?_;intro E aa bm;have j1:g1≠E:=fun e=>by subst e;rw[aa]at Y;cases Y
 have j2:g2≠E:=fun e=>by subst e;rw[aa]at C;cases C
 refine G.l (ι:=List MapEntry×List ((Par×Par)×Value)) (fun _=>[(3,.p 0 0),(4,.p 1 0),(5,.p 2 0),(6,.p 3 0),(35,.v (.pointer (some ⟨E,0,none⟩)))])
  (fun _=>[(0,⟨108,[bV b2,sV a2 x2 c2,bV false,sV U a6 V,.v (.map (some g1)),.v (.map (some g2))]⟩),(1,⟨108,[bV wb,sV wa wn wc,bV ay,sV ax b0 az,.v (.map (some w1)),.v (.map (some w2))]⟩),(2,⟨69,[bV kb,sV ka kn kc,bV false,sV ar av au]⟩),(3,⟨108,[bV false,sV none 0 0,bV false,sV none 0 0,.v (.map none),.v (.map none)]⟩)])
  (fun i u' m'=>Gj prV W l2 i.1 i.2/\m' E=some (.mapIter (some w2) h (Ar i.1) h)/\m' g1=some I/\∃ T,m' g2=some T/\D7 prV KO u' T (Ek F.t H.t q (i.2.map (·.1))) (N+i.2.length))
  (fun i=>l2.length-i.2.length) ([],[])
  ⟨Gj.nil _ _,Ab _ _ _,by rw[Ad _ _ j1];exact Y,o2,by rw[Ad _ _ j2];exact C,by
   have:Ek F.t H.t q (([]:List ((Par×Par)×Value)).map (·.1))=F.t:=by funext k;simp[Ek]
   dsimp only;rw[this];exact h2.mono j⟩ ?_
 rintro J2 ⟨D2,L2⟩ ak u6 m6 a8 ⟨ae,ab,O,T,K,a7⟩;simp only at ae ab O K a7 ak;have Q:=j.trans a8;refine G.mapNextL I1.inj E w2 W h l2 D2 L2 kV kV ab (.inl (Q _ _ e2)) a0 ad aq ae ?done2 ?next2
 case next2 =>
  rintro⟨k,xv⟩ e hp hkn he hek hev hS';simp only at hkn hek hev;obtain⟨hx,ao⟩:=b9 _ hp;simp only at hx ao;have X:=ao.fix;obtain⟨yb,ya,yn,yc,bi,bk,bj,rfl,_⟩:=hx.opn;refine G.mapEntry E w2 W h D2 e kV (Ab _ _ _) (.inl (Q _ _ e2)) a0 he ?_;rw[hek,hev];refine G.pub 8003 175 [.int .i64 k.1.1,.string (mkS k.1.2),.int .i64 k.2.1,.string (mkS k.2.2)] kV kV ?_;intro bq bu R;have q1:g1≠bq:=fun e=>by subst e;rw[Ad _ _ j1,O]at R;cases R
  have q2:g2≠bq:=fun e=>by subst e;rw[Ad _ _ j2,K]at R;cases R
  have q3:E≠bq:=fun e=>by subst e;rw[Ab]at R;cases R
  obtain⟨bf,bg⟩:=Aly (m:=(m6.upd E (.mapIter (some w2) h (Ar (D2++[e])) h)).upd bq (.cells [Value.int .i64 k.1.1,.string (mkS k.1.2),.int .i64 k.2.1,.string (mkS k.2.2)].toArray 175 (0,0))) (Ab _ _ _);refine G.addrA 175 118 2 bq 0 0 2 kV kV kV kV oV<|G.lM (some 2) bq (0+0*2) (.agg #[.int .i64 k.1.1,.string (mkS k.1.2)]) bf<|G.addrA 175 118 2 bq 0 1 2 kV kV kV kV oV<|G.lM (some 2) bq (0+1*2) (.agg #[.int .i64 k.2.1,.string (mkS k.2.2)]) bg<|G.c call28 (Gh (hx.mono Q) (hk.mono Q) (SB.ten (sH.t k)) hq.ten) ?_;intro v4 u4 a5 r4;obtain⟨b4,a4,x4,c4,b3,bh,b5,rfl,_⟩:=r4.opn;refine G.callG _ _ kV kV call110 (g:=g2) (o:=T) (by rw[Ad _ _ q2,Ad _ _ j2];exact K)
   (H7 (g1:=some g1) (y1:=b2) (y2:=(a2,x2,c2)) (y3:=false) (y4:=(U,a6,V)) (p:=k.1) (r:=k.2) (a7.mono a5) r4 (sK.t k) (by rw[X];exact O3 sF.t sR.t k) (by
    have:Ek F.t H.t q (L2.map (·.1)) k=F.t k:=by unfold Ek;rw[if_neg hkn]
    rw[X,this,A46];exact sR.t k)) ?_
  intro v5 u5 o5 aj r5;rw[X,Jo _ _ _ hkn]at r5;refine G.b (ak (D2++[e],L2++[(k,_)]) _ _ _ cV ((a8.trans a5).trans aj)
   ⟨hS',by rw[Ad _ _ (Ne.symm j2),Ad _ _ q3,Ab],by rw[Ad _ _ a9,Ad _ _ q1,Ad _ _ j1];exact O,o5,Ab _ _ _,by
    simpa[A3p] using r5⟩ (by have:=hS'.len;simp at this;dsimp only;simp;omega))
 case done2 =>
 intro af;have b7:Ek F.t H.t q (L2.map (·.1))=(F.add (H.scale q)).t:=Me _ _ _ fun k hk=>bd k fun hm=>hk (by
  obtain⟨p,hp,rfl⟩:=A1b.1 hm;exact A1b.2 ⟨p,af p hp,rfl⟩)
 rw[b7]at a7;have bl:=ae.len;refine G.drop ((PH.mt.upd g1 I).upd g2 T) kV (fun g o hg=>by
  by_cases e:g=g2
  ·subst e;rw[Ab]at hg;cases hg;exact K
  rw[Ad _ _ e]at hg;by_cases e:g=g1
  ·subst e;rw[Ab]at hg;cases hg;exact O
  rw[Ad _ _ e]at hg;cases hg) ?_
 exact G.r (.agg #[.bool b2,.slice a2 x2 c2,.bool false,.slice U a6 V,.map (some g1),.map (some g2)]) ⟨_,_,_,_,_,_,_,_,g1,g2,I,T,rfl,r2.mono (ai.trans a8),a9,rfl,(hR.mono a8).up oV,a7.up oV⟩
end
end Go.Proofs.YtemmheaocgmebaaGreatDoor
