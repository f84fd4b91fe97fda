/- Parts of one proof, joined by a program. -/
import Derived.Test.YtnafchoihfnkeaaGreatDoorS06
import Derived.MapKept
import Derived.Laws.IdiomRangeMap
import Derived.Laws.StructEq
import Derived.ChangeKeysEq
set_option linter.defProp false
set_option linter.unusedVariables false
set_option linter.unusedSimpArgs false
set_option linter.unusedSectionVars false
set_option maxHeartbeats 16000000
namespace Go.Proofs.YtnafchoihfnkeaaGreatDoor
open Go.Proofs.Tryz
open Go.RowKit
def Axd:=@List.map_nil
def A2d:=@Int.tmod_lt_of_pos
def A2e:=@Int.lt_tmod_of_pos
def Aw7:=@Bool.false_eq_true
def Ayq:=@Array.getElem?_toList
def Az1:=@Array.getElem?_modify
def A1q:=@UInt8.lt_iff_toNat_lt
def A07:=@Prod.ext
def A0q:=@List.pairwise_cons
def A2g:=@Array.forIn_toList
def A1e:=@List.forIn_cons
def A1r:=@List.forIn_nil
section
variable {S:Nat}{p:List Rat}{u:PH}{v:Value}
def rb (S:Nat):Nat->Nat
 |0=>S
 |t+1=>rb S t+(rb S t+S+S)+1
def Ajd {S t:Nat}(d:t<=5)(n:S<=1000000):rb S t<=200000000:=by
 have h0:rb S 0=S:=rfl;have e:rb S 1=rb S 0+(rb S 0+S+S)+1:=rfl;have g:rb S 2=rb S 1+(rb S 1+S+S)+1:=rfl;have h:rb S 3=rb S 2+(rb S 2+S+S)+1:=rfl;have j:rb S 4=rb S 3+(rb S 3+S+S)+1:=rfl;have m:rb S 5=rb S 4+(rb S 4+S+S)+1:=rfl
 match t,d with
 |0,_=>omega
 |1,_=>omega
 |2,_=>omega
 |3,_=>omega
 |4,_=>omega
 |5,_=>omega
structure DI2 where
 cnt:Nat
 z:Int
 eq:List Value
 er:List Value
 Q:List Rat
 R:List Rat
def Afk {v v':Value}{p q:List Rat}(h:Bn u v p)(h':Bn u v' q)(hs:SzL p S)(aw:SzL q S)(hS:S<=1000000)(hp:p≠[])(c6:p.length<=5)(hq:q≠[])(ca:q.length<=5)(hl:gR q (q.length-1)≠0) :
 Fn0 prog 137 [v,v'] u fun r u'=>∃ r1 r2,r=.tuple #[r1,r2]/\Bn u' r1 (Aqm p q)/\Bn u' r2 (Aak p q):=by
 obtain⟨a,c,rfl⟩:=h.opn;obtain⟨a',c',rfl⟩:=h'.opn;have c7:=Avq.2 hp;have cc:=Avq.2 hq;obtain⟨U,bg,an⟩:=id h;have a7:AtP An u U p:=an;have W:U.length=p.length:=an.1;have aa:U≠[]:=by intro e;rw[e]at W;simp at W;omega
 have zero:((0:Int):Rat)=0:=fV;have ce:∀ {x:Rat} {t:Nat},Sz x (rb S t)->t<=5->Sz x 1000000000000:=fun h1 h2=>h1.mono (As9 (Ajd h2 hS) oV);refine Fn0.o func137<|G.callO _ _ kV call119 (Vj bg a7.ok4 aa oV) ?_;intro v1 u1 m1 l1 a5 c3;rw[C3];obtain⟨d,T,rfl⟩:=a5.ptr aa;rw[W]at a5⊢;refine G.c call56 (Dk (z:=0) oV oV) ?_;intro v2 u2 l2 k2;rw[zero]at k2;obtain⟨f2,rfl⟩:=k2.opF;refine G.B 103 4 64 zF [fv f2] (Rc f2) ?_;intro g3 u3 l3 e3;refine G.sub (p.length:Int) (q.length:Int) ((p.length:Int)-(q.length:Int)) kV rfl oV oV<|G.add ((p.length:Int)-(q.length:Int)) 1 ((p.length:Int)-(q.length:Int)+1) kV rfl oV oV ?_;obtain⟨n,hn⟩:∃ n,n=p.length+1-q.length:=⟨_,rfl⟩;refine G.maxI [3,3] 0 ((p.length:Int)-(q.length:Int)+1) (n:Int) kV oV ?_;have bh:Ad u3 (.slice (some ⟨g3,0,none⟩) 1 1) 4 [fv f2]:=⟨_,1,rfl,Atb _,fun j e hj=>⟨g3,0,rfl,e3 j e hj⟩⟩;refine G.callO _ _ kV call188 (Ajq (n:=n) bh (Rc f2) oV) ?_;intro v4 u4 m4 l4 ac bm;have V:=ac.join bm;obtain⟨a4,P,rfl⟩:=ac.shape;rw[Aur]at V⊢;have g:Bag (m1.or m4) [C4 (.slice a4 n P) (List.replicate n (fv f2)),C4 (.slice (some ⟨d,0,none⟩) p.length T) U]:=⟨m1,V,PH.mt,a5,trivial⟩;refine G.sub (n:Int) 1 ((n:Int)-1) kV rfl oV oV<|G.l (ι:=DI2) (fun s=>[(1,sV a' q.length c'),(4,sV a4 n P),(5,sV (some ⟨d,0,none⟩) p.length T),(6,iV s.z)]) (fun _=>[])
  (fun s u' m'=>s.z=(s.cnt:Int)-1/\s.cnt<=n/\s.Q.length=n/\s.R.length=p.length/\Aa9 q s.cnt s.Q s.R=Aqr p q/\SzL s.R (rb S (n-s.cnt))/\AtP An u' s.eq s.Q/\AtP An u' s.er s.R/\Bag m' [C4 (.slice a4 n P) s.eq,C4 (.slice (some ⟨d,0,none⟩) p.length T) s.er])
  (fun s=>s.cnt) ⟨n,(n:Int)-1,List.replicate n (fv f2),U,List.replicate n 0,p⟩
  ⟨rfl,Atb _,mV,rfl,by dsimp only;rw[hn];rfl,by dsimp only;rw[Avc];exact hs,AtP.rep (k2.mono (l3.trans l4)) n,a7.mono (fun _ _ h=>h.mono (((l1.trans l2).trans l3).trans l4)),g⟩ ?_
 clear g V ac a5;rintro J ⟨ak,z,eq,er,Q,R⟩ hJ u5 m5 l5 ⟨hz,bk,ap,aq,Y,m,N,I,g⟩;simp only at hz bk ap aq Y m N I g hJ;have bu:=I.1;have a9:=N.1;have av:PH.le u u5:=(((l1.trans l2).trans l3).trans l4).trans l5;by_cases c5:0<=z
 ·obtain⟨t,rfl⟩:∃ t:Nat,z=(t:Int):=⟨z.toNat,oV⟩;obtain rfl:ak=t+1:=oV;refine G.hT t 0 ?_;obtain⟨B,hB⟩:∃ B,B=rb S (n-(t+1)):=⟨_,rfl⟩;have c0:rb S (n-t)=B+(B+S+S)+1:=by rw[show n-t=(n-(t+1))+1 by omega,rb,hB]
  have bt:B<=200000000:=by rw[hB];exact Ajd oV hS
  rw[<-hB]at m;have ai:t+q.length-1<R.length:=oV;obtain⟨e6,bl,ag⟩:=I.at ai;rw[<-Gd ai]at ag;obtain⟨f6,rfl⟩:=ag.opF;have am:ElP m5 d (0+(t+q.length-1)*4) (fv f6):=g.el 1 rfl rfl bl;obtain⟨b7,o7,b1,a1,n1,c1,b2,a2,n2,c2,rfl,e7,bn⟩:=(h'.mono av).at (j:=q.length-1) oV;refine G.p t q.length (t+q.length:Nat)<|G.s (t+q.length:Nat) 1 (t+q.length-1:Nat)<|G.a d 0 p.length T (t+q.length-1) 4 oV<|G.lM (some 4) d (0+(t+q.length-1)*4) _ am<|G.s q.length 1 (q.length-1:Nat)<|G.a b7 o7 q.length c' (q.length-1) 4 oV<|G.lU (some 4) b7 (o7+(q.length-1)*4) _ e7 ?_;have ax:=m.at ai;have ay:=aw.at (i:=q.length-1) oV;have az:=Aj0 ax ay hl;refine G.c call39 (Ih ag bn (ax.mono oV) (ay.mono oV) hl) ?_;intro v8 u8 l8 k8;obtain⟨f8,rfl⟩:=k8.opF;generalize hF:gR R (t+q.length-1)/gR q (q.length-1)=F at *
  obtain⟨bq,cq,al⟩:=g.ptr 0 rfl (by intro e;simp only[C4]at e;rw[e]at a9;simp at a9;omega);simp only[C4,Value.slice.injEq]at al;obtain⟨rfl,_,rfl⟩:=al;obtain⟨m0,E,O⟩:=g.focus 0 rfl;rw[H3]at E;refine G.a bq 0 n P t 4 oV<|G.storeA 4 m0 eq bq n P t (fv f8) kV E oV rfl rfl ?_;intro m9 b8;have K:Bag m9 [C4 (.slice (some ⟨bq,0,none⟩) n P) (eq.set t (fv f8)),C4 (.slice (some ⟨d,0,none⟩) p.length T) er]:=O (C4 (.slice (some ⟨bq,0,none⟩) n P) (eq.set t (fv f8))) m9 b8;clear O E b8;refine G.l (ι:=Nat×List Value×List Rat) (fun i=>[(1,sV (some ⟨b7,o7,none⟩) q.length c'),(4,sV (some ⟨bq,0,none⟩) n P),(5,sV (some ⟨d,0,none⟩) p.length T),(6,iV t),(7,.p 6015 0),(48,sV (some ⟨b7,o7,none⟩) q.length c'),(49,iV q.length),(50,iV i.1)])
   (fun _=>[(6015,⟨103,fc f8⟩)])
   (fun i u' m'=>i.1<=q.length/\i.2.2.length=p.length/\Xj q F t (q.length-i.1) i.1 i.2.2=Xj q F t q.length 0 R/\SzL i.2.2 (rb S (n-t))/\(∀ j,t+i.1<=j->j<p.length->Sz (gR i.2.2 j) B)/\AtP An u' i.2.1 i.2.2/\Bag m' [C4 (.slice (some ⟨bq,0,none⟩) n P) (eq.set t (fv f8)),C4 (.slice (some ⟨d,0,none⟩) p.length T) i.2.1])
   (fun i=>q.length-i.1) (0,er,R)
   ⟨Atu _,aq,rfl,m.mono oV,fun j _ h2=>m.at oV,I.mono (fun _ _ h=>h.mono l8),K⟩ ?_
  rintro J2 ⟨i,a3,R2⟩ ao u9 br l9 ⟨hi,ae,a6,L,Z,H,C⟩;simp only at hi ae a6 L Z H C ao;have bv:=H.1;by_cases ah:i<q.length
  ·refine G.lT i q.length ?_;obtain⟨bw,cd,d1,d2,d3,d4,d5,d6,d7,d8,be,bc,au⟩:=(h'.mono (av.trans (l8.trans l9))).at (j:=i) ah;cases be;refine G.a b7 o7 q.length c' i 4 ah<|G.lU (some 4) b7 (o7+i*4) _ bc ?_;have a0:t+i<R2.length:=oV;obtain⟨bx,ar,X⟩:=H.at a0;rw[<-Gd a0]at X;obtain⟨bf,rfl⟩:=X.opF;have ad:ElP br d (0+(t+i)*4) (fv bf):=C.el 1 rfl rfl ar;refine G.p t i (t+i:Nat)<|G.p t i (t+i:Nat)<|G.a d 0 p.length T (t+i) 4 oV<|G.lM (some 4) d (0+(t+i)*4) _ ad ?_;have b4:=aw.at ah;have b0:=Zc az b4;have b3:=Z (t+i) (Atb _) oV;refine G.c call42 (L5 (k8.mono l9) au (az.mono oV) (b4.mono oV)) ?_;intro ci cg aj b9;obtain⟨bz,rfl⟩:=b9.opF;refine G.c call40 (Abc (X.mono aj) b9 (b3.mono oV) (b0.mono oV)) ?_;intro cj ch bb ba;obtain⟨ab,rfl⟩:=ba.opF;have bo:Sz (gR R2 (t+i)-F*gR q i) (rb S (n-t)):=(Ao8 b3 b0).mono oV;obtain⟨m0,E,O⟩:=C.focus 1 rfl;rw[H3]at E;refine G.a d 0 p.length T (t+i) 4 oV<|G.storeA 4 m0 a3 d p.length T (t+i) (fv ab) kV E oV rfl rfl ?_;intro bs b6;have af:=O (C4 (.slice (some ⟨d,0,none⟩) p.length T) (a3.set (t+i) (fv ab))) bs b6;refine G.i i<|G.b (ao (i+1,a3.set (t+i) (fv ab),R2.set (t+i) (gR R2 (t+i)-F*gR q i)) _ _ _ cV ((l9.trans aj).trans bb) ⟨dV,by simp[ae],?_,L.set bo,?_,?_,af⟩ dV)
   ·dsimp only;rw[<-a6,show q.length-i=(q.length-(i+1))+1 by omega,Xj]
   ·intro j h1 h2;dsimp only at h1⊢;rw[Yb a0,if_neg oV];exact Z j oV h2
   exact (H.mono (fun _ _ h=>h.mono (aj.trans bb))).set (t+i) ba
  obtain rfl:i=q.length:=oV;refine G.lF q.length q.length ?_;rw[Avc,Xj]at a6;refine G.sub (t:Int) 1 ((t:Int)-1) kV rfl oV oV<|G.b (hJ ⟨t,(t:Int)-1,eq.set t (fv f8),a3,Q.set t F,R2⟩ _ _ _ cV ((l5.trans l8).trans l9) ⟨rfl,dV,by simp[ap],ae,?_,L,?_,H,C⟩ dV)
  ·dsimp only;rw[<-Y,Aa9,hF,a6]
  exact (N.mono (fun _ _ h=>h.mono (l8.trans l9))).set t (k8.mono l9)
 obtain rfl:ak=0:=oV;refine G.hF z 0 ?_;rw[Aa9]at Y;obtain⟨m0,E,K⟩:=g.take 1 rfl;rw[H3]at E;refine G.give m0 er _ kV E (fun _=>.inl rfl) ?_;intro u6 l6 bj;obtain⟨bp,b5,_⟩:=K.take 0 rfl;rw[H3]at b5;refine G.give bp eq _ kV b5 (fun _=>.inl rfl) ?_;intro u7 l7 bi;refine G.drop PH.mt kV (PH.mt_le _) ?_;have hR:Bn u7 (.slice (some ⟨d,0,none⟩) p.length T) R:=⟨er,bj.mono l7,I.mono (fun _ _ h=>h.mono (l6.trans l7))⟩;have hQ:Bn u7 (.slice a4 n P) Q:=⟨eq,bi,N.mono (fun _ _ h=>h.mono (l6.trans l7))⟩;refine G.c call189 (Asb hR m (As9 (Ajd oV hS) oV) oV) ?_;intro v8 u8 l8 k8;obtain⟨a8,c8,rfl⟩:=k8.opn;refine G.r (.tuple #[.slice a4 n P,.slice a8 (Xk R).length c8]) ⟨rfl,.slice a4 n P,.slice a8 (Xk R).length c8,rfl,?_,?_⟩
 ·unfold Aqm;rw[<-Y];exact hQ.mono l8
 unfold Aak;rw[<-Y];exact k8
def Al8:Nat->List Rat->List Rat->Prop
 |_,_,[]=>True
 |0,_,_::_=>False
 |f+1,a,x::b=>gR (x::b) ((x::b).length-1)≠0/\a≠[]/\a.length<=5/\(x::b).length<=5/\SzL a 1000000/\SzL (x::b) 1000000/\Al8 f (x::b) (Aak a (x::b))
def Iv:Nat->List Rat->List Rat->List Rat
 |0,a,_=>a
 |f+1,a,b=>if b = [] then a else Iv f b (Aak a b)
def Ahv:∀ (f:Nat) (a:List Rat),Iv f a []=a
 |0,_=>rfl
 |f+1,_=>by simp[Iv]
def Ey (f:Nat)(p:List Rat):List Rat:=Aqm p (Iv f p (Og p))
structure Aiu (f:Nat)(p:List Rat):Prop where
 ok:Al8 f p (Og p)
 ne:p≠[]
 len:p.length<=5
 sz:SzL p 1000000
 ne':Iv f p (Og p)≠[]
 len':(Iv f p (Og p)).length<=5
 sz':SzL (Iv f p (Og p)) 1000000
 last:gR (Iv f p (Og p)) ((Iv f p (Og p)).length-1)≠0
def Ao4 {f:Nat}(h:Bn u v p)(hp:Aiu f p):Fn0 prog 68 [v] u fun v' n=>Bn n v' (Ey f p):=by
 obtain⟨a,c,rfl⟩:=h.opn;have g:=hp.len;refine Fn0.o func68<|G.c call136 (Ab2 h hp.sz oV oV) ?_;intro v1 u1 L K;obtain⟨N,Q,rfl⟩:=K.opn;refine G.l (ι:=Nat×(Option Addr×Nat)×(Option Addr×Nat)×List Rat×List Rat) (fun i=>[(0,sV a p.length c),(3,sV i.2.1.1 i.2.2.2.1.length i.2.1.2),(4,sV i.2.2.1.1 i.2.2.2.2.length i.2.2.1.2)]) (fun _=>[])
  (fun i n m'=>Al8 i.1 i.2.2.2.1 i.2.2.2.2/\Iv i.1 i.2.2.2.1 i.2.2.2.2=Iv f p (Og p)/\Bn n (.slice i.2.1.1 i.2.2.2.1.length i.2.1.2) i.2.2.2.1/\Bn n (.slice i.2.2.1.1 i.2.2.2.2.length i.2.2.1.2) i.2.2.2.2/\m'=PH.mt)
  (fun i=>i.1) (f,(a,c),(N,Q),p,Og p) ⟨hp.ok,rfl,h.mono L,K,rfl⟩ ?_
 rintro J ⟨k,⟨a2,c2⟩,⟨O,R⟩,x,y⟩ I u2 m2 l2 ⟨e,d,t,z,rfl⟩;simp only at e d t z I;cases y with
 |nil =>
  refine G.gF (0:Nat) 0 ?_;rw[Ahv]at d;subst d;refine G.c call137 (Afk (h.mono (L.trans l2)) t hp.sz hp.sz' oV hp.ne g hp.ne' hp.len' hp.last) ?_;rintro v4 u4 C ⟨r1,r2,rfl,j,m⟩;obtain⟨P,T,rfl⟩:=j.opn;obtain⟨F,H,rfl⟩:=m.opn;exact G.r _ ⟨rfl,j⟩
 |cons E y =>
  cases k with
  |zero=>exact e.elim
  |succ k =>
   obtain⟨U,V,W,X,Y,Z,h7⟩:=e;refine G.gT' (((E::y).length:Nat):Int) 0 mV<|G.c call137 (Afk t z Y Z oV V W mV X U) ?_;rintro v4 u4 C ⟨r1,r2,rfl,j,m⟩;obtain⟨P,T,rfl⟩:=j.opn;obtain⟨F,H,rfl⟩:=m.opn;refine G.b (I (k,(O,R),(F,H),E::y,Aak x (E::y)) _ _ _ cV (l2.trans C) ⟨h7,?_,z.mono C,m,rfl⟩ dV);dsimp only;rw[<-d,Iv,if_neg mV]
end
def Zf (q:Rat):Rat:=if q<0 then -q else q
def Ku (r:List Rat):Nat->Nat->Rat->Rat
 |0,_,s=>s
 |f+1,i,s=>Ku r f (i+1) (s+Zf (gR r i))
def Q4:Nat->Rat->Rat->Rat
 |0,o,_=>o
 |f+1,o,s=>if o<s then Q4 f (o+o) s else o
def Abt (F:Nat)(A:List (List Rat)):Nat->Nat->Rat->Rat
 |0,_,o=>o
 |f+1,i,o=>Abt F A f (i+1) (Q4 F o (Ku (gM A i) (gM A i).length 0 0))
def P7 (F:Nat)(A:List (List Rat)):Rat:=Abt F A A.length 0 1
def B3 (q:Rat):Bool:=decide (q.num.natAbs<10^100)&&decide (q.den<10^100)
def Ah3:Nat->Rat->Rat->Bool
 |0,o,s=>B3 o && !decide (o<s)
 |f+1,o,s=>B3 o&&(!decide (o<s)||Ah3 f (o+o) s)
def Acv (F:Nat)(A:List (List Rat)):Nat->Nat->Rat->Bool
 |0,_,o=>B3 o
 |f+1,i,o=>Ah3 F o (Ku (gM A i) (gM A i).length 0 0)&&Acv F A f (i+1) (Q4 F o (Ku (gM A i) (gM A i).length 0 0))
def Ma (all sim:List Rat)(h:Nat):Nat->List (Rat×Rat×Nat)->List (Rat×Rat×Int)->Option (List (Rat×Rat×Int))
 |0,_,_=>none
 |_+1,[],out=>some out
 |f+1,x::st,out =>
  if B3 x.1&&B3 x.2.1 then
   if Au sim x.1 x.2.1=0 then Ma all sim h f st out
   else if Au sim x.1 x.2.1=1/\h<=x.2.2 then Ma all sim h f st (out++[(x.1,x.2.1,Au all x.1 x.2.1)])
   else if 60<=x.2.2 then none
   else Ma all sim h f ((x.1,(x.1+x.2.1)/2,x.2.2+1)::((x.1+x.2.1)/2,x.2.1,x.2.2+1)::st) out
  else none
def Al5:Option Rat->Rat->Bool
 |none,_=>true
 |some r,x=>decide (r<=x)
def Wi (p:List Rat):Option Rat->List (Rat×Rat×Int)->Int->Option Int
 |_,[],s=>some s
 |pr,x::l,s =>
  if B3 x.1&&B3 x.2.1&&decide (x.1<x.2.1)&&Al5 pr x.1&&decide (C7 p x.2.1+(Co p x.2.1:Int)-(C7 p x.1+(Co p x.1:Int))=x.2.2)&&decide (1<=x.2.2)
  then Wi p (some x.2.1) l (s+x.2.2) else none
section
variable {q r:Rat}{u:PH}
def Eb:∀ {k n:Nat} (_:0<k) (_:n<10^k),Lib.nDigits n<=k
 |0,n,hk,h=>oV
 |k+1,n,hk,h=>by
  by_cases e:n<10
  ·rw[Lib.nDigits_small e];omega
  rw[Lib.nDigits_big e];have d:0<k:=by
   rcases At5 k with h0|h0
   ·subst h0;simp at h;omega
   exact h0
  have:=Eb (k:=k) (n:=n/10) d (by rw[Au4 oV,<-Auc];exact h);omega
def C0 (h:B3 q=true):Tx q/\Sz q 12:=by
 simp only[B3,Atj,decide_eq_true_eq]at h;have d:=Eb oV h.1;have g:=Eb oV h.2;have e:(10:Nat)^100<=1000000000^12:=fV
 exact⟨⟨oV,oV⟩,A0 (Auf h.1 e),A0 (Auf h.2 e)⟩
theorem Afi :sg (q-r)<0↔q<r:=by
 rcases Js (q-r) with ⟨h,e⟩|⟨h,e⟩|⟨h,e⟩
 ·rw[e];exact⟨fun _=>by grind,fun _=>oV⟩
 ·rw[e];exact⟨fun d=>oV,fun d=>by grind⟩
 rw[e];exact⟨fun d=>oV,fun d=>by grind⟩
def Zm {x d:Value}(h:An u x q)(e:An u d r)(g:Sz q 1000000000000)(j:Sz r 1000000000000):Fn0 prog 138 [x,d] u fun v _=>v=.int .i64 (sg (q-r)):=by
 rw[<-Ru,<-Ae4];exact Pq h e g j
def Aky {k:Nat}(h:Sz q k):Sz (Zf q) k:=by
 unfold Zf;split
 ·exact Ajy h
 exact h
def Aql {v:Value}{A:List (List Rat)}{T F:Nat}(h:Bw u v (Bq A))(hA:M2 A T)(hb:Acv F A A.length 0 1=true) :
 Fn0 prog 69 [v] u fun v' Z=>An Z v' (P7 F A):=by
 obtain⟨a,c,rfl⟩:=h.opn;rw[Ba]at h⊢;have ad:=hA.le;have hT:=hA.tle;have one:((1:Int):Rat)=1:=fV;have zero:((0:Int):Rat)=0:=fV;refine Fn0.o func69<|G.c call56 (Dk (z:=1) oV oV) ?_;intro v1 u1 l1 k1;rw[one]at k1;obtain⟨f1,rfl⟩:=k1.opF;refine G.l (ι:=Nat×F4×Rat) (fun i=>[(2,.p 0 0),(3,.p 1001 0),(10,sV a A.length c),(11,iV A.length),(12,iV i.1)])
  (fun i=>[(0,⟨103,[bV false,sV none 0 0,bV false,sV none 0 0]⟩),(1001,⟨103,fc i.2.1⟩)])
  (fun i Z m'=>i.1<=A.length/\Acv F A (A.length-i.1) i.1 i.2.2=true/\Abt F A (A.length-i.1) i.1 i.2.2=P7 F A/\An Z (fv i.2.1) i.2.2/\m'=PH.mt)
  (fun i=>A.length-i.1) (0,f1,1) ⟨Atu _,hb,rfl,k1,rfl⟩ ?_
 rintro J ⟨i,fo,o⟩ hJ u2 m2 l2 ⟨hi,m,d,ho,rfl⟩;simp only at hi m d ho hJ;by_cases X:i<A.length
 ·refine G.lT i A.length ?_;have a9:A[i]?=some A[i]:=As5 X;have K:=Ath X;have a1:=Rd X;have ae:A[i].length=A.length:=hA.sq.row _ K;obtain⟨ba,oa,a3,c3,rfl,e3,s3⟩:=(h.mono (l1.trans l2)).row (Es a9);rw[Ata]at e3 s3;refine G.a ba oa A.length c i 1 oV<|G.lU none ba (oa+i*1) _ e3<|G.c call56 (Dk (z:=0) oV oV) ?_;intro v4 u4 l4 k4;rw[zero]at k4;obtain⟨f4,rfl⟩:=k4.opF;refine G.c call117 (Qe (Ad.mono s3 l4) (hA.sq.tx _ K) oV) ?_;intro v5 u5 l5 k5;obtain⟨a5,c5,rfl⟩:=k5.opn;have a4:=hA.sz _ K;rw[show A.length-i=(A.length-(i+1))+1 by omega,Acv,Atj,a1]at m;rw[show A.length-i=(A.length-(i+1))+1 by omega,Abt,a1]at d;generalize A[i]=r at *
  refine G.l (ι:=Nat×F4×Rat) (fun j=>[(2,.p 0 0),(3,.p 1001 0),(10,sV (some ⟨ba,oa,none⟩) A.length c),(11,iV A.length),(12,iV i),(6,.p 5001 0),(18,sV a5 r.length c5),(19,iV r.length),(20,iV j.1)])
   (fun j=>[(0,⟨103,[bV false,sV none 0 0,bV false,sV none 0 0]⟩),(1001,⟨103,fc fo⟩),(5001,⟨103,fc j.2.1⟩)])
   (fun j Z m'=>j.1<=r.length/\Ku r (r.length-j.1) j.1 j.2.2=Ku r r.length 0 0/\Sz j.2.2 (1+j.1*(T+1))/\An Z (fv j.2.1) j.2.2/\m'=PH.mt)
   (fun j=>r.length-j.1) (0,f4,0) ⟨Atu _,rfl,Mn.mono oV,k4.mono l5,rfl⟩ ?_
  rintro J2 ⟨j,fs,s⟩ U u6 m6 l6 ⟨hj,H,N,hs,rfl⟩;simp only at hj H N hs U;have ac:j*(T+1)<=4*(T+1):=Ats _ oV;by_cases I:j<r.length
  ·refine G.lT j r.length ?_;obtain⟨b7,o7,d1,d2,d3,d4,d5,d6,d7,d8,rfl,e7,W⟩:=(k5.mono l6).at (j:=j) I;have L:=a4.at I;refine G.a b7 o7 r.length c5 j 4 I<|G.lU (some 4) b7 (o7+j*4) _ e7<|G.c call96 (J0 W L oV) ?_;rintro v8 u8 E rfl;have a7:=Nat.succ_mul j (T+1);simp only[Nat.succ_eq_add_one]at a7;have a2:=Fx N (Aky L);by_cases g:gR r j<0
   ·have P:Zf (gR r j) = -gR r j:=by unfold Zf;rw[if_pos g]
    refine G.lT' (sg (gR r j)) 0 (by rw[Qq g];omega)<|G.c call70 (Uu (W.mono E) (As9 L.1 oV)) ?_;intro v9 u9 l9 k9;obtain⟨f9,rfl⟩:=k9.opF;rw[<-P]at k9;refine G.c call57 (D4 (hs.mono (E.trans l9)) k9 (N.mono oV) ((Aky L).mono oV)) ?_;intro ab aa Y C;obtain⟨R,rfl⟩:=C.opF;refine G.i j<|G.b (U (j+1,R,s+Zf (gR r j)) _ _ _ cV (((l6.trans E).trans l9).trans Y) ⟨dV,?_,a2.mono dV,C,rfl⟩ dV);dsimp only;rw[<-H,show r.length-j=(r.length-(j+1))+1 by omega,Ku]
   have P:Zf (gR r j)=gR r j:=by unfold Zf;rw[if_neg g]
   refine G.lF' (sg (gR r j)) 0 (by rcases Js (gR r j) with ⟨h,e⟩|⟨h,e⟩|⟨h,e⟩<;>rw[e]<;>first|exact absurd h g|omega) ?_
   refine G.c call57 (D4 (hs.mono E) (W.mono E) (N.mono oV) (L.mono oV)) ?_;intro ab aa Y C;obtain⟨R,rfl⟩:=C.opF;rw[<-P]at C;refine G.i j<|G.b (U (j+1,R,s+Zf (gR r j)) _ _ _ cV ((l6.trans E).trans Y) ⟨dV,?_,a2.mono dV,C,rfl⟩ dV);dsimp only;rw[<-H,show r.length-j=(r.length-(j+1))+1 by omega,Ku,P]
  obtain rfl:j=r.length:=oV;refine G.lF r.length r.length ?_;rw[Avc,Ku]at H;rw[<-H]at m d;have a8:Sz s 1000000000000:=N.mono oV;refine G.l (ι:=Nat×F4×Rat) (fun j=>[(2,.p 0 0),(3,.p 1001 0),(10,sV (some ⟨ba,oa,none⟩) A.length c),(11,iV A.length),(12,iV i),(6,.p 5001 0)])
   (fun j=>[(0,⟨103,[bV false,sV none 0 0,bV false,sV none 0 0]⟩),(1001,⟨103,fc j.2.1⟩),(5001,⟨103,fc fs⟩)])
   (fun j Z m'=>Ah3 j.1 j.2.2 s=true/\Q4 j.1 j.2.2 s=Q4 F o s/\An Z (fv j.2.1) j.2.2/\m'=PH.mt)
   (fun j=>j.1) (F,fo,o) ⟨m.1,rfl,ho.mono ((l4.trans l5).trans l6),rfl⟩ ?_
  rintro J3 ⟨k,fp,p⟩ a0 u7 m7 l7 ⟨n,V,hp,rfl⟩;simp only at n V hp a0;have Q:B3 p=true:=by cases k<;>simp only[Ah3,Atj]at n<;>exact n.1
  have O:Sz p 1000000000000:=(C0 Q).2.mono oV;refine G.c call138 (Zm hp (hs.mono l7) O a8) ?_;rintro v8 u8 E rfl;by_cases t:p<s
  ·refine G.lT' (sg (p-s)) 0 (Afi.2 t) ?_;cases k with
   |zero=>simp[Ah3,t]at n
   |succ k =>
    refine G.c call57 (D4 (hp.mono E) (hp.mono E) O O) ?_;intro v9 u9 l9 k9;obtain⟨f9,rfl⟩:=k9.opF;simp only[Ah3,Atj,t,decide_true,Ayc,Azw]at n;refine G.b (a0 (k,f9,p+p) _ _ _ cV ((l7.trans E).trans l9) ⟨n.2,?_,k9,rfl⟩ dV);dsimp only;rw[<-V,Q4,if_pos t]
  refine G.lF' (sg (p-s)) 0 (fun h'=>t (Afi.1 h')) ?_;have a6:Q4 F o s=p:=by
   rw[<-V];cases k with
   |zero=>rfl
   |succ k=>rw[Q4,if_neg t]
  rw[a6]at m d;exact G.i i<|G.b (hJ (i+1,fp,p) _ _ _ cV (((((l2.trans l4).trans l5).trans l6).trans l7).trans E) ⟨dV,m.2,d,hp.mono E,rfl⟩ dV)
 obtain rfl:i=A.length:=oV;refine G.lF A.length A.length ?_;rw[Avc,Abt]at d;rw[d]at ho;exact G.r (fv fo) ⟨rfl,ho⟩
end
section
section rules
variable [Ca] [Df] [Pu] {P:Program} [A7 P] {fn:Func} {Post:Bz} {st:List KI×S} {u m:PH}
def G.buildM (e:TypeId)(sz Z:Nat)(z:Value)(es:List Value)(h:Al P (adv P st)=.buildS (some (e,sz,Z,z)) es.length (es.zipIdx.map fun p=>(p.2,p.1)))(E:Ax sz es)(a2:z.cells.size=sz)(T:0<sz)(Q:0<es.length)(hb:es.length*sz<=16777216)
 (k:∀ g j,Ae m j (.slice (some ⟨g,0,none⟩) es.length es.length) e sz es->G P fn Post (nx (adv P st) (.slice (some ⟨g,0,none⟩) es.length es.length)) u j):G P fn Post st u m:=by
 refine G.big (K:=fun Y U j=>U=u/\PH.le m j/\∃ g,Y=.slice (some ⟨g,0,none⟩) es.length es.length/\Ae m j (.slice (some ⟨g,0,none⟩) es.length es.length) e sz es) h mV (fun H op hv=>?_) (.inl fun v U j C=>C.2.1) (fun H o n w L=>?_) (fun Y U j a1 C=>?_)
 ·obtain⟨t,qs,rfl,_⟩:=Fm hv;rfl
 ·obtain⟨t,qs,V,e2,hi⟩:=Fm n;obtain⟨a0,a3,X,pos,F,I⟩:=o;simp only at V;subst V;obtain⟨hu,i,N,O,rfl,rfl⟩:=Dx hi;obtain⟨g1,g2,W,g4⟩:=L.newM (cs:=(Av es).toArray) (t:=e) (by simpa using E7 E);have J:=A4 E;have R:es.length*i.size≠0:=by have:=Axa Q T;omega
  have d:=Se es 0 ((Array.range (es.length*i.size)).map (z.cells[· % z.cells.size]!)) E mV;have e0:((Array.range (es.length*i.size)).map (z.cells[· % z.cells.size]!)).toList.drop (es.length*i.size) = []:=by
   apply A1i;simp
  simp only[Ax5,Ayo,Ava,Aud,e0,Auu]at d;refine Bs (w':=w.alloc (.cells (Av es).toArray e (0,0))) (v:=.slice (some ⟨w.heap.size,0,none⟩) es.length es.length) ?_ ⟨u,_,g1,g2,rfl,K5 _ W,_,rfl,E,.inr ⟨w.heap.size,es.length,[],W,by rw[Auu],rfl,Atb _,by rw[Auu,J],mV⟩⟩;simp only[execOp,e2];simp[Instr.buildSlice,run_underlying hu,sizeOf,typeInfo,zeroValue,N,O,R,d,newRow,show ¬ 16777216<es.length*i.size by omega]
 obtain⟨rfl,_,g,rfl,C⟩:=C;exact k g j C
end rules
def pc9 (x y:F4)(k:Nat):Value:=.agg #[.bool x.b,.slice x.a x.n x.c,.bool x.b',.slice x.a' x.n' x.c',.bool y.b,.slice y.a y.n y.c,.bool y.b',.slice y.a' y.n' y.c',.int .i64 k]
def Kv (x y:F4)(k:Nat):Ax 9 [pc9 x y k]:=by
 intro v d;simp at d;subst d;refine⟨rfl,fun z e=>?_⟩;simp[pc9,Value.cells]at e;rcases e with rfl|rfl|rfl|rfl|rfl|rfl|rfl|rfl|rfl<;>rfl
def zP:Value:=.agg #[.bool false,.slice none 0 0,.bool false,.slice none 0 0,.bool false,.slice none 0 0,.bool false,.slice none 0 0,.int .i64 0]
structure Pc where
 x:F4
 y:F4
 lo:Rat
 hi:Rat
 k:Nat
def Pc.val (p:Pc):Value:=pc9 p.x p.y p.k
def Pc.plain (p:Pc):Rat×Rat×Nat:=(p.lo,p.hi,p.k)
structure Ajb (u:PH)(p:Pc):Prop where
 lo:An u (fv p.x) p.lo
 hi:An u (fv p.y) p.hi
 k:p.k<=60
def Ajb.mono {u e:PH}{p:Pc}(h:Ajb u p)(d:PH.le u e):Ajb e p:=⟨h.lo.mono d,h.hi.mono d,h.k⟩
def Oz (v:Value)(es:List Value):Arr:=⟨v,144,9,es⟩
def Abq (v:Value)(es:List Value):Arr:=⟨v,148,2,es⟩
def Z5 (v:Value)(es:List Value):Arr:=⟨v,3,1,es⟩
def ivV (x:Rat×Rat×Int):Value:=.agg #[.string (mkS (Ap x.1)),.string (mkS (Ap x.2.1))]
def muV (x:Rat×Rat×Int):Value:=.int .i64 x.2.2
def Amw (l:List (Rat×Rat×Int)):Ax 2 (l.map ivV):=by
 intro e g;obtain⟨x,_,rfl⟩:=Ate.1 g;exact⟨rfl,fun y d=>by simp[ivV,Value.cells]at d;rcases d with rfl|rfl<;>rfl⟩
def Ai7 (l:List (Rat×Rat×Int)):Ax 1 (l.map muV):=by
 intro e g;obtain⟨x,_,rfl⟩:=Ate.1 g;exact⟨rfl,fun y d=>by simp[muV,Value.cells]at d;subst d;rfl⟩
def Lf (u:PH)(v:Value)(res:List (Rat×Rat×Int)):Prop:=∃ a c a' c',v=.agg #[.slice a res.length c,.slice a' res.length c']/\Ad u (.slice a res.length c) 2 (res.map ivV)/\Ad u (.slice a' res.length c') 1 (res.map muV)
structure SpI where
 f:Nat
 st:List Pc
 out:List (Rat×Rat×Int)
 sa:Option Addr
 sn:Nat
 sc:Nat
 ia:Option Addr
 ic:Nat
 ma:Option Addr
 mc:Nat
def La (all sim:List Rat)(h:Nat):Nat->List (Rat×Rat×Nat)->List (Rat×Rat×Int)->Option (Option (List (Rat×Rat×Int)))
 |0,_,_=>none
 |_+1,[],out=>some (some out)
 |f+1,x::st,out =>
  if B3 x.1&&B3 x.2.1 then
   if Au sim x.1 x.2.1=0 then La all sim h f st out
   else if Au sim x.1 x.2.1=1/\h<=x.2.2 then La all sim h f st (out++[(x.1,x.2.1,Au all x.1 x.2.1)])
   else if 60<=x.2.2 then some none
   else La all sim h f ((x.1,(x.1+x.2.1)/2,x.2.2+1)::((x.1+x.2.1)/2,x.2.1,x.2.2+1)::st) out
  else none
def Pz {all j:List Rat}{h:Nat}{g:List (Rat×Rat×Int)}:∀ (f:Nat) (st:List (Rat×Rat×Nat)) (d:List (Rat×Rat×Int)),Ma all j h f st d=some g->La all j h f st d=some (some g)
 |0,_,_,e=>by simp[Ma]at e
 |f+1,[],d,e=>by simp only[Ma,Atd]at e;rw[La,e]
 |f+1,x::st,d,e=>by
  rw[Ma]at e;rw[La];split at e
  ·rename_i h1;rw[if_pos h1];split at e
   ·rename_i h2;rw[if_pos h2];exact Pz f _ _ e
   rename_i h2;rw[if_neg h2];split at e
   ·rename_i h3;rw[if_pos h3];exact Pz f _ _ e
   rename_i h3;rw[if_neg h3];split at e
   ·cases e
   rename_i h4;rw[if_neg h4];exact Pz f _ _ e
  cases e
def O4 (u:PH)(v:Value):Option (List (Rat×Rat×Int))->Prop
 |some res=>∃ r,v=.tuple #[r,.int .i64 0]/\Lf u r res
 |none=>v=.tuple #[.agg #[.slice none 0 0,.slice none 0 0],.int .i64 3]
def O4.mk {u:PH}{v:Value}{d:List (Rat×Rat×Int)}(h:∃ r,v=.tuple #[r,.int .i64 0]/\Lf u r d):O4 u v (some d):=h
def Ahu {u:PH}{v:Value}{A:List (List Rat)}{T S fS F fu h:Nat}{an:Option (List (Rat×Rat×Int))}(ht:D1 u)(hm:Bw u v (Bq A))(hA:M2 A T)(cv:∀ q∈Ao A,Tx q)(cg:SzL (Ao A) (cb T A.length)->SzL (Ao A) S)(d9:S+13<=500000)(hh:h<=60)(hS:Aiu fS (Ao A))
 (cp:Ey fS (Ao A)≠[]) (cq:(Ey fS (Ao A)).length<=5) (cr:gR (Ey fS (Ao A)) ((Ey fS (Ao A)).length-1)≠0) (ct:SzL (Ey fS (Ao A)) 400000)
 (hb:Acv F A A.length 0 1=true) (ch:B3 (P7 F A)=true) (db:fu<=100000) (cl:La (Ao A) (Ey fS (Ao A)) h fu [(-(P7 F A+1),P7 F A+1,0)] []=some an) :
 Fn0 prog 20 [v,.int .i64 h] u fun v' u'=>O4 u' v' an:=by
 have co:=fun (u':PH) (v:Value) (cu:D1 u') (hv:Bw u' v (Bq A))=>L0 cu hv hA cv;have cj:=fun (u':PH) (v:Value) (hv:Bw u' v (Bq A))=>Amm hv hA.sq hA.w.le hA.w.tle hA.sz;have ci:=fun (u':PH) (v:Value) (hv:Bw u' v (Bq A))=>Aql hv hA hb;have dc:=hA.le;have b1:=Cw A;have ai:gR (Ao A) ((Ao A).length-1)≠0:=by rw[b1,Avv,Tp];decide
 have bi:Ao A≠[]:=by intro e;rw[e]at b1;simp at b1
 have one:((1:Int):Rat)=1:=fV;have two:((2:Int):Rat)=2:=fV;have au:(2:Rat)≠0:=fV;have s2:Sz (2:Rat) 1:=Nx (z:=2) fV;generalize bn:Ey fS (Ao A)=sim at *
 generalize d5:Ao A=all at *
 obtain⟨da,bh⟩:=C0 ch;have ck:Sz (P7 F A+1) 14:=(Fx bh (Nx (z:=1) fV)).mono oV;obtain⟨a,c,rfl⟩:=hm.opn;refine Fn0.o func20<|G.c call19 (co _ _ ht hm) ?_;rintro v1 u1 l1 ⟨r1,rfl,k1⟩;obtain⟨a1,c1,rfl⟩:=Ad.opn k1;refine G.nF 0 0<|G.lF h 0<|G.gF h 60<|G.c call52 (cj _ _ (hm.mono l1)) ?_;rintro v2 u2 l2 ⟨k2,b6⟩;replace b6:=cg b6;obtain⟨a2,c2,rfl⟩:=k2.opn;refine G.c call68 (Ao4 k2 hS) ?_;intro v3 u3 l3 k3;rw[bn]at k3;obtain⟨a3,c3,rfl⟩:=k3.opn;refine G.c call69 (ci _ _ (hm.mono ((l1.trans l2).trans l3))) ?_;intro v4 u4 l4 k4;obtain⟨f4,rfl⟩:=k4.opF;refine G.c call56 (Dk (z:=1) oV oV) ?_;intro v5 u5 l5 k5;rw[one]at k5;obtain⟨f5,rfl⟩:=k5.opF;refine G.c call57 (D4 (k4.mono l5) k5 (bh.mono oV) ((Nx (z:=1) fV).mono oV)) ?_;intro v6 u6 l6 k6;obtain⟨f6,rfl⟩:=k6.opF;generalize P7 F A+1=E at *
 refine G.c call70 (Uu k6 (As9 ck.1 oV)) ?_;intro v7 u7 l7 k7;obtain⟨f7,rfl⟩:=k7.opF;refine G.buildM 144 9 136 zP [pc9 f7 f6 0] kV (Kv _ _ _) rfl oV mV mV ?_;intro g8 m8 be;have cm:PH.le u u7:=(((((l1.trans l2).trans l3).trans l4).trans l5).trans l6).trans l7;have ac:Bag m8 [Oz (.slice (some ⟨g8,0,none⟩) 1 1) [pc9 f7 f6 0],Abq (.slice none 0 0) [],Z5 (.slice none 0 0) []]:=⟨PH.mt,be,PH.mt,Ae.nil _ _ _,PH.mt,Ae.nil _ _ _,trivial⟩;refine G.l (ι:=SpI) (fun i=>[(1,iV h),(4,.p 0 0),(8,sV a2 all.length c2),(9,sV a3 sim.length c3),(11,sV i.sa i.sn i.sc),(12,.p 10000 0)])
  (fun i=>[(0,⟨69,[sV none 0 0,sV none 0 0]⟩),(10000,⟨69,[sV i.ia i.out.length i.ic,sV i.ma i.out.length i.mc]⟩)])
  (fun i u' m'=>La all sim h i.f (i.st.map Pc.plain) i.out=some an/\i.f<=fu/\i.sn=i.st.length/\i.st.length+i.f<=fu+1/\i.out.length+i.f<=fu/\(∀ p∈i.st,Ajb u' p)/\Bag m' [Oz (.slice i.sa i.sn i.sc) (i.st.map Pc.val).reverse,Abq (.slice i.ia i.out.length i.ic) (i.out.map ivV),Z5 (.slice i.ma i.out.length i.mc) (i.out.map muV)])
  (fun i=>i.f) ⟨fu,[⟨f7,f6,-E,E,0⟩],[],some ⟨g8,0,none⟩,1,1,none,0,none,0⟩
  ⟨cl,Atb _,rfl,gV,mV,fun p hp=>by simp at hp;subst hp;exact⟨k7,k6.mono l7,Atu _⟩,ac⟩ ?_
 clear ac be;rintro J ⟨f,st,g,sa,sn,sc,ia,ic,ma,mc⟩ hJ u8 m9 l8 ⟨Z,hf,bo,bj,cn,b2,K⟩;simp only at Z hf bo bj cn b2 K hJ;subst bo;have bk:PH.le u u8:=cm.trans l8;have bq:Bn u8 (.slice a2 all.length c2) all:=k2.mono (((((l3.trans l4).trans l5).trans l6).trans l7).trans l8);have br:Bn u8 (.slice a3 sim.length c3) sim:=k3.mono ((((l4.trans l5).trans l6).trans l7).trans l8);cases f with
 |zero=>simp[La]at Z
 |succ f =>
  cases st with
  |nil =>
   refine G.gF (0:Nat) 0 ?_;simp only[Axd,La,Atd]at Z;subst Z;obtain⟨m0,V,L⟩:=K.take 1 rfl;refine G.give m0 (g.map ivV) (.slice ia g.length ic) (t:=148) (sz:=2) kV V (fun _=>.inl rfl) ?_;intro u9 l9 ce;obtain⟨m1,al,_⟩:=L.take 1 rfl;refine G.give m1 (g.map muV) (.slice ma g.length mc) (t:=3) (sz:=1) kV al (fun _=>.inl rfl) ?_;intro d0 n bg;exact G.drop PH.mt kV (PH.mt_le _)<|G.r (.tuple #[.agg #[.slice ia g.length ic,.slice ma g.length mc],.int .i64 0]) ⟨rfl,O4.mk ⟨_,rfl,ia,ic,ma,mc,rfl,ce.mono n,bg⟩⟩
  |cons p st =>
   obtain⟨H,I,lo,hi,k⟩:=p;have hp:=b2 ⟨H,I,lo,hi,k⟩ mV;obtain⟨O,N,bl⟩:=hp;simp only at O N bl;simp only[Auk,Pc.plain,La]at Z;have ak:(B3 lo&&B3 hi)=true:=by
    cases hc:(B3 lo&&B3 hi) with
    |true=>rfl
    |false=>simp[hc]at Z
   rw[if_pos ak]at Z;rw[Atj]at ak;obtain⟨cz,a8⟩:=C0 ak.1;obtain⟨cy,a7⟩:=C0 ak.2;have bm:((⟨H,I,lo,hi,k⟩::st).map Pc.val).reverse=(st.map Pc.val).reverse++[pc9 H I k]:=by simp[Pc.val]
   rw[bm]at K;obtain⟨gs,cs,e⟩:=K.ptr 0 rfl (by simp[Oz]);simp only[Oz,Value.slice.injEq]at e;obtain⟨rfl,_,rfl⟩:=e;simp only[Auh]at bj K⊢;have d6:st.length+1<=sc:=by
    obtain⟨m0,V,_⟩:=K.focus 0 rfl;exact Ae.cap (show Ae m0 m9 (.slice (some ⟨gs,0,none⟩) (st.length+1) sc) _ 9 _ from V)
   have bf:ElP m9 gs (0+st.length*9) (pc9 H I k):=K.el 0 rfl rfl (by show ((st.map Pc.val).reverse++[pc9 H I k])[st.length]?=_;rw[At1 mV];simp);refine G.gT (st.length+1:Nat) 0<|G.s (st.length+1:Nat) 1 st.length<|G.a gs 0 (st.length+1) sc st.length 9 oV<|G.lM (some 9) gs (0+st.length*9) _ bf<|G.s (st.length+1:Nat) 1 st.length<|G.sliceTo 9 (some ⟨gs,0,none⟩) (st.length+1) sc st.length kV oV ?_;have L:Bag m9 [Oz (.slice (some ⟨gs,0,none⟩) st.length sc) (st.map Pc.val).reverse,Abq (.slice ia g.length ic) (g.map ivV),Z5 (.slice ma g.length mc) (g.map muV)]:=by
    obtain⟨m0,V,U⟩:=K.focus 0 rfl;have al:=Ae.take (show Ae m0 m9 (.slice (some ⟨gs,0,none⟩) (st.length+1) sc) 144 9 ((st.map Pc.val).reverse++[pc9 H I k]) from V) (k:=st.length) mV;rw[List.take_left' mV]at al;exact U (Oz (.slice (some ⟨gs,0,none⟩) st.length sc) (st.map Pc.val).reverse) m9 al
   clear K bf;have a6:∀ p∈st,Ajb u8 p:=fun p hp=>b2 p (by simp[hp]);refine G.c call71 (Aft (y:=fv H) (z:=fv I) (T:=12) br O N ct a8 a7 oV cq cp cr) ?_;rintro dj d0 n rfl;by_cases aj:Au sim lo hi=0
   ·rw[if_pos aj]at Z;exact G.eT' (Au sim lo hi) 0 aj<|G.b (hJ ⟨f,st,g,some ⟨gs,0,none⟩,st.length,sc,ia,ic,ma,mc⟩ _ _ _ cV (l8.trans n) ⟨Z,dV,rfl,dV,dV,fun p hp=>(a6 p hp).mono n,L⟩ dV)
   rw[if_neg aj]at Z;refine G.eF' (Au sim lo hi) 0 aj ?_;by_cases ae:Au sim lo hi=1/\h<=k
   ·rw[if_pos ae]at Z;refine G.eT' (Au sim lo hi) 1 ae.1<|G.hT k h<|G.B 103 4 64 zF [fv H,fv I] (Ax.append (a:=[fv H]) (b:=[fv I]) (Rc _) (Rc _)) ?_;intro bc ao Q bx;have cd:Bn ao (.slice (some ⟨bc,0,none⟩) 2 2) [lo,hi]:=⟨[fv H,fv I],⟨_,2,rfl,Atb _,fun j e hj=>⟨bc,0,rfl,bx j e hj⟩⟩,by
     have h1:=AtP.snoc (R:=An) (u:=ao) (es:=[]) (xs:=[]) AtP.nil (O.mono (n.trans Q));exact h1.snoc (N.mono (n.trans Q))⟩
    refine G.c call67 (Ug (ht.mono ((bk.trans n).trans Q)) cd (by intro q hq;simp at hq;rcases hq with rfl|rfl;exact cz;exact cy) mV) ?_;rintro bw bv X ⟨df,rfl,W⟩;obtain⟨d7,b8,rfl⟩:=Ad.opn W;refine G.nF 0 0 ?_;obtain⟨ah,am,rfl,bz⟩:=Ad.at' W (j:=0) (e:=.string (mkS (Ap lo))) rfl;obtain⟨d8,dd,bb,ab⟩:=Ad.at' W (j:=1) (e:=.string (mkS (Ap hi))) rfl;cases bb;refine G.a ah am 2 b8 0 1 oV<|G.lU none ah (am+0*1) _ bz<|G.a ah am 2 b8 1 1 oV<|G.lU none ah (am+1*1) _ ab<|G.B 148 2 32 (.agg #[.string (mkS []),.string (mkS [])]) [ivV (lo,hi,Au all lo hi)] (Amw [(lo,hi,Au all lo hi)]) ?_;intro ca dg ag c0;obtain⟨m0,V,U⟩:=L.focus 1 rfl;refine G.k 148 2 32 (.agg #[.string (mkS []),.string (mkS [])]) m0 (g.map ivV) [ivV (lo,hi,Au all lo hi)] (.slice ia g.length ic) ca 0 1 1 V c0 (Amw [(lo,hi,Au all lo hi)]) ?_;intro dk cx aq;obtain⟨av,ax,rfl⟩:=aq.shape;have C:=U (Abq (.slice av (g.map ivV++[ivV (lo,hi,Au all lo hi)]).length ax) (g.map ivV++[ivV (lo,hi,Au all lo hi)])) cx aq;refine G.c call71 (Aft (y:=fv H) (z:=fv I) (T:=12) (bq.mono (((n.trans Q).trans X).trans ag)) (O.mono (((n.trans Q).trans X).trans ag)) (N.mono (((n.trans Q).trans X).trans ag)) b6 a8 a7 oV oV bi ai) ?_;rintro dl dh bs rfl;refine G.B 3 1 8 (.int .i64 0) [muV (lo,hi,Au all lo hi)] (Ai7 [(lo,hi,Au all lo hi)]) ?_;intro cc di bt c4;obtain⟨cw,bp,b3⟩:=C.focus 2 rfl;refine G.k 3 1 8 (.int .i64 0) cw (g.map muV) [muV (lo,hi,Au all lo hi)] (.slice ma g.length mc) cc 0 1 1 bp c4 (Ai7 [(lo,hi,Au all lo hi)]) ?_;intro dm bu ar;obtain⟨aw,ay,rfl⟩:=ar.shape;have ad:=b3 (Z5 (.slice aw (g.map muV++[muV (lo,hi,Au all lo hi)]).length ay) (g.map muV++[muV (lo,hi,Au all lo hi)])) bu ar;have b9:(g.map ivV++[ivV (lo,hi,Au all lo hi)]).length=(g++[(lo,hi,Au all lo hi)]).length:=mV;have ba:(g.map muV++[muV (lo,hi,Au all lo hi)]).length=(g++[(lo,hi,Au all lo hi)]).length:=mV;have c5:g.map ivV++[ivV (lo,hi,Au all lo hi)]=(g++[(lo,hi,Au all lo hi)]).map ivV:=mV;have c6:g.map muV++[muV (lo,hi,Au all lo hi)]=(g++[(lo,hi,Au all lo hi)]).map muV:=mV;have b0:Bag bu [Oz (.slice (some ⟨gs,0,none⟩) st.length sc) (st.map Pc.val).reverse,Abq (.slice av (g++[(lo,hi,Au all lo hi)]).length ax) ((g++[(lo,hi,Au all lo hi)]).map ivV),Z5 (.slice aw (g++[(lo,hi,Au all lo hi)]).length ay) ((g++[(lo,hi,Au all lo hi)]).map muV)]:=by
     rw[ba,c6,b9,c5]at ad;exact ad
    rw[b9,ba];exact G.b (hJ ⟨f,st,g++[(lo,hi,Au all lo hi)],some ⟨gs,0,none⟩,st.length,sc,av,ax,aw,ay⟩ _ _ _ cV ((((((l8.trans n).trans Q).trans X).trans ag).trans bs).trans bt) ⟨Z,dV,rfl,dV,by dsimp only;simp;omega,fun p hp=>(a6 p hp).mono (((((n.trans Q).trans X).trans ag).trans bs).trans bt),b0⟩ dV)
   rw[if_neg ae]at Z;by_cases ap:60<=k
   ·rw[if_pos ap]at Z;have hr:an=none:=(Auq Z).symm;subst hr;exact G.eF' (Au sim lo hi) 1 (fun e=>ae ⟨e,oV⟩)<|G.eT k 60<|G.drop PH.mt kV (PH.mt_le _)<|G.r (.tuple #[.agg #[.slice none 0 0,.slice none 0 0],.int .i64 3]) ⟨rfl,rfl⟩
   rw[if_neg ap]at Z;by_cases h1:Au sim lo hi=1
   ·refine G.eT' (Au sim lo hi) 1 h1<|G.hF' k h (by intro hc;exact ae ⟨h1,oV⟩)<|G.eF k 60<|G.c call57 (D4 (O.mono n) (N.mono n) (a8.mono oV) (a7.mono oV)) ?_;intro d2 ao Q af;obtain⟨c7,rfl⟩:=af.opF;refine G.c call56 (Dk (z:=2) oV oV) ?_;intro bw bv X W;rw[two]at W;obtain⟨c8,rfl⟩:=W.opF;refine G.c call39 (Ih (af.mono X) W ((Fx a8 a7).mono oV) (s2.mono oV) au) ?_;intro d3 d1 b4 a4;obtain⟨d,rfl⟩:=a4.opF;refine G.i k<|G.i k<|G.B 144 9 136 zP [pc9 d I (k+1),pc9 H d (k+1)] (Ax.append (a:=[pc9 d I (k+1)]) (b:=[pc9 H d (k+1)]) (Kv _ _ _) (Kv _ _ _)) ?_;intro az b7 a5 ab;obtain⟨m0,V,U⟩:=L.focus 0 rfl;refine G.k 144 9 136 zP m0 (st.map Pc.val).reverse [pc9 d I (k+1),pc9 H d (k+1)] (.slice (some ⟨gs,0,none⟩) st.length sc) az 0 2 2 V ab (Ax.append (a:=[pc9 d I (k+1)]) (b:=[pc9 H d (k+1)]) (Kv _ _ _) (Kv _ _ _)) ?_;intro d4 b5 a0;obtain⟨a9,aa,rfl⟩:=a0.shape;have el:((st.map Pc.val).reverse++[pc9 d I (k+1),pc9 H d (k+1)]).length=st.length+1+1:=mV;have C:=U (Oz (.slice a9 ((st.map Pc.val).reverse++[pc9 d I (k+1),pc9 H d (k+1)]).length aa) ((st.map Pc.val).reverse++[pc9 d I (k+1),pc9 H d (k+1)])) b5 a0;have er:(st.map Pc.val).reverse++[pc9 d I (k+1),pc9 H d (k+1)]=((⟨H,d,lo,(lo+hi)/2,k+1⟩::⟨d,I,(lo+hi)/2,hi,k+1⟩::st:List Pc).map Pc.val).reverse:=by simp[Pc.val]
    rw[el,er]at C;rw[el];have Y:PH.le u8 b7:=(((n.trans Q).trans X).trans b4).trans a5;refine G.b (hJ ⟨f,⟨H,d,lo,(lo+hi)/2,k+1⟩::⟨d,I,(lo+hi)/2,hi,k+1⟩::st,g,a9,st.length+1+1,aa,ia,ic,ma,mc⟩ _ _ _ cV (l8.trans Y) ⟨Z,dV,rfl,by dsimp only;simp;omega,dV,?_,C⟩ dV);intro p hp;rcases At6.1 hp with rfl|hp
    ·exact⟨O.mono Y,a4.mono a5,dV⟩
    rcases At6.1 hp with rfl|hp
    ·exact⟨a4.mono a5,N.mono Y,dV⟩
    exact (a6 p hp).mono Y
   refine G.eF' (Au sim lo hi) 1 h1<|G.eF k 60<|G.c call57 (D4 (O.mono n) (N.mono n) (a8.mono oV) (a7.mono oV)) ?_;intro d2 ao Q af;obtain⟨c7,rfl⟩:=af.opF;refine G.c call56 (Dk (z:=2) oV oV) ?_;intro bw bv X W;rw[two]at W;obtain⟨c8,rfl⟩:=W.opF;refine G.c call39 (Ih (af.mono X) W ((Fx a8 a7).mono oV) (s2.mono oV) au) ?_;intro d3 d1 b4 a4;obtain⟨d,rfl⟩:=a4.opF;refine G.i k<|G.i k<|G.B 144 9 136 zP [pc9 d I (k+1),pc9 H d (k+1)] (Ax.append (a:=[pc9 d I (k+1)]) (b:=[pc9 H d (k+1)]) (Kv _ _ _) (Kv _ _ _)) ?_;intro az b7 a5 ab;obtain⟨m0,V,U⟩:=L.focus 0 rfl;refine G.k 144 9 136 zP m0 (st.map Pc.val).reverse [pc9 d I (k+1),pc9 H d (k+1)] (.slice (some ⟨gs,0,none⟩) st.length sc) az 0 2 2 V ab (Ax.append (a:=[pc9 d I (k+1)]) (b:=[pc9 H d (k+1)]) (Kv _ _ _) (Kv _ _ _)) ?_;intro d4 b5 a0;obtain⟨a9,aa,rfl⟩:=a0.shape;have el:((st.map Pc.val).reverse++[pc9 d I (k+1),pc9 H d (k+1)]).length=st.length+1+1:=mV;have C:=U (Oz (.slice a9 ((st.map Pc.val).reverse++[pc9 d I (k+1),pc9 H d (k+1)]).length aa) ((st.map Pc.val).reverse++[pc9 d I (k+1),pc9 H d (k+1)])) b5 a0;have er:(st.map Pc.val).reverse++[pc9 d I (k+1),pc9 H d (k+1)]=((⟨H,d,lo,(lo+hi)/2,k+1⟩::⟨d,I,(lo+hi)/2,hi,k+1⟩::st:List Pc).map Pc.val).reverse:=by simp[Pc.val]
   rw[el,er]at C;rw[el];have Y:PH.le u8 b7:=(((n.trans Q).trans X).trans b4).trans a5;refine G.b (hJ ⟨f,⟨H,d,lo,(lo+hi)/2,k+1⟩::⟨d,I,(lo+hi)/2,hi,k+1⟩::st,g,a9,st.length+1+1,aa,ia,ic,ma,mc⟩ _ _ _ cV (l8.trans Y) ⟨Z,dV,rfl,by dsimp only;simp;omega,dV,?_,C⟩ dV);intro p hp;rcases At6.1 hp with rfl|hp
   ·exact⟨O.mono Y,a4.mono a5,dV⟩
   rcases At6.1 hp with rfl|hp
   ·exact⟨a4.mono a5,N.mono Y,dV⟩
   exact (a6 p hp).mono Y
def Aif {u:PH}{v:Value}{A:List (List Rat)}{T fS F fu h:Nat}{d:Option (List (Rat×Rat×Int))}(O:D1 u)(N:Bw u v (Bq A))(I:M2 A T)(H:∀ q∈Ao A,Tx q)(e:cb T A.length+13<=500000)(L:h<=60)(J:Aiu fS (Ao A))
 (t:Ey fS (Ao A)≠[]) (z:(Ey fS (Ao A)).length<=5) (C:gR (Ey fS (Ao A)) ((Ey fS (Ao A)).length-1)≠0) (E:SzL (Ey fS (Ao A)) 400000)
 (K:Acv F A A.length 0 1=true) (g:B3 (P7 F A)=true) (j:fu<=100000) (n:La (Ao A) (Ey fS (Ao A)) h fu [(-(P7 F A+1),P7 F A+1,0)] []=some d) :
 Fn0 prog 20 [v,.int .i64 h] u fun R Q=>O4 Q R d :=
 Ahu O N I H id e L J t z C E K g j n
def Wc {u:PH}{v:Value}{A:List (List Rat)}{T fS F fu h:Nat}{d:List (Rat×Rat×Int)}(O:D1 u)(N:Bw u v (Bq A))(I:M2 A T)(H:∀ q∈Ao A,Tx q)(e:cb T A.length+13<=500000)(L:h<=60)(J:Aiu fS (Ao A))
 (t:Ey fS (Ao A)≠[]) (z:(Ey fS (Ao A)).length<=5) (C:gR (Ey fS (Ao A)) ((Ey fS (Ao A)).length-1)≠0) (E:SzL (Ey fS (Ao A)) 400000)
 (K:Acv F A A.length 0 1=true) (g:B3 (P7 F A)=true) (j:fu<=100000) (n:Ma (Ao A) (Ey fS (Ao A)) h fu [(-(P7 F A+1),P7 F A+1,0)] []=some d) :
 Fn0 prog 20 [v,.int .i64 h] u fun R Q=>∃ r,R=.tuple #[r,.int .i64 0]/\Lf Q r d :=
 Aif O N I H e L J t z C E K g j (Pz _ _ _ n)
end
section
variable [Ca] [Df] [Pu]
section rules
variable {P:Program} [A7 P] {fn:Func} {Post:Bz} {st:List KI×S} {u m:PH}
def Aas {d:Operand->Value}{o:Op}{t:TypeId}{x:Value}{f:Nat}(h:A8 P d o=.fieldA t x f):∃ X,o=.fieldAddr t X f/\d X=x:=by
 cases o<;>simp only[A8]at h<;>try cases h
 any_goals ((repeat' split at h)<;>cases h;done)
 exact⟨_,rfl,rfl⟩
def G.fieldA (t:TypeId)(b off f z:Nat)(h:Al P (adv P st)=.fieldA t (.pointer (some ⟨b,off,none⟩)) f)(d:Lr P t f=some z)(k:G P fn Post (nx (adv P st) (.pointer (some ⟨b,off+z,none⟩))) u m):G P fn Post st u m:=by
 refine G.ask h mV (fun H o g w _=>?_) k;obtain⟨X,e,F⟩:=Aas g;obtain⟨E,I,C,pos,j,v⟩:=o;simp only at e;subst e;unfold Lr at d;split at d
 ·rename_i fs hfs;split at d
  ·rename_i fd hfd;split at d
   ·rename_i n hn;simp only[Atd]at d;subst d;simp[execOp,Instr.fieldAt,run_underlying hfs,hfd,Instr.sureAddr,F,fieldPlace,Be hn,Dt]
   cases d
  cases d
 cases d
def G.remZ (x y z:Int)(h:Al P (adv P st)=.bin .rem (.int .i64 x) (.int .i64 y))(d:0<y)(v:y<=9223372036854775807)(e:x.tmod y=z)
 (k:G P fn Post (nx (adv P st) (.int .i64 z)) u m):G P fn Post st u m:=by
 refine G.bin _ h Db (fun t w=>?_) k;have n:¬ y=0:=oV
 have C:-y<z/\z<y:=by
  rw[<-e];have g:=A2d x d;have j:=A2e x d;exact⟨j,g⟩
 simp[binOp,Op.intDiv,n,e]
end rules
end
section
variable [Ca] [Pu] [Df]
variable {P:Program} [A7 P] {fn:Func} {Post:Bz} {st:List KI×S} {u m:PH}
def G.f (t:TypeId)(b off f fo:Nat)(k:G P fn Post (nx (adv P st) (.pointer (some ⟨b,off+fo,none⟩))) u m)(h:Al P (adv P st)=.fieldA t (.pointer (some ⟨b,off,none⟩)) f:=by kernel_rfl)(hf:Lr P t f=some fo:=by kernel_rfl):G P fn Post st u m:=G.fieldA t b off f fo h hf k
end
def ElP.part {u:PH}{b off:Nat}{x:Rat×Rat×Int}(h:ElP u b off (ivV x)):ElP u b (off+1) (.string (mkS (Ap x.2.1))):=by
 intro i y d
 match i,d with
 |0,d =>
  simp[Value.cells]at d;subst d;exact h 1 _ rfl
theorem Ap5 {u:PH}{v r:Value}{A:List (List Rat)}{T S:Nat}{d:List (Rat×Rat×Int)}(ht:D1 u)(V:Bw u v (Bq A))(hA:M2 A T)(ag:∀ q∈Ao A,Tx q)(ab:SzL (Ao A) (cb T A.length)->SzL (Ao A) S)(au:S+13<=500000)
 (hX:∀ x∈d,Na x.1 A.length 12/\Na x.2.1 A.length 12) (hr:Lf u r d) (hl:d.length<=100000) (hc:Wi (Ao A) none d 0=some (A.length:Int)) :
 Fn0 prog 22 [v,r] u fun v' _=>v'=.bool true:=by
 have ad:=fun (u':PH) (v:Value) (W:D1 u') (hv:Bw u' v (Bq A))=>L0 W hv hA ag;have P:=fun (u':PH) (v:Value) (x:Rat) (W:D1 u') (hv:Bw u' v (Bq A)) (hx:Na x A.length 12)=>Asl W hv hA hx ab oV;have aw:=hA.le;have av:=Cw A;obtain⟨a,c,rfl⟩:=V.opn;rw[Ba]at V⊢;obtain⟨ai,ci,am,Q,rfl,hI,hM⟩:=hr;refine Fn0.o func22<|G.c call19 (ad _ _ ht V) ?_;rintro v1 u1 l1 ⟨r1,rfl,k1⟩;obtain⟨a1,c1,rfl⟩:=Ad.opn k1;refine G.nF 0 0<|G.nF d.length d.length<|G.l (ι:=Nat×Int×Option Rat) (fun i=>[(0,sV a A.length c),(3,.p 0 0),(7,iV i.2.1),(31,sV ai d.length ci),(32,iV d.length),(33,iV i.1)])
  (fun _=>[(0,⟨69,[sV ai d.length ci,sV am d.length Q]⟩)])
  (fun i u' m'=>i.1<=d.length/\-(1000*i.1:Int)<=i.2.1/\i.2.1<=1000*i.1/\(∀ j x,i.1=j+1->d[j]?=some x->i.2.2=some x.2.1)/\Wi (Ao A) i.2.2 (d.drop i.1) i.2.1=some (A.length:Int)/\m'=PH.mt)
  (fun i=>d.length-i.1) (0,0,none) ⟨Atu _,mV,mV,fun j x h=>by simp at h,hc,rfl⟩ ?_
 rintro J ⟨i,s,pr⟩ hJ u2 m2 l2 ⟨hi,ae,af,a5,n,rfl⟩;simp only at hi ae af a5 n hJ;by_cases t:i<d.length
 ·refine G.lT i d.length ?_;have F:d[i]?=some d[i]:=As5 t;obtain⟨z,H⟩:=hX _ (Ath t);rw[Aw9 t]at n;obtain⟨x,ah⟩:∃ x,d[i]=x:=⟨_,rfl⟩;rw[ah]at F z H n;rw[Wi]at n;split at n
  ·rename_i hcond;simp only[Atj,decide_eq_true_eq]at hcond;obtain⟨⟨⟨⟨⟨ap,aq⟩,a7⟩,a8⟩,a0⟩,ar⟩:=hcond;have m:PH.le u u2:=l1.trans l2;obtain⟨b3,o3,rfl,e3⟩:=Ad.at' (hI.mono m) (j:=i) (e:=ivV x) (by simp[F]);refine G.a b3 o3 d.length ci i 2 t<|G.lU (some 2) b3 (o3+i*2) (ivV x) e3<|G.c call47 (Fp z.tx) ?_;rintro v4 u4 L rfl;refine G.c call47 (Fp H.tx) ?_;rintro v5 u5 N rfl;refine G.c call72 (Rg z.tx H.tx) ?_;rintro v6 u6 O rfl;have al:sgn (x.1-x.2.1).num<0:=by rw[Ru];exact Afi.2 a7
   refine G.hF (sgn (x.1-x.2.1).num) 0 ?_;have b1:=Md (Ao A) x.1 oV;have b2:=Md (Ao A) x.2.1 oV;have ao:=Jd (Ao A) x.1 oV;have b4:=Jd (Ao A) x.2.1 oV;obtain⟨C,E,aa,Z⟩:=Ad.at' (hM.mono m) (j:=i) (e:=muV x) (by simp[F]);subst aa;rcases At5 i with a3|a3
   ·subst a3;refine G.gF (0:Nat) 0<|G.c call73 (P _ _ x.1 (ht.mono (((m.trans L).trans N).trans O)) (V.mono (((m.trans L).trans N).trans O)) z) ?_;rintro v8 u8 Y rfl;refine G.c call73 (P _ _ x.2.1 (ht.mono ((((m.trans L).trans N).trans O).trans Y)) (V.mono ((((m.trans L).trans N).trans O).trans Y)) H) ?_;rintro v9 u9 l9 rfl;have g:PH.le u2 u9:=((((L.trans N).trans O).trans Y).trans l9);refine G.sub (C7 (Ao A) x.2.1+(Co (Ao A) x.2.1:Int)) (C7 (Ao A) x.1+(Co (Ao A) x.1:Int)) x.2.2 kV a0 oV oV<|G.a C E d.length Q 0 1 t<|G.lU none C (E+0*1) (muV x) (Z.mono g)<|G.nF' x.2.2 x.2.2 mV<|G.a C E d.length Q 0 1 t<|G.lU none C (E+0*1) (muV x) (Z.mono g)<|G.lF x.2.2 1<|G.a C E d.length Q 0 1 t<|G.lU none C (E+0*1) (muV x) (Z.mono g)<|G.add s x.2.2 (s+x.2.2) kV rfl oV oV<|G.p (0:Nat) 1 (0+1:Nat)<|G.b (hJ (0+1,s+x.2.2,some x.2.1) _ _ _ cV (l2.trans g) ⟨dV,dV,dV,?_,n,rfl⟩ dV);intro j' y' R I;dsimp only at R⊢;obtain rfl:j'=0:=oV;rw[F]at I;rw[Auq I]
   obtain⟨j,rfl⟩:∃ j,i=j+1:=⟨i-1,oV⟩;have U:j<d.length:=oV;have X:d[j]?=some d[j]:=As5 U;have a4:=a5 j _ rfl X;obtain⟨aj,a6⟩:=hX _ (Ath U);obtain⟨y,ak⟩:∃ y,d[j]=y:=⟨_,rfl⟩;rw[ak]at X a4 aj a6;subst a4;simp only[Al5,decide_eq_true_eq]at a8;obtain⟨an,ax,a2,a9⟩:=Ad.at' (hI.mono m) (j:=j) (e:=ivV y) (by simp[X]);cases a2;refine G.gT (j+1:Nat) 0<|G.s (j+1:Nat) 1 j<|G.a b3 o3 d.length ci j 2 U<|G.f 148 b3 (o3+j*2) 1 1<|G.lU none b3 (o3+j*2+1) (.string (mkS (Ap y.2.1))) (a9.part.mono ((L.trans N).trans O))<|G.c call72 (Rg z.tx a6.tx) ?_;rintro az ay K rfl;have ac:¬ (sgn (x.1-y.2.1).num<0):=by rw[Ru];intro h';have:=Afi.1 h';grind
   refine G.lF' (sgn (x.1-y.2.1).num) 0 ac<|G.c call73 (P _ _ x.1 (ht.mono ((((m.trans L).trans N).trans O).trans K)) (V.mono ((((m.trans L).trans N).trans O).trans K)) z) ?_;rintro v8 u8 Y rfl;refine G.c call73 (P _ _ x.2.1 (ht.mono (((((m.trans L).trans N).trans O).trans K).trans Y)) (V.mono (((((m.trans L).trans N).trans O).trans K).trans Y)) H) ?_;rintro v9 u9 l9 rfl;have g:PH.le u2 u9:=(((((L.trans N).trans O).trans K).trans Y).trans l9);refine G.sub (C7 (Ao A) x.2.1+(Co (Ao A) x.2.1:Int)) (C7 (Ao A) x.1+(Co (Ao A) x.1:Int)) x.2.2 kV a0 oV oV<|G.a C E d.length Q (j+1) 1 t<|G.lU none C (E+(j+1)*1) (muV x) (Z.mono g)<|G.nF' x.2.2 x.2.2 mV<|G.a C E d.length Q (j+1) 1 t<|G.lU none C (E+(j+1)*1) (muV x) (Z.mono g)<|G.lF x.2.2 1<|G.a C E d.length Q (j+1) 1 t<|G.lU none C (E+(j+1)*1) (muV x) (Z.mono g)<|G.add s x.2.2 (s+x.2.2) kV rfl oV oV<|G.p (((j+1):Nat):Int) 1 (((j+1)+1:Nat):Int)<|G.b (hJ ((j+1)+1,s+x.2.2,some x.2.1) _ _ _ cV (l2.trans g) ⟨dV,dV,dV,?_,n,rfl⟩ dV);intro j' y' R I;dsimp only at R⊢;obtain rfl:j'=(j+1):=oV;rw[F]at I;rw[Auq I]
  cases n
 obtain rfl:i=d.length:=oV;refine G.lF d.length d.length ?_;rw[Aue (Atb _),Wi,Atd]at n;subst n;exact G.eT' A.length A.length rfl<|G.r (.bool true) ⟨rfl,rfl⟩
def Ahr {u:PH}{v r:Value}{A:List (List Rat)}{T:Nat}{d:List (Rat×Rat×Int)}(C:D1 u)(t:Bw u v (Bq A))(h:M2 A T)(g:∀ q∈Ao A,Tx q)(e:cb T A.length+13<=500000)
 (j:∀ x∈d,Na x.1 A.length 12/\Na x.2.1 A.length 12) (z:Lf u r d) (n:d.length<=100000) (m:Wi (Ao A) none d 0=some (A.length:Int)) :
 Fn0 prog 22 [v,r] u fun E _=>E=.bool true :=
 Ap5 C t h g id e j z n m
section
variable {k:Nat}{m0:PH}
def Akr (m:PH):m.or PH.mt=m:=by
 funext g;unfold PH.or;split
 ·rename_i o e;rw[e]
 rename_i e;rw[e];rfl
def Alf (m0 m:PH){g:Nat}(o:Obj)(h:m0 g=none):m0.or (m.upd g o)=(m0.or m).upd g o:=by
 funext k
 by_cases e:k=g
 ·subst e;rw[PH.or_r h,Ab,Ab]
 rw[Ac _ _ e];unfold PH.or;split
 ·rfl
 rw[Ac _ _ e]
def Ae.list {m0 m u:PH}{v:Value}{t:TypeId}{sz:Nat}{es:List Value}(h:Ae m0 m v t sz es)(C:PH.le m u):Ad u v sz es:=by
 obtain⟨E,h⟩:=h;rcases h with ⟨rfl,rfl,_⟩|⟨g,cap,rest,_,rfl,rfl,d,n,_⟩
 ·exact Ad.nil _ _ _ _
 refine⟨_,_,rfl,d,fun j e z=>⟨g,0,rfl,fun i x F=>⟨_,_,_,C _ _ (Ab _ _ _),?_⟩⟩⟩;rw[Avh,Aud];have:=H9 E z F;rw[Atl (by obtain⟨h,_⟩:=Atc.1 this;exact h)];exact this
def Bag.list {l:List Arr}{m u:PH}(h:Bag m l)(d:PH.le m u)(i:Nat){x:Arr}(hi:l[i]?=some x):Ad u x.v x.sz x.es:=by
 obtain⟨m0,e,_⟩:=h.focus i hi;exact Ae.list e d
section rules
variable [Ca] [Df] [Pu] {P:Program} [A7 P] {fn:Func} {Post:Bz} {st:List KI×S} {u m:PH}
def G.callA (f:Nat)(args:List Value){mf mc:PH}{R:Value->PH->PH->Prop}(h:Al P (adv P st)=.call f args)(C:Rl (adv P st)=true)(X:∀ args w,(callFunc f args).run P w=.ok (.enter f args) w)(Z:m=mf.or mc)(z:Jt mf mc)(c:Aj P f args u mc R)
 (k:∀ v j d,PH.le u j->R v j d->Jt mf d->G P fn Post (nx (adv P st) v) j (mf.or d)):G P fn Post st u m:=by
 subst Z;refine G.bigN (K:=fun v j J=>∃ d,J=mf.or d/\R v j d/\Jt mf d) h mV C En (fun Q o t w n=>?_) (fun v j J T U=>?_)
 ·have F:B1 u mc w:=n.less (fun g o E=>by
   cases hx:mf g with
   |some o'=>have:=(z g).resolve_left (by rw[hx];simp);rw[this]at E;cases E
   |none=>rw[PH.or_r hx];exact E)
  refine J9 t X w _ (Calls.mono (c w F) fun e w' Y=>?_);obtain⟨v,j,d,L,N,I,O⟩:=Y;obtain⟨g1,g2⟩:=n.frameM z N I;refine⟨v,L,j,mf.or d,g1,g2,d,rfl,O,fun g=>?_⟩;cases hx:mf g with
  |none=>exact .inl rfl
  |some o =>
   right;have H:=B0 (n.pm g o (PH.or_l hx));exact I.ms g H ((z g).resolve_left (by rw[hx];simp))
 obtain⟨d,rfl,W,V⟩:=U;exact k v j d T W V
def G.giveP {ma sm:PH}(h:Gf (ctl P 100 st).1=true)(E:m=ma.or sm)(U:Jt ma sm)(h0:∀ g,Post.m0 g=none\/sm g≠none)(k:∀ T,PH.le u T->PH.le ma T->G P fn Post (ctl P 100 st) T sm):G P fn Post st u m:=by
 subst E;refine⟨Jq 100 st ?_⟩;rw[Sym.ofNo h];intro c ρ a w H v;have K:∀ g o,ma g=some o->u g=none:=fun g o d=>(v.gd.ap g).resolve_right (by rw[PH.or_l d];simp);have I:∀ g o,sm g=some o->ma g=none:=fun g o d=>(U g).resolve_right (by rw[d];simp);have F:∀ g o,ma g=some o->c.w0.heap.size<=g:=by
  intro g o d;rcases At8 g c.w0.heap.size with O|L
  ·have Q:c.m0 g=none:=by
    rw[H];rcases h0 g with e|e
    ·exact e
    cases hs:sm g with
    |none=>exact absurd hs e
    |some o'=>have:=I g o' hs;rw[this]at d;cases d
   have:=v.gr.ms g O Q;rw[PH.or_l d]at this;cases this
  exact L
 have N:PH.le u (ma.or u):=fun g o d=>by
  cases n:ma g with
  |none=>rw[PH.or_r n];exact d
  |some o'=>have:=K g o' n;rw[this]at d;cases d
 have V:=(k (ma.or u) N (fun g o d=>PH.or_l d)).out;rw[Sym.ofNo h]at V;refine V c ρ a w H ⟨v.sz,v.tm,v.df.of fun r e _ hu E=>(by
  have C:ma r=none:=(by
   cases n:ma r with
   |none=>rfl
   |some o=>rw[PH.or_l n]at E;cases E)
  rw[PH.or_r C]at E;exact⟨e,by rw[PH.or_r C];exact hu,E⟩),fun R b Z=>?_,v.inj,v.lv,⟨fun t o d=>?_,fun t o d=>?_,fun t=>?_,fun t cs t' fr j z d hj=>?_⟩,⟨v.gr.sz,v.gr.old,fun t d=>?_,fun t d E=>?_,v.gr.io,v.gr.dr⟩⟩
 ·obtain⟨W,X,Y,J⟩:=v.box R b Z;have C:ma (ρ R)=none:=by
   cases n:ma (ρ R) with
   |none=>rfl
   |some o=>rw[PH.or_l n]at J;cases J
  rw[PH.or_r C]at J;exact⟨W,X,by rw[PH.or_r C];exact Y,J⟩
 ·cases n:ma t with
  |some o'=>rw[PH.or_l n]at d;cases d;exact v.gd.pm t _ (PH.or_l n)
  |none=>rw[PH.or_r n]at d;exact v.gd.pu t o d
 ·exact v.gd.pm t o (by rw[PH.or_r (I t o d)];exact d)
 ·cases n:ma t with
  |some o'=>right;exact (U t).resolve_left (by rw[n];simp)
  |none =>
   rw[PH.or_r n];have:=v.gd.ap t;rw[PH.or_r n]at this;exact this
 ·cases n:ma t with
  |some o' =>
   rw[PH.or_l n,<-d];exact (v.gd.pm t _ (PH.or_l n)).symm
  |none=>rw[PH.or_r n];exact v.gd.cl t cs t' fr j z d hj
 ·have n:ma t=none:=by
   cases n:ma t with
   |none=>rfl
   |some o=>have:=F t o n;omega
  rw[PH.or_r n];exact v.gr.us t d
 have:=v.gr.ms t d E;cases n:ma t with
 |some o=>have:=F t o n;omega
 |none=>rw[PH.or_r n]at this;exact this
end rules
structure Src where
 g:Nat
 a:Option Addr
 n:Nat
 c:Nat
def Src.ptr (s:Src):Value:=.pointer (some ⟨s.g,0,none⟩)
def Src.el (s:Src)(k:Nat):Value:=.agg #[.slice s.a s.n s.c,.int .i64 k]
def Src.M (s:Src)(k:Nat):PH:=PH.mt.upd s.g (.cells #[.slice s.a s.n s.c,.int .i64 k] 75 (0,0))
def Src.arr (s:Src)(k:Nat):Arr:=⟨.slice (some ⟨s.g,0,none⟩) 1 1,75,2,[s.el k]⟩
def Src.el_ok (s:Src)(k:Nat):Ax 2 [s.el k]:=by
 intro x d;simp at d;subst d;exact⟨rfl,fun y e=>by simp[Src.el,Value.cells]at e;rcases e with rfl|rfl<;>rfl⟩
def Src.at {s:Src}(h:m0 s.g=none):(s.arr k).At m0 (m0.or (s.M k)):=by
 refine⟨s.el_ok k,.inr ⟨s.g,1,[],h,?_,rfl,Atb _,rfl,mV⟩⟩;unfold Src.M;rw[Alf _ _ _ h,Akr];rfl
def Src.split {s:Src}{m0 m:PH}(h:(s.arr k).At m0 m):m=m0.or (s.M k)/\m0 s.g=none:=by
 obtain⟨_,h⟩:=h;rcases h with ⟨h,_,_⟩|⟨g,cap,rest,d,rfl,e,t,j,v⟩
 ·simp[Src.arr]at h
 simp only[Src.arr,Value.slice.injEq,Atd,Addr.mk.injEq,and_true]at e;obtain⟨rfl,_,rfl⟩:=e;have n:rest = []:=by
  simp[Src.arr,Av,Src.el,Value.cells]at j;exact j
 subst n;refine⟨?_,d⟩;unfold Src.M;rw[Alf _ _ _ d,Akr];rfl
def Src.apart {s:Src}(h:m0 s.g=none):Jt m0 (s.M k):=fun g=>by
 by_cases e:g=s.g
 ·subst e;exact .inl h
 right;unfold Src.M;rw[Ac _ _ e];rfl
structure Lc (u:PH)(s:Src)(ts:List Int):Prop where
 list:Ad u (.slice s.a s.n s.c) 1 (Ei ts)
 n:s.n=ts.length
 le:ts.length<=600
 lo:∀ t∈ts,-9223372036854775808<=t
 hi:∀ t∈ts,t<=9223372036854775807
def Lc.mono {u d:PH}{s:Src}{ts:List Int}(h:Lc u s ts)(e:PH.le u d):Lc d s ts:=⟨h.list.mono e,h.n,h.le,h.lo,h.hi⟩
def Src.cell0 (s:Src)(k:Nat):ElP (s.M k) s.g (0+0) (.slice s.a s.n s.c):=fun i y d=>by
 match i,d with
 |0,d=>simp[Value.cells]at d;subst d;exact⟨_,_,_,Ab _ _ _,rfl⟩
def Src.cell1 (s:Src)(k:Nat):ElP (s.M k) s.g (0+1) (.int .i64 k):=fun i y d=>by
 match i,d with
 |0,d=>simp[Value.cells]at d;subst d;exact⟨_,_,_,Ab _ _ _,rfl⟩
end
section
variable [Ca] [Pu] [Df]
variable {P:Program} [A7 P] {fn:Func} {Post:Bz} {st:List KI×S} {u m:PH}
def G.A {f:Nat}{args:List Value}{R:Value->PH->PH->Prop}(hc:∀ args w,(callFunc f args).run P w=.ok (.enter f args) w)(c:Aj P f args u m R)(k:∀ v u' mc',PH.le u u'->R v u' mc'->Jt PH.mt mc'->G P fn Post (nx (adv P st) v) u' (PH.mt.or mc'))(h:Al P (adv P st)=.call f args:=by kernel_rfl)(hdr:Rl (adv P st)=true:=by kernel_rfl):G P fn Post st u m:=G.callA f args h hdr hc (C3 _).symm (Il _) c k
def G.D {f:Nat}{args:List Value}{mf mc:PH}{R:Value->PH->PH->Prop}(hc:∀ args w,(callFunc f args).run P w=.ok (.enter f args) w)(hd:Jt mf mc)(c:Aj P f args u mc R)(k:∀ v u' mc',PH.le u u'->R v u' mc'->Jt mf mc'->G P fn Post (nx (adv P st) v) u' (mf.or mc'))(h:Al P (adv P st)=.call f args:=by kernel_rfl)(hdr:Rl (adv P st)=true:=by kernel_rfl):G P fn Post st u (mf.or mc):=G.callA f args h hdr hc rfl hd c k
end
section
open Go.MapKept
variable {et t:TypeId}{g:Nat}{o:Obj}{w:World}
structure Vi (P:Program)(kt:TypeId){κ:Type}[DecidableEq κ](enc:κ->Value):Prop where
 eq:∀ a b w,(Op.equal kt (enc a) (enc b)).run P w=.ok (decide (a=b)) w
 now:∃ d,P.underlying kt=some d/\((∀ a b,Instr.sameNow d (enc a) (enc b)=none)\/(∀ a b,Instr.sameNow d (enc a) (enc b)=some (decide (a=b))))
 chk:∀ e a w,(Instr.checkKey e 10000 kt (enc a)).run P w=.ok () w
 bits:∀ a,Instr.sameBits 10000 (enc a) (enc a)=true
 inj:∀ a b,enc a=enc b->a=b
def Eo {κ:Type}(enc:κ->Value)(o:Obj)(l:List (κ×Value)):Prop :=
 ∃ es clock,o=.map es clock/\es.toList.map (fun e=>(e.key,e.val))=l.map (fun p=>(enc p.1,p.2))/\Stamped es clock
def F6 {κ:Type}[DecidableEq κ](a:κ):List (κ×Value)->Option Value
 |[]=>none
 |(b,v)::l=>if a=b then some v else F6 a l
def Iq {κ:Type}[DecidableEq κ](a:κ)(x:Value):List (κ×Value)->List (κ×Value)
 |[]=>[(a,x)]
 |(b,v)::l=>if a=b then (b,x)::l else (b,v)::Iq a x l
def Am5 {κ:Type}[DecidableEq κ](a:κ):List (κ×Value)->List (κ×Value)
 |[]=>[]
 |(b,v)::l=>if a=b then l else (b,v)::Am5 a l
def Hf {κ:Type}[DecidableEq κ](a:κ):List (κ×Value)->Nat->Option (Nat×Value)
 |[],_=>none
 |(b,v)::l,i=>if a=b then some (i,v) else Hf a l (i+1)
def Afv (z:Value)(r:Option Value)(ok:Bool):Value:=match r with|some v=>(if ok then .tuple #[v,.bool true] else v)|none=>(if ok then .tuple #[z,.bool false] else z)
def Kl {α β:Type}{f:α->β}{l:List α}(h:(l.map f).Nodup):l.Nodup:=(List.pairwise_map.1 h).imp fun h e=>h (by rw[e])
section
variable {κ:Type} [DecidableEq κ] {enc:κ->Value}
def V4 (a:κ):∀ (l:List (κ×Value)) (i:Nat),(Hf a l i).map (·.2)=F6 a l
 |[],_=>rfl
 |(b,v)::l,i=>by
  unfold Hf F6;split
  ·rfl
  exact V4 a l (i+1)
def Sr {a:κ}:∀ {l:List (κ×Value)} {i:Nat},Hf a l i=none->a∉l.map (·.1)
 |[],_,_=>mV
 |(b,v)::l,i,h=>by
  unfold Hf at h;split at h
  ·cases h
  rename_i hne;simp only[Auk,At6,not_or];exact⟨hne,Sr h⟩
def T9 {a:κ}:∀ {l:List (κ×Value)} {i j:Nat} {v:Value},Hf a l i=some (j,v)->i<=j/\l[j-i]?=some (a,v)/\(∀ x,Iq a x l=l.set (j-i) (a,x))/\Am5 a l=l.eraseIdx (j-i)
 |[],_,_,_,h=>by cases h
 |(b,w)::l,i,j,v,h=>by
  unfold Hf at h;split at h
  ·rename_i e;simp only[Atd,Aun]at h;obtain⟨rfl,rfl⟩:=h;subst e;exact⟨Atb _,mV,fun x=>by simp[Iq],by simp[Am5]⟩
  rename_i hne;obtain⟨u,d,m,n⟩:=T9 h;have e:j-i=(j-(i+1))+1:=oV;refine⟨oV,by rw[e,Aya];exact d,fun x=>?_,?_⟩
  ·rw[e,Avi,<-m x];simp[Iq,hne]
  rw[e,List.eraseIdx_cons_succ,<-n];simp[Am5,hne]
def Ab6 {a:κ}:∀ {l:List (κ×Value)} (x:Value),a∉l.map (·.1)->Iq a x l=l++[(a,x)]
 |[],_,_=>rfl
 |(b,v)::l,x,h=>by
  simp only[Auk,At6,not_or]at h;unfold Iq;rw[if_neg h.1,Ab6 x h.2];rfl
def Gv {a:κ}:∀ {l:List (κ×Value)},F6 a l=none↔a∉l.map (·.1)
 |[]=>by simp[F6]
 |(b,v)::l=>by
  unfold F6;split
  ·rename_i e;simp[e]
  rename_i hne;rw[Gv];simp[hne]
variable {P:Program} {kt:TypeId}
def Lq (K:Vi P kt enc)(a:κ)(w:World):∀ (es:List MapEntry) (l:List (κ×Value)) (i:Nat),es.map (fun e=>(e.key,e.val))=l.map (fun p=>(enc p.1,p.2))->(Instr.findAsking kt (enc a) es i).run P w=.ok (Hf a l i) w
 |[],[],i,_=>by simp[Instr.findAsking,Hf]
 |[],_::_,_,h=>by simp at h
 |_::_,[],_,h=>by simp at h
 |e::es,(b,v)::l,i,h=>by
  simp only[Auk,Ave,Aun]at h;obtain⟨⟨j,m⟩,n⟩:=h;unfold Instr.findAsking;simp only[Sem.run_bind,j,K.eq,Result.andThen_ok];unfold Hf;by_cases d:a=b
  ·simp[d,m]
  simp only[decide_eq_false d,Aw7,if_false,if_neg d];exact Lq K a w es l (i+1) n
def Sf {d:TypeDesc}(m:∀ a b,Instr.sameNow d (enc a) (enc b)=some (decide (a=b)))(a:κ):∀ (es:List MapEntry) (l:List (κ×Value)) (i:Nat),es.map (fun e=>(e.key,e.val))=l.map (fun p=>(enc p.1,p.2))->Instr.findNow d (enc a) es i=some (Hf a l i)
 |[],[],i,_=>by simp[Instr.findNow,Hf]
 |[],_::_,_,h=>by simp at h
 |_::_,[],_,h=>by simp at h
 |e::es,(b,v)::l,i,h=>by
  simp only[Auk,Ave,Aun]at h;obtain⟨⟨n,u⟩,z⟩:=h;unfold Instr.findNow Hf;rw[n,m];by_cases j:a=b
  ·simp[j,u]
  simp only[decide_eq_false j,if_neg j];exact Sf m a es l (i+1) z
def Q1 (K:Vi P kt enc)(a:κ)(w:World){es:List MapEntry}{l:List (κ×Value)}(h:es.map (fun e=>(e.key,e.val))=l.map (fun p=>(enc p.1,p.2))):(Instr.findKey kt (enc a) es).run P w=.ok (Hf a l 0) w:=by
 obtain⟨d,m,j⟩:=K.now;unfold Instr.findKey;simp only[Sem.run_bind,run_underlying m,Result.andThen_ok];rcases j with j|j
 case inr=>rw[Sf j a es l 0 h];rfl
 cases es with
 |nil =>
  cases l with
  |nil=>simp[Instr.findNow,Hf]
  |cons=>simp at h
 |cons e es =>
  have n:Instr.findNow d (enc a) (e::es) 0=none:=by
   cases l with
   |nil=>simp at h
   |cons p l =>
    simp only[Auk,Ave,Aun]at h;unfold Instr.findNow;rw[h.1.1,j]
  rw[n];exact Lq K a w _ _ _ h
def Eo.empty:Eo enc (.map #[] 0) []:=⟨#[],0,rfl,mV,stamped_empty 0⟩
def Eo.nodup {l:List (κ×Value)}(h:Eo enc o l):(l.map (·.1)).Nodup:=by
 obtain⟨es,d,rfl,m,n⟩:=h;have j:es.toList.map (·.key)=l.map (fun p=>enc p.1):=by
  have:=congrArg (List.map (·.1)) m;simpa[Function.comp_def] using this
 have e:=n.2.2;rw[j]at e;have:l.map (fun p=>enc p.1)=(l.map (·.1)).map enc:=by simp[Function.comp_def]
 rw[this]at e;exact Kl e
def Ac0 (K:Vi P kt enc)(n:P.underlying t=some (.map kt et)){z:Value}(u:∀ w,(zeroValue et).run P w=.ok z w){l:List (κ×Value)}(j:w.heap[g]?=some o)(m:Eo enc o l)(a:κ)(ok:Bool) :
 (Instr.lookup t (.map (some g)) (enc a) ok).run P w=.ok (Afv z (F6 a l) ok) w:=by
 obtain⟨es,d,rfl,e,v⟩:=m;have h:=Q1 K a w e;rw[<-V4 a l 0];simp only[Instr.lookup,Sem.run_bind,run_underlying n,Result.andThen_ok,MapKept.run_getObj_map j,K.chk,Sem.run_pure,h];cases Hf a l 0 with
 |none=>simp only[Afv,Option.map_none,Sem.run_bind,u,Result.andThen_ok,Sem.run_pure]
 |some p=>simp only[Afv,Awh,Sem.run_bind,Sem.run_pure,Result.andThen_ok]
def Aep (K:Vi P kt enc)(V:P.underlying t=some (.map kt et)){l:List (κ×Value)}(H:w.heap[g]?=some o)(Y:Eo enc o l)(a:κ)(x:Value) :
 ∃ o',Eo enc o' (Iq a x l)/\(Instr.mapUpdate t (.map (some g)) (enc a) x).run P w=.ok () { w with heap:=w.heap.setIfInBounds g o' }:=by
 obtain⟨es,d,rfl,n,U⟩:=Y;have F:=Q1 K a w n;have R:es.toList.length=l.length:=by simpa using congrArg List.length n
 cases hfk:Hf a l 0 with
 |none =>
  rw[hfk]at F;have T:=Sr hfk;refine⟨.map (es.push { key:=enc a,val:=x,born:=d }) (d+1),⟨_,_,rfl,?_,stamped_push U (fun e X Q=>?_)⟩,?_⟩
  ·rw[Ab6 x T];simp only[Array.toList_push,Atk,n,Auk,Axd]
  ·obtain⟨j,W,rfl⟩:=Ayx.1 X;have:=congrArg (fun t=>t[j]?) n;simp only[Aty,As5 W,Awh]at this;rw[As5 oV]at this;simp only[Awh,Atd,Aun]at this;rw[this.1]at Q;exact T (Ate.2 ⟨_,Ath oV,K.inj _ _ Q⟩)
  simp only[Instr.mapUpdate,Sem.run_bind,run_underlying V,Result.andThen_ok,MapKept.run_getObj_map H,K.chk,F];exact MapKept.run_setObj_map _ H
 |some p =>
  obtain⟨j,v⟩:=p;rw[hfk]at F;obtain⟨_,I,O,_⟩:=T9 hfk;rw[Awx]at I O;have L:j<l.length:=(Atc.1 I).1;have J:j<es.toList.length:=oV;obtain⟨E,u⟩:∃ E,es.toList[j]?=some E:=⟨_,As5 J⟩;have z:E.key=enc a:=by
   have:=congrArg (fun t=>t[j]?) n;simp only[Aty,u,Awh,I,Atd,Aun]at this;exact this.1
  have m:es[j]?=some E:=by rw[<-Ayq];exact u
  refine⟨.map (es.modify j fun e=>{ e with key:=enc a,val:=x }) d,⟨_,_,rfl,?_,stamped_modify U j _ (fun _ _=>rfl) (fun e _ h=>?_)⟩,?_⟩
  ·rw[O x,Axb];apply Awe;intro i;simp only[Aty,Ayq,Az1,Au5];have hi:=congrArg (fun t=>t[i]?) n;simp only[Aty,Ayq]at hi;by_cases e:j=i
   ·subst e;rw[if_pos rfl,if_pos rfl,m,if_pos (by simpa using L)];rfl
   rw[if_neg e,if_neg e];exact hi
  ·rw[m]at h;cases h;exact z.symm
  have C:((es[j]?).map (·.key)).getD (enc a)=enc a:=by rw[m];simp[z]
  simp only[Instr.mapUpdate,Sem.run_bind,run_underlying V,Result.andThen_ok,MapKept.run_getObj_map H,K.chk,F,C];have N:(Instr.keyThatStays (enc a) (enc a)).run P w=.ok (enc a) w:=by unfold Instr.keyThatStays;rw[if_pos (K.bits a)];rfl
  rw[N];simp only[Result.andThen_ok];exact MapKept.run_setObj_map _ H
end
end
section
variable {D:List MapEntry}{clock g:Nat}{env:Operand->Value}{es:Array MapEntry}{o o':Obj}
variable [Ca]
open Go.MapKept
inductive Nd where
 |other
 |mk
 |look (t:Option TypeDesc) (x k:Value) (ok:Bool)
 |put (t:Option TypeDesc) (x k v:Value)
 |range (t:Option TypeDesc) (x:Value)
 |next (it:Value)
 |entry (it:Value)
def Lh (P:Program)(env:Operand->Value):Op->Nd
 |.makeMap _ none=>.mk
 |.lookup t x i ok=>.look (P.underlying t) (env x) (env i) ok
 |.mapUpdate t x k v=>.put (P.underlying t) (env x) (env k) (env v)
 |.insert t x k v=>.put (P.underlying t) (env x) (env k) (env v)
 |.range t x=>.range (P.underlying t) (env x)
 |.next it false=>.next (env it)
 |.entry it=>.entry (env it)
 |_=>.other
def Le (P:Program)(st:List KI×S):Nd :=
 match st.1 with
 |.reg _ ops _ (i::_)::_=>match ops[i]? with
  |some o=>match Gi st.2 o&&(Ll st.2 o.op&&Lu o.op) with
   |true=>match gv st.2 ops o with
    |some true=>Lh P (Ld st.2) o.op
    |_=>.other
   |false=>.other
  |none=>.other
 |_=>.other
def Tb:Obj->Bool
 |.cells ..=>false
 |_=>true
section good
variable {u m:PH} {w:World}
def Rq (w:World)(g:Nat)(o:Obj):World:={ w with heap:=w.heap.setIfInBounds g o }
def Xo (h:w.heap[g]?=some o):(Rq w g o').heap[g]?=some o':=by
 show (w.heap.setIfInBounds g o')[g]?=_;rw[Azq];simp[B0 h]
def R4 {g k:Nat}(h:k≠g):(Rq w g o').heap[k]?=w.heap[k]?:=by
 show (w.heap.setIfInBounds g o')[k]?=_;rw[Avk (fun e=>h e.symm)]
def Aic (g:Nat)(o':Obj):(Rq w g o').heap.size=w.heap.size:=by show (w.heap.setIfInBounds g o').size=_;simp
theorem B1.setO (h : B1 u m w)   (hg : m g = some o) (hn : Tb o' = true) : B1 u (m.upd g o') (Rq w g o') ∧ B8 u m w u (m.upd g o') (Rq w g o') := by
  have hb := h.pm g _ hg
  have hug : u g = none := by rcases h.ap g with e | e
                              · exact e
                              · grind
  refine ⟨⟨fun k o hk => ?_, fun k o hk => ?_, fun k => ?_, fun k cs1 t1 fr1 j z hk hj => ?_⟩, ⟨by rw [Aic]; exact Atb _, fun k hk hm => R4 (fun e => by rw [e, hg] at hm; cases hm), fun _ _ => rfl, fun k hk hm => by rw [Ac _ _ (fun e => by rw [e, hg] at hm; cases hm)]; exact hm, ⟨rfl, rfl⟩, fun _ => ⟨rfl, Atb _⟩⟩⟩
  · rw [R4 (fun e => by rw [e, hug] at hk; cases hk)]; exact h.pu k o hk
  · by_cases e : k = g
    · subst e; rw [Ab] at hk; rw [Xo hb]; exact hk
    · rw [Ac _ _ e] at hk; rw [R4 e]; exact h.pm k o hk
  · by_cases e : k = g
    · grind
    · rw [Ac _ _ e]; exact h.ap k
  · by_cases e : k = g
    · subst e
      rw [Xo hb] at hk
      simp only [Atd] at hk
      subst hk; cases hn
    · rw [R4 e] at hk; exact h.cl k cs1 t1 fr1 j z hk hj
theorem B1.newO (h:B1 u m w)(E:Tb o=true):B1 u (m.upd w.heap.size o) (w.alloc o)/\B8 u m w u (m.upd w.heap.size o) (w.alloc o)/\m w.heap.size=none/\u w.heap.size=none:=by
 have v:m w.heap.size=none:=h.pm.none (Atb _);have F:u w.heap.size=none:=h.pu.none (Atb _);refine⟨⟨fun g o' d=>?_,fun g o' d=>?_,fun g=>?_,fun g cs t fr j z d C=>?_⟩,⟨by rw[Bu];omega,fun g d _=>A9 _ _ d,fun _ _=>rfl,fun g d v=>by rw[Ac _ _ oV];exact v,⟨rfl,rfl⟩,fun _=>⟨rfl,Atb _⟩⟩,v,F⟩
 ·rw[A9 _ _ (h.pu.lt d)];exact h.pu g o' d
 ·by_cases e:g=w.heap.size
  ·subst e;rw[Ab]at d;rw[Cf];exact d
  rw[Ac _ _ e]at d;rw[A9 _ _ (h.pm.lt d)];exact h.pm g o' d
 ·by_cases e:g=w.heap.size
  ·grind
  rw[Ac _ _ e];exact h.ap g
 by_cases e:g=w.heap.size
 ·subst e;rw[Cf]at d;simp only[Atd]at d;subst d;cases E
 have n:=B0 d;rw[Bu]at n;rw[A9 _ _ oV]at d;exact h.cl g cs t fr j z d C
def B1.drewG (h:B1 u m w):B8 u m w u m w.drew:=⟨Atb _,fun _ _ _=>rfl,fun _ _=>rfl,fun _ _ h=>h,⟨rfl,rfl⟩,fun _=>⟨rfl,Nat.le_succ _⟩⟩
end good
section rules
variable {P:Program} [A7 P] {fn:Func} {Post:Bz} {st:List KI×S} {u m:PH}
theorem S5 {V:Nd}(h:Le P st=V)(n:V≠.other):∃ j d e i l k s o,st=(.reg j d e (i::l)::k,s)/\d[i]?=some o/\gv s d o=some true/\Gi s o=true/\Ll s o.op=true/\Lu o.op=true/\Lh P (Ld s) o.op=V /\
 ∀ v,nx st v=(.reg j d e l::k,s.put o.dst (.v v)):=by
 obtain⟨t,s⟩:=st;unfold Le at h;simp only at h;split at h
 ·rename_i j d e i l k;split at h
  ·rename_i o ho;split at h
   ·rename_i hb;simp only[Atj]at hb;split at h
    ·rename_i hg;exact⟨j,d,e,i,l,k,s,o,rfl,ho,hg,hb.1,hb.2.1,hb.2.2,h,fun v=>by simp[nx,ho]⟩
    grind
   grind
  grind
 grind
def Oh:Nd->Bool
 |.look ..=>true
 |_=>false
def Adg {o:Op}{V:Nd}(h:Lh P env o=V)(e:V≠.other)(d:Oh V=false):Ek o=false:=by
 unfold Lh at h;split at h<;>first|rfl|exact absurd h.symm e|(rw[<-h]at d;cases d)
theorem G.bigX {V:Nd}{K:Value->PH->PH->Prop}(h:Le P (adv P st)=V)(z:V≠.other/\Oh V=false)(t:(∀ v j d,K v j d->PH.le m d)\/Rl (adv P st)=true)
 (N:∀ env (o:Oper),Lh P env o.op=V->∀ w,B1 u m w->E2 P env o w fun v w'=>∃ j d,B1 j d w'/\B8 u m w j d w'/\K v j d)
 (k:∀ v j d,PH.le u j->K v j d->G P fn Post (nx (adv P st) v) j d):G P fn Post st u m:=by
 refine G.stp ?_;obtain⟨W,R,T,i,l,X,s,o,e,F,L,J,Q,O,n,E⟩:=S5 h z.1;rw[e]at t⊢;refine⟨?_⟩;refine Ob.big (K:=K) F L J Q O (Adg n z.1 z.2) (fun v j d U=>?_) (fun w C=>N _ o n w C) (fun v j d H I=>?_)
 ·rcases t with t|t
  ·grind
  exact .inr (Xg F t)
 have:=(k v j d H I).out;rw[E]at this;exact this
def Ah5 {o:Oper}{w w':World}{K:Value->World->Prop}(h:(execOp env o).run P w=.ok .skip w')(d:K undef w'):E2 P env o w K:=by
 unfold E2;rw[h];exact d
theorem G.mapMk (h:Le P (adv P st)=.mk)(k:∀ g,m g=none->u g=none->G P fn Post (nx (adv P st) (.map (some g))) u (m.upd g (.map #[] 0))):G P fn Post st u m:=by
 refine G.bigX (K:=fun v z e=>z=u/\PH.le m e/\∃ g,m g=none/\u g=none/\v=.map (some g)/\e=m.upd g (.map #[] 0)) h (by simp[Oh]) (.inl fun v z e E=>E.2.1) (fun env o d w t=>?_) (fun N z e J E=>?_)
 ·obtain⟨H,L,F,pos,j,n⟩:=o;simp only at d;unfold Lh at d;split at d<;>try (cases d;done)
  obtain⟨g1,g2,C,I⟩:=t.newO (o:=.map #[] 0) rfl;refine Bs (w':=w.alloc (.map #[] 0)) (v:=.map (some w.heap.size)) ?_ ⟨u,_,g1,g2,rfl,K5 _ C,w.heap.size,C,I,rfl,rfl⟩;simp[execOp,Instr.makeMap]
 grind
def Xq (P:Program)(t:TypeId):Option Value:=match P.info? t with|some i=>i.zero|none=>none
def W5 {t:TypeId}{z:Value}(h:Xq P t=some z)(w:World):(zeroValue t).run P w=.ok z w:=by
 unfold Xq at h;split at h
 ·rename_i i hi;simp[zeroValue,typeInfo,hi,h]
 cases h
variable {κ:Type} [DecidableEq κ] {enc:κ->Value} {kt et:TypeId}
def G.mapGet (K:Vi P kt enc)(z:Value)(g:Nat)(o:Obj)(l:List (κ×Value))(a:κ)(ok:Bool)(h:Le P (adv P st)=.look (some (.map kt et)) (.map (some g)) (enc a) ok)(X:Xq P et=some z)(Q:u g=some o\/m g=some o)(R:Eo enc o l)
 (k:G P fn Post (nx (adv P st) (Afv z (F6 a l) ok)) u m):G P fn Post st u m:=by
 refine G.stp ?_;obtain⟨id,Z,dr,i,l',kk,s,o',e,F,C,O,V,U,d,E⟩:=S5 h mV;have k:=k.out;rw[E]at k;rw[e];have v:Ev o'.op=false:=by
  unfold Lh at d;split at d<;>first|(cases d;done)|(rename_i e;rw[e];rfl)
 refine⟨Ob.ask F C O V U v (fun w hp=>?_) k⟩;obtain⟨I,Y,H,pos,j,n⟩:=o';simp only at d hp;unfold Lh at d;split at d<;>try (cases d;done)
 rename_i t x i ok';simp only[Nd.look.injEq]at d;obtain⟨J,L,N,rfl⟩:=d;obtain⟨pu,pm⟩:=hp (.inl rfl);have W:w.heap[g]?=some o:=Q.elim (pu g o) (pm (.inl rfl) g o);have T:=Ac0 K J (fun w=>W5 X w) W R a ok';simp only[execOp,L,N];simp[T]
def G.mapHas (K:Vi P kt enc)(z:Value)(g:Nat)(o:Obj)(l:List (κ×Value))(a:κ)(x:Value)(h:Le P (adv P st)=.look (some (.map kt et)) (.map (some g)) (enc a) true)(n:Xq P et=some z)(d:u g=some o\/m g=some o)(e:Eo enc o l)(j:F6 a l=some x)
 (k:G P fn Post (nx (adv P st) (.tuple #[x,.bool true])) u m):G P fn Post st u m :=
 G.mapGet K z g o l a true h n d e (by rw[j];exact k)
def G.mapNot (K:Vi P kt enc)(z:Value)(g:Nat)(o:Obj)(l:List (κ×Value))(a:κ)(h:Le P (adv P st)=.look (some (.map kt et)) (.map (some g)) (enc a) true)(n:Xq P et=some z)(d:u g=some o\/m g=some o)(e:Eo enc o l)(j:F6 a l=none)
 (k:G P fn Post (nx (adv P st) (.tuple #[z,.bool false])) u m):G P fn Post st u m :=
 G.mapGet K z g o l a true h n d e (by rw[j];exact k)
theorem G.mapPut (K:Vi P kt enc)(g:Nat)(o:Obj)(l:List (κ×Value))(a:κ)(x:Value)(h:Le P (adv P st)=.put (some (.map kt et)) (.map (some g)) (enc a) x)(J:Rl (adv P st)=true)(Q:m g=some o)(Z:Eo enc o l)
 (k:∀ o',Eo enc o' (Iq a x l)->G P fn Post (nx (adv P st) undef) u (m.upd g o')):G P fn Post st u m:=by
 refine G.bigX (K:=fun v C z=>C=u/\v=undef/\∃ o',Eo enc o' (Iq a x l)/\z=m.upd g o') h (by simp[Oh]) (.inr J) (fun env o' d w E=>?_) (fun v' C z V hk=>?_)
 ·obtain⟨I,n,H,pos,e,j⟩:=o';have key:∀ t X A Y,P.underlying t=some (.map kt et)->env X=.map (some g)->env A=enc a->env Y=x->(n=.mapUpdate t X A Y\/n=.insert t X A Y)->E2 P env ⟨I,n,H,pos,e,j⟩ w fun v w'=>∃ C z,B1 C z w'/\B8 u m w C z w'/\C=u/\v=undef/\∃ o',Eo enc o' (Iq a x l)/\z=m.upd g o':=by
   intro t X A Y T L N O U;have hw:w.heap[g]?=some o:=E.pm g o Q;obtain⟨o',F,R⟩:=Aep K T hw Z a x;have W:Tb o'=true:=by obtain⟨es,c,rfl,_⟩:=F;rfl
   obtain⟨g1,g2⟩:=E.setO Q W;refine Ah5 (w':=Rq w g o') ?_ ⟨u,_,g1,g2,rfl,rfl,o',F,rfl⟩;rcases U with rfl|rfl
   ·simp only[execOp,L,N,O];simp[R,Rq]
   simp only[execOp,L,N,O];simp[R,Rq]
  unfold Lh at d;split at d<;>try (cases d;done)
  ·grind
  grind
 grind
def Ar (D:List MapEntry):Array Nat:=(D.map (·.born)).toArray
structure Rk (es:Array MapEntry)(D:List MapEntry):Prop where
 sub:∀ e∈D,e∈es.toList
 nod:(D.map (·.born)).Nodup
def Rk.nil (es:Array MapEntry):Rk es []:=⟨mV,mV⟩
theorem G.mapRange (g:Nat)(es:Array MapEntry)(clock:Nat)(kt et:TypeId)(h:Le P (adv P st)=.range (some (.map kt et)) (.map (some g)))(N:u g=some (.map es clock)\/m g=some (.map es clock))
 (k:∀ i,m i=none->u i=none->G P fn Post (nx (adv P st) (.pointer (some ⟨i,0,none⟩))) u (m.upd i (.mapIter (some g) clock (Ar []) clock))):G P fn Post st u m:=by
 refine G.bigX (K:=fun v z j=>z=u/\PH.le m j/\∃ i,m i=none/\u i=none/\v=.pointer (some ⟨i,0,none⟩)/\j=m.upd i (.mapIter (some g) clock (Ar []) clock)) h (by simp[Oh]) (.inl fun v z j E=>E.2.1) (fun env o d w e=>?_) (fun U z j O E=>?_)
 ·obtain⟨H,T,F,pos,n,t⟩:=o;simp only at d;unfold Lh at d;split at d<;>try (cases d;done)
  simp only[Nd.range.injEq]at d;obtain⟨J,L⟩:=d;have R:w.heap[g]?=some (.map es clock):=N.elim (e.pu g _) (e.pm g _);obtain⟨g1,g2,C,I⟩:=e.newO (o:=.mapIter (some g) clock (Ar []) clock) rfl;have Q:=run_range_map (P:=P) w _ kt et g es clock J R;refine Bs (w':=w.alloc (.mapIter (some g) clock (Ar []) clock)) (v:=.pointer (some ⟨w.heap.size,0,none⟩)) ?_ ⟨u,_,g1,g2,rfl,K5 _ C,w.heap.size,C,I,rfl,rfl⟩;simp only[execOp,L];simp[Q,Ar]
 grind
def Aat (n:Nat)(h:0<n)(w:World):∃ j d,j<n/\(d=w\/d=w.drew)/\(choose (.mapNext n)).run P w=.ok j d:=by
 by_cases e:n<=1
 ·exact⟨0,w,h,.inl rfl,by simp[Question.forced,e]⟩
 exact⟨_,w.drew,Au3 _ h,.inr rfl,by
  simp only[choose,Sem.run,Question.forced,decide_eq_true_eq,e,if_false,Question.cut];rfl⟩
theorem Aiz {w:World}{t g:Nat}(J:TypeId)(hi:w.heap[t]?=some (.mapIter (some g) clock (Ar D) clock))(Q:w.heap[g]?=some (.map es clock))(I:Stamped es clock) :
 ((leftOf es (Ar D)).size=0/\(Instr.next (.pointer (some ⟨t,0,none⟩)) false J).run P w=.ok (.tuple #[.bool false]) w) \/
 ∃ e∈(leftOf es (Ar D)).toList,∃ h,(h=w\/h=w.drew)/\(Instr.next (.pointer (some ⟨t,0,none⟩)) false J).run P w=.ok (.tuple #[.bool true,e.key,e.val]) (Rq h t (.mapIter (some g) clock (Ar (D++[e])) clock)):=by
 have n:∀ e:MapEntry,(Ar D).push e.born=Ar (D++[e]):=fun e=>by simp[Ar]
 simp only[Instr.next,getObj,Sem.run_bind,Sem.run,hi,Q,Result.andThen,next_test_false (Ar D) es clock clock I.1 (Atb _),Aw7,if_false];have d:∀ x∈(leftOf es (Ar D)).toList,x.born<clock:=fun x H=>I.1 x (mem_left H).1;have O:es.filter (fun e=>!(Ar D).contains e.born)=leftOf es (Ar D):=rfl;simp only[O];generalize leftOf es (Ar D)=L at d⊢;have K:L.filter (fun x=>decide (x.born<clock))=L:=Array.filter_eq_self.2 (fun x H=>by simpa using d x (by simpa using H));have N:L.filter (fun x=>decide (x.born≥clock)) = #[]:=by simp_all
 simp only[K,N,Array.append_empty];by_cases h0:L.size=0
 ·have:L = #[]:=Ayk h0;subst this;simp[Question.forced]
 right;have F:L.isEmpty=false:=by grind
 simp only[F,Aw7,if_false,Array.empty_append,Array.size_map];obtain⟨j,h,R,v,z⟩:=Aat (P:=P) L.size oV w;refine⟨L[j],mV,h,v,?_⟩;have E:h.heap[t]?=some (.mapIter (some g) clock (Ar D) clock):=by rcases v with rfl|rfl<;>exact hi
 have C:∀ o':Obj,(setObj t o').run P h=.ok () (Rq h t o'):=fun o'=>by
  simp only[setObj,Sem.run,E,Rq]
 simp only[z,Array.getElem?_map,Aup R,Awh,Sem.run_bind,C,n];rfl
def M9 (D:List MapEntry)(b:Nat):(Ar D).contains b=true↔b∈D.map (·.born):=by
 unfold Ar;simp
def Ahd (E:Stamped es clock)(n:Rk es D)(h:(leftOf es (Ar D)).size=0):D.Perm es.toList:=by
 have C:es.toList.Nodup:=Kl E.2.1;have v:D.Nodup:=Kl n.nod;refine (List.perm_ext_iff_of_nodup v C).2 fun e=>⟨n.sub e,fun H=>?_⟩;have z:leftOf es (Ar D) = #[]:=Ayk h;have t:(Ar D).contains e.born=true:=by
  cases t:(Ar D).contains e.born with
  |true=>rfl
  |false =>
   have:e∈leftOf es (Ar D):=Array.mem_filter.2 ⟨by simpa using H,by rw[t];rfl⟩;rw[z]at this;simp at this
 obtain⟨d,F,K⟩:=Ate.1 ((M9 D _).1 t);have I:=find_born e es.toList E.2.1 H;have j:=find_born d es.toList E.2.1 (n.sub d F);rw[K]at j;rw[I]at j;have J:=Auq j;rw[J];exact F
def Rk.snoc (h:Rk es D){e:MapEntry}(z:e∈(leftOf es (Ar D)).toList):Rk es (D++[e]):=by
 obtain⟨t,j⟩:=mem_left z;refine⟨fun x d=>?_,?_⟩
 ·simp only[Ati,Aub]at d;rcases d with d|rfl
  ·exact h.sub x d
  exact t
 simp only[Atk,Auk,Axd];refine Awq.2 ⟨h.nod,mV,fun a v b n=>?_⟩;simp only[Aub]at n;subst n;rintro rfl;rw[(M9 D _).2 v]at j;cases j
theorem G.mapNext (n g:Nat)(es:Array MapEntry)(clock:Nat)(D:List MapEntry)(h:Le P (adv P st)=.next (.pointer (some ⟨n,0,none⟩)))(I:Rl (adv P st)=true)(hi:m n=some (.mapIter (some g) clock (Ar D) clock))(W:u g=some (.map es clock)\/m g=some (.map es clock))(T:Stamped es clock)(Q:Rk es D)
 (k0:D.Perm es.toList->G P fn Post (nx (adv P st) (.tuple #[.bool false])) u m)
 (k1:∀ e,e∈es.toList->Rk es (D++[e])->G P fn Post (nx (adv P st) (.tuple #[.bool true,e.key,e.val])) u (m.upd n (.mapIter (some g) clock (Ar (D++[e])) clock))):G P fn Post st u m:=by
 refine G.bigX (K:=fun v U N=>U=u/\((N=m/\v=.tuple #[.bool false]/\D.Perm es.toList)\/∃ e,e∈es.toList/\Rk es (D++[e])/\v=.tuple #[.bool true,e.key,e.val]/\N=m.upd n (.mapIter (some g) clock (Ar (D++[e])) clock))) h (by simp[Oh]) (.inr I) (fun env o d w j=>?_) (fun v' U N X hk=>?_)
 ·obtain⟨V,Z,E,pos,F,H⟩:=o;simp only at d;unfold Lh at d;split at d<;>try (cases d;done)
  simp only[Nd.next.injEq]at d;have Y:w.heap[g]?=some (.map es clock):=W.elim (j.pu g _) (j.pm g _);have L:=j.pm n _ hi;rcases Aiz (P:=P) E L Y T with ⟨h0,J⟩|⟨e,R,O,C,J⟩
  ·refine Bs (w':=w) (v:=.tuple #[.bool false]) ?_ ⟨u,m,j,B8.refl _ _ _,rfl,.inl ⟨rfl,rfl,Ahd T Q h0⟩⟩;simp only[execOp,d];simp[J]
  have t:B1 u m O:=by rcases C with rfl|rfl;exact j;exact j.drew'
  have z:B8 u m w u m O:=by rcases C with rfl|rfl;exact B8.refl _ _ _;exact j.drewG
  obtain⟨g1,g2⟩:=t.setO (o':=.mapIter (some g) clock (Ar (D++[e])) clock) hi rfl;refine Bs (w':=Rq O n (.mapIter (some g) clock (Ar (D++[e])) clock)) (v:=.tuple #[.bool true,e.key,e.val]) ?_ ⟨u,_,g1,z.trans g2,rfl,.inr ⟨e,(mem_left R).1,Q.snoc R,rfl,rfl⟩⟩;simp only[execOp,d];simp[J]
 grind
theorem G.mapEntry (n g:Nat)(es:Array MapEntry)(clock:Nat)(D:List MapEntry)(e:MapEntry)(h:Le P (adv P st)=.entry (.pointer (some ⟨n,0,none⟩)))(hi:m n=some (.mapIter (some g) clock (Ar (D++[e])) clock))(Q:u g=some (.map es clock)\/m g=some (.map es clock))(U:Stamped es clock)(N:e∈es.toList)
 (k:G P fn Post (nx (adv P st) (.tuple #[e.key,e.val])) u m):G P fn Post st u m:=by
 refine G.bigX (K:=fun v F E=>F=u/\E=m/\v=.tuple #[e.key,e.val]) h (by simp[Oh]) (.inl fun v F E H=>by rw[H.2.1];exact PH.le_refl _) (fun env o d w j=>?_) (fun X F E R H=>?_)
 ·obtain⟨J,W,I,pos,t,z⟩:=o;simp only at d;unfold Lh at d;split at d<;>try (cases d;done)
  simp only[Nd.entry.injEq]at d;have V:w.heap[g]?=some (.map es clock):=Q.elim (j.pu g _) (j.pm g _);have C:=j.pm n _ hi;have L:(Ar (D++[e])).back?=some e.born:=by simp[Ar]
  have O:es.find? (fun x=>x.born==e.born)=some e:=by rw[<-Array.find?_toList];exact find_born e es.toList U.2.1 N
  have T:(Instr.entry (.pointer (some ⟨n,0,none⟩))).run P w=.ok (.tuple #[e.key,e.val]) w:=by
   simp only[Instr.entry,getObj,Sem.run_bind,Sem.run,C,V,Result.andThen,L,bne_self_eq_false,O];rfl
  refine Bs (w':=w) ?_ ⟨u,m,j,B8.refl _ _ _,rfl,rfl,rfl⟩;simp only[execOp,d];simp[T]
 grind
end rules
end
section
variable {g:Nat}
variable [Ca]
def Rj (g:Nat)(o:Obj):PH:=PH.mt.upd g o
def PH.del (m:PH)(g:Nat):PH:=fun h=>if h=g then none else m h
def Cn (g:Nat)(o:Obj):Rj g o g=some o:=Ab _ _ _
def Zk {g h:Nat}(o:Obj)(d:h≠g):Rj g o h=none:=by unfold Rj;rw[Ac _ _ d];rfl
def Aia {m:PH}{o:Obj}(h:m g=some o):m=(m.del g).or (Rj g o)/\Jt (m.del g) (Rj g o):=by
 constructor
 ·funext k
  by_cases e:k=g
  ·subst e;rw[PH.or_r (by simp[PH.del]),Cn,h]
  cases hk:m k with
  |none=>rw[PH.or_r (by simp[PH.del,e,hk]),Zk o e]
  |some p=>rw[PH.or_l (o:=p) (by simp[PH.del,e,hk])]
 intro k;by_cases e:k=g
 ·left;simp[PH.del,e]
 right;exact Zk o e
def Alj {m:PH}{o:Obj}:(m.del g).or (Rj g o)=m.upd g o:=by
 funext k
 by_cases e:k=g
 ·subst e;rw[PH.or_r (by simp[PH.del]),Cn,Ab]
 rw[Ac _ _ e];cases hk:m k with
 |none=>rw[PH.or_r (by simp[PH.del,e,hk]),Zk o e]
 |some p=>rw[PH.or_l (o:=p) (by simp[PH.del,e,hk])]
section
variable {P:Program} [A7 P] {fn:Func} {Post:Bz} {st:List KI×S} {u m:PH}
def G.callG (f:Nat)(args:List Value){g:Nat}{o:Obj}{R:Value->PH->Obj->Prop}(h:Al P (adv P st)=.call f args)(e:Rl (adv P st)=true)(C:∀ args w,(callFunc f args).run P w=.ok (.enter f args) w)(E:m g=some o)
 (c:Aj P f args u (Rj g o) (fun v d j=>∃ o',j=Rj g o'/\R v d o')) (k:∀ v d o',PH.le u d->R v d o'->G P fn Post (nx (adv P st) v) d (m.upd g o')):G P fn Post st u m:=by
 obtain⟨n,t⟩:=Aia E;refine G.callA f args h e C n t c ?_;rintro v d j F ⟨o',rfl,z⟩ _;rw[Alj];exact k v d o' F z
def Aj.giveAll {f:FuncId}{args:List Value}{R:Value->PH->PH->Prop}(c:Aj P f args u PH.mt R):Fn0 P f args u (fun v h=>∃ J I,PH.le J h/\PH.le I h/\R v J I):=by
 intro w Q;refine Calls.mono (c w Q) fun e w' O=>?_;obtain⟨v,h,F,K,H,n,L⟩:=O;have E:PH.le h (F.or h):=fun g o d=>by
  cases hx:F g with
  |none=>rw[PH.or_r hx];exact d
  |some p=>have:=(H.ap g).resolve_right (by rw[hx];simp);rw[this]at d;cases d
 refine⟨v,F.or h,PH.mt,K,⟨fun g o d=>?_,Em.mt _,fun g=>.inr rfl,fun g cs t fr j z d T=>?_⟩,⟨n.sz,n.old,fun g C=>?_,fun _ _ _=>rfl,n.io,n.dr⟩,rfl,h,F,E,fun g o d=>PH.or_l d,L⟩
 ·cases hx:F g with
  |none=>rw[PH.or_r hx]at d;exact H.pu g o d
  |some p=>rw[PH.or_l hx]at d;cases d;exact H.pm g _ hx
 ·exact E g _ (H.cl g cs t fr j z d T)
 rw[PH.or_r (n.ms g C rfl)];exact n.us g C
end
abbrev SlI:Type:=Option Addr×Nat×Nat
def Fq {κ:Type}(enc:κ->Value)(R:PH->Value->Rat->Prop)(nz:Bool)(u:PH)(o:Obj)(f:κ->Rat)(N s:Nat):Prop :=
 ∃ l:List (κ×Value),Eo enc o l/\(∀ p∈l,R u p.2 (f p.1)/\(nz=true->f p.1≠0)/\Sz (f p.1) s)/\(∀ k,k∉l.map (·.1)->f k=0)/\l.length<=N
section
variable {κ:Type} [DecidableEq κ] {enc:κ->Value} {R:PH->Value->Rat->Prop} {nz:Bool} {u:PH} {o:Obj} {f:κ->Rat} {N s:Nat}
def Fq.up {e j:Nat}(h:Fq enc R nz u o f N s)(z:N<=e)(C:s<=j):Fq enc R nz u o f e j:=by
 obtain⟨l,n,d,t,v⟩:=h;exact⟨l,n,fun p hp=>⟨(d p hp).1,(d p hp).2.1,(d p hp).2.2.mono C⟩,t,As9 v z⟩
def Fq.congr {f':κ->Rat}(h:Fq enc R nz u o f N s)(e:∀ k,f k=f' k):Fq enc R nz u o f' N s:=by
 rw[<-funext e];exact h
def Fq.empty (s:Nat):Fq enc R nz u (.map #[] 0) (fun _=>0) 0 s:=⟨[],Eo.empty,mV,fun _ _=>rfl,Atb _⟩
def H5 {a:κ}:∀ {l:List (κ×Value)} {v:Value},F6 a l=some v->(a,v)∈l
 |(b,w)::l,v,h=>by
  unfold F6 at h;split at h
  ·rename_i e;cases h;rw[e];simp
  exact Auv _ (H5 h)
def Xy {a:κ}:∀ {l:List (κ×Value)} {v:Value},(l.map (·.1)).Nodup->(a,v)∈l->F6 a l=some v
 |(b,w)::l,v,hn,h=>by
  simp only[Auk,Awr]at hn;unfold F6;rcases At6.1 h with e|e
  ·cases e;rw[if_pos rfl]
  have:a≠b:=fun d=>hn.1 (by rw[<-d];exact Ate.2 ⟨_,e,rfl⟩);rw[if_neg this];exact Xy hn.2 e
def Td {a:κ}{x:Value}:∀ {l:List (κ×Value)} {p:κ×Value},(l.map (·.1)).Nodup->p∈Iq a x l->p=(a,x)\/(p∈l/\p.1≠a)
 |[],p,_,h=>by simp[Iq]at h;exact .inl h
 |(b,w)::l,p,hn,h=>by
  simp only[Auk,Awr]at hn;unfold Iq at h;split at h
  ·rename_i e;subst e;rcases At6.1 h with h|h
   ·exact .inl h
   refine .inr ⟨Auv _ h,fun d=>hn.1 ?_⟩;rw[<-d];exact Ate.2 ⟨p,h,rfl⟩
  rename_i e;rcases At6.1 h with h|h
  ·subst h;exact .inr ⟨mV,fun d=>e d.symm⟩
  rcases Td hn.2 h with h|⟨h,j⟩
  ·exact .inl h
  exact .inr ⟨Auv _ h,j⟩
def Qf {a:κ}{x:Value}{k:κ}:∀ {l:List (κ×Value)},k∈(Iq a x l).map (·.1)↔k=a\/k∈l.map (·.1)
 |[]=>by simp[Iq]
 |(b,w)::l=>by
  unfold Iq;split
  ·rename_i e;subst e;simp
  simp only[Auk,At6,Qf (l:=l)];constructor
  ·rintro (h|h|h)
   ·exact .inr (.inl h)
   ·exact .inl h
   exact .inr (.inr h)
  rintro (h|h|h)
  ·exact .inr (.inl h)
  ·exact .inl h
  exact .inr (.inr h)
def L8 {a:κ}{x:Value}:∀ {l:List (κ×Value)},(Iq a x l).length<=l.length+1
 |[]=>by simp[Iq]
 |(b,w)::l=>by
  unfold Iq;split
  ·simp
  have:=L8 (a:=a) (x:=x) (l:=l);simp;omega
def Hr (f:κ->Rat)(a:κ)(q:Rat):κ->Rat:=fun k=>if k=a then q else f k
def Fq.put {o':Obj}{a:κ}{x:Value}{q:Rat}{l:List (κ×Value)}(z:Eo enc o l)(d:∀ p∈l,R u p.2 (f p.1)/\(nz=true->f p.1≠0)/\Sz (f p.1) s)(v:∀ k,k∉l.map (·.1)->f k=0)(H:l.length<=N)
 (t:Eo enc o' (Iq a x l)) (F:R u x q) (C:nz=true->q≠0) {n:Nat} (E:Sz q n) (j:s<=n):Fq enc R nz u o' (Hr f a q) (N+1) n:=by
 refine⟨_,t,fun p hp=>?_,fun k e=>?_,As9 L8 oV⟩
 ·unfold Hr;rcases Td z.nodup hp with rfl|⟨hp,h⟩
  ·simp only[if_true];exact⟨F,C,E⟩
  rw[if_neg h];exact⟨(d p hp).1,(d p hp).2.1,(d p hp).2.2.mono j⟩
 rw[Qf,not_or]at e;unfold Hr;rw[if_neg e.1];exact v k e.2
end
end
section
abbrev Par:=Int×List UInt8
def Qt:∀ a:List UInt8,Op.bytesLess a a=false
 |[]=>rfl
 |x::a=>by unfold Op.bytesLess;rw[Qt a];simp
def O9:∀ {a b c:List UInt8},Op.bytesLess a b=true->Op.bytesLess b c=true->Op.bytesLess a c=true
 |_,[],_,h,_=>by simp[Op.bytesLess]at h
 |_,_::_,[],_,k=>by simp[Op.bytesLess]at k
 |[],_::_,_::_,_,_=>rfl
 |x::a,y::b,z::c,h,k=>by
  unfold Op.bytesLess at h k⊢;simp only[Av7,decide_eq_true_eq,Atj,beq_iff_eq]at h k⊢;rcases h with h|⟨rfl,h⟩
  ·rcases k with k|⟨rfl,k⟩
   ·exact .inl (UInt8.lt_trans h k)
   exact .inl h
  rcases k with k|⟨rfl,k⟩
  ·exact .inl k
  exact .inr ⟨rfl,O9 h k⟩
def X8:∀ {a b:List UInt8},Op.bytesLess a b=false->Op.bytesLess b a=false->a=b
 |[],[],_,_=>rfl
 |[],_::_,h,_=>by simp[Op.bytesLess]at h
 |_::_,[],_,k=>by simp[Op.bytesLess]at k
 |x::a,y::b,h,k=>by
  unfold Op.bytesLess at h k;simp only[Bool.or_eq_false_iff,decide_eq_false_iff_not,Az0,beq_eq_false_iff_ne]at h k;have d:x=y:=by
   rcases Axu x.toNat y.toNat with e|e|e
   ·exact absurd (A1q.2 e) h.1
   ·exact Az8.1 e
   exact absurd (A1q.2 e) k.1
  subst d;have g:=h.2.resolve_left (fun e=>e rfl);have j:=k.2.resolve_left (fun e=>e rfl);rw[X8 g j]
def Ro (a b:List UInt8):Int:=if Op.bytesLess a b then -1 else if a=b then 0 else 1
def Od (x y:Int):Int:=if x<y then -1 else if y<x then 1 else 0
def Bd (a b:Par):Int:=if Od a.1 b.1≠0 then Od a.1 b.1 else Ro a.2 b.2
def Lw (a b:Par×Par):Int:=if Bd a.1 b.1≠0 then Bd a.1 b.1 else Bd a.2 b.2
structure Ord {κ:Type}(c:κ->κ->Int):Prop where
 refl:∀ a,c a a=0
 eq:∀ a b,c a b=0->a=b
 sym:∀ a b,c a b<0↔0<c b a
 trans:∀ a b d,c a b<0->c b d<0->c a d<0
def Asv:Ord Ro:=by
 refine⟨fun a=>by simp[Ro,Qt],fun a b h=>?_,fun a b=>?_,fun a b d h k=>?_⟩
 ·unfold Ro at h;split at h
  ·cases h
  split at h
  ·assumption
  cases h
 ·unfold Ro;by_cases h:Op.bytesLess a b=true
  ·rw[if_pos h];have g:¬ (Op.bytesLess b a=true):=fun k=>by have:=O9 h k;rw[Qt]at this;cases this
   have m:¬ (b=a):=fun e=>by rw[e,Qt]at h;cases h
   rw[if_neg g,if_neg m];omega
  rw[if_neg h];constructor
  ·intro k;split at k<;>omega
  intro k;by_cases g:Op.bytesLess b a=true
  ·rw[if_pos g]at k;omega
  rw[if_neg g]at k;have:=X8 (Bool.eq_false_iff.2 g) (Bool.eq_false_iff.2 h);rw[if_pos this]at k;omega
 have j:Op.bytesLess a b=true:=by
  unfold Ro at h;split at h
  ·assumption
  split at h<;>omega
 have n:Op.bytesLess b d=true:=by
  unfold Ro at k;split at k
  ·assumption
  split at k<;>omega
 unfold Ro;rw[if_pos (O9 j n)];omega
def Ast:Ord Od:=by
 refine⟨fun a=>by simp[Od],fun a b h=>?_,fun a b=>?_,fun a b d h k=>?_⟩;all_goals unfold Od at *
 ·split at h<;>(try split at h)<;>omega
 ·split<;>split<;>(try split)<;>omega
 split at h<;>split at k<;>(try split at h)<;>(try split at k)<;>split<;>(try split)<;>omega
def Ord.lex {α β:Type}{c:α->α->Int}{d:β->β->Int}(h:Ord c)(k:Ord d):Ord (fun (a b:α×β)=>if c a.1 b.1≠0 then c a.1 b.1 else d a.2 b.2):=by
 refine⟨fun a=>by simp[h.refl,k.refl],fun a b e=>?_,fun a b=>?_,fun a b x e f=>?_⟩
 ·by_cases h0:c a.1 b.1=0
  ·simp only[h0,ne_eq,not_true,if_false]at e;exact A07 (h.eq _ _ h0) (k.eq _ _ e)
  simp only[h0,ne_eq,not_false_eq_true,if_true]at e
 ·have E:=h.sym a.1 b.1;have H:=h.sym b.1 a.1;by_cases h0:c a.1 b.1=0
  ·have e:=h.eq _ _ h0;have t:c b.1 a.1=0:=by rw[<-e];exact h.refl _
   simp only[h0,t,ne_eq,not_true,if_false];exact k.sym _ _
  have t:c b.1 a.1≠0:=fun F=>h0 (by rw[h.eq _ _ F];exact h.refl _);simp only[h0,t,ne_eq,not_false_eq_true,if_true];exact E
 have g:∀ y z:α×β,(if c y.1 z.1≠0 then c y.1 z.1 else d y.2 z.2)<0↔(c y.1 z.1<0\/(y.1=z.1/\d y.2 z.2<0)):=fun y z=>by
  by_cases h0:c y.1 z.1=0
  ·have e:=h.eq _ _ h0;simp only[h0,ne_eq,not_true,if_false];constructor
   ·intro j;exact .inr ⟨e,j⟩
   rintro (j|⟨_,j⟩)
   ·omega
   exact j
  simp only[h0,ne_eq,not_false_eq_true,if_true];constructor
  ·intro j;exact .inl j
  rintro (j|⟨m,_⟩)
  ·exact j
  exact absurd (by rw[m];exact h.refl _) h0
 have m:=(g a b).1 e;have f':=(g b x).1 f;refine (g a x).2 ?_;rcases m with m|⟨u,C⟩
 ·rcases f' with f'|⟨n,v⟩
  ·exact .inl (h.trans _ _ _ m f')
  rw[<-n];exact .inl m
 rcases f' with f'|⟨n,v⟩
 ·rw[u];exact .inl f'
 exact .inr ⟨u.trans n,k.trans _ _ _ C v⟩
def Fr:Ord Bd:=Ord.lex Ast Asv
def Ap3:Ord Lw:=Ord.lex Fr Fr
section
variable {κ:Type} {c:κ->κ->Int}
def Hk (c:κ->κ->Int)(l:List κ):Prop:=l.Pairwise fun a b=>c a b<0
def Ord.irr (h:Ord c)(a:κ):¬ c a a<0:=by rw[h.refl];omega
def Aa0 (h:Ord c):∀ {l g:List κ},Hk c l->Hk c g->(∀ a,a∈l↔a∈g)->l=g
 |[],[],_,_,_=>rfl
 |[],b::g,_,_,e=>by have:=(e b).2 mV;simp at this
 |a::l,[],_,_,e=>by have:=(e a).1 mV;simp at this
 |a::l,b::g,h1,h2,e=>by
  obtain⟨m,t⟩:=A0q.1 h1;obtain⟨n,u⟩:=A0q.1 h2;have j:a=b:=by
   rcases At6.1 ((e a).1 mV) with r|r
   ·exact r
   rcases At6.1 ((e b).2 mV) with s|s
   ·exact s.symm
   exact absurd (h.trans _ _ _ (m b s) (n a r)) (h.irr a)
  subst j
  congr 1
  refine Aa0 h t u fun x=>?_;constructor
  ·intro d;rcases At6.1 ((e x).1 (by simp[d])) with r|r
   ·subst r;exact absurd (m x d) (h.irr x)
   exact r
  intro d;rcases At6.1 ((e x).2 (by simp[d])) with r|r
  ·subst r;exact absurd (n x d) (h.irr x)
  exact r
def Hk.nodup (h:Ord c){l:List κ}(g:Hk c l):l.Nodup:=g.imp fun d e=>by rw[e]at d;exact h.irr _ d
structure Can (c:κ->κ->Int)(f:κ->Rat)(l:List (κ×Rat)):Prop where
 srt:Hk c (l.map (·.1))
 val:∀ p∈l,p.2=f p.1/\p.2≠0
 out:∀ k,k∉l.map (·.1)->f k=0
end
structure CF where
 c:Rat
 s:Par->Rat
 t:Par×Par->Rat
def A5 (p q:Par):Par×Par:=if 0<Bd p q then (q,p) else (p,q)
def Vh (p q:Par):A5 p q=A5 q p:=by
 unfold A5;have e:=Fr.sym p q;have g:=Fr.sym q p;by_cases h:0<Bd p q
 ·rw[if_pos h,if_neg oV]
 rw[if_neg h];by_cases d:0<Bd q p
 ·rw[if_pos d]
 rw[if_neg d];have:=Fr.eq p q oV;rw[this]
def CF.zero:CF:=⟨0,fun _=>0,fun _=>0⟩
def CF.add (a b:CF):CF:=⟨a.c+b.c,fun p=>a.s p+b.s p,fun q=>a.t q+b.t q⟩
def CF.scale (k:Rat)(a:CF):CF:=⟨a.c*k,fun p=>a.s p*k,fun q=>a.t q*k⟩
def Hi (a b:CF)(q:Par×Par):Rat:=if 0<Bd q.1 q.2 then 0 else if q.1=q.2 then 2*(a.s q.1*b.s q.1) else a.s q.1*b.s q.2+a.s q.2*b.s q.1
def CF.mul (a b:CF):CF:=⟨a.c*b.c,fun p=>b.s p*a.c+a.s p*b.c,fun q=>b.t q*a.c+a.t q*b.c+Hi a b q⟩
def CF.ext' {a b:CF}(d:a.c=b.c)(e:∀ p,a.s p=b.s p)(g:∀ q,a.t q=b.t q):a=b:=by
 cases a;cases b;simp only at d e g;rw[d,funext e,funext g]
theorem Adp (a b:CF)(q:Par×Par):Hi a b q=Hi b a q:=by
 unfold Hi;split
 ·rfl
 split<;>grind
theorem CF.mul_comm (a b:CF):a.mul b=b.mul a:=CF.ext' (by simp only[CF.mul];grind) (fun p=>by simp only[CF.mul];grind) (fun q=>by simp only[CF.mul];rw[Adp];grind)
theorem CF.mul_zero (a:CF):a.mul CF.zero=CF.zero:=by
 refine CF.ext' (by simp only[CF.mul,CF.zero];grind) (fun p=>by simp only[CF.mul,CF.zero];grind) (fun q=>?_);simp only[CF.mul,CF.zero,Hi];split
 ·grind
 split<;>grind
end
section
variable {k:IntKind}{o:Nat}{t ti ts:TypeId}{xs:Array Value}
def A3 (p:Par):Value:=.agg #[.int .i64 p.1,.string (mkS p.2)]
def prV (q:Par×Par):Value:=.agg #[.int .i64 q.1.1,.string (mkS q.1.2),.int .i64 q.2.1,.string (mkS q.2.2)]
def K9 (f:Field):Bool×TypeId×Nat:=(f.name != "_",f.type,f.offset)
section
variable {P:Program}
def Hu {v:Value}(h:K7 P t=some false)(d:xs[o]?=some v)(w:World):(part t xs o).run P w=.ok v w:=by
 simp[part,D3 h,d]
def Da {n:Nat}(h:K7 P t=some true)(d:szB P t=some n)(w:World):(part t xs o).run P w=.ok (.agg (xs.extract o (o+n))) w:=by
 simp[part,D3 h,Be d]
def No (h:P.underlying t=some (.int k)):K7 P t=some false:=by unfold K7;rw[h]
def N5 (h:P.underlying t=some .string):K7 P t=some false:=by unfold K7;rw[h]
def Apj (a b:List UInt8):((mkS a).toList==(mkS b).toList)=decide (a=b):=Ji a b
def R9 {A B:Type}{h:A->B}{d:List A}{x y:B}(e:d.map h = [x,y]):∃ f g,d = [f,g]:=by
 have h0:=congrArg List.length e;simp only[Ata,Auh,Av1]at h0
 match d,h0 with
 |[f,g],_=>exact⟨f,g,rfl⟩
def If (h:(P.fieldsOf t).toList.map K9 = [(true,ti,0),(true,ts,1)])(I:P.underlying t=some (.struct (P.fieldsOf t)))(hp:P.stoodInHeld t=false)(hi:P.underlying ti=some (.int k))(u:P.underlying ts=some .string)(d:Nat)(a b:Par)(w:World) :
 (Op.equalIn (d+2) t (A3 a) (A3 b)).run P w=.ok (decide (a=b)) w:=by
 unfold A3;rw[run_equalIn_struct w (d+1) t _ _ I hp];generalize (P.fieldsOf t).toList=fs at h;obtain⟨f,g,n⟩:=R9 h;subst n;simp only[Auk,Axd,Ave,K9,Aun,bne_iff_ne,ne_eq,and_true]at h;obtain⟨⟨J,rfl,F⟩,K,rfl,H⟩:=h;obtain⟨j,z⟩:=a;obtain⟨m,C⟩:=b;simp only[Op.eqFields,ne_eq,J,K,not_false_eq_true,if_true,Sem.run_bind];rw[Hu (No hi) (v:=.int .i64 j) (by rw[F];rfl),Result.andThen_ok,Hu (No hi) (v:=.int .i64 m) (by rw[F];rfl),Result.andThen_ok,run_equalIn_int w d _ _ _ _ _ hi,Result.andThen_ok];by_cases e:j=m
 ·subst e;simp only[beq_self_eq_true,Ayc,Aw7,if_false,Sem.run_bind];rw[Hu (N5 u) (v:=.string (mkS z)) (by rw[H];rfl),Result.andThen_ok,Hu (N5 u) (v:=.string (mkS C)) (by rw[H];rfl),Result.andThen_ok,run_equalIn_string w d _ _ _ u,Result.andThen_ok,Apj];by_cases E:z=C
  ·subst E;simp
  simp[E]
 have:(j==m)=false:=by simpa using e
 simp[this,e]
def Ahb {t tp ti ts:TypeId}{k:IntKind}(K:(P.fieldsOf t).toList.map K9 = [(true,tp,0),(true,tp,2)])(V:P.underlying t=some (.struct (P.fieldsOf t)))(hp:P.stoodInHeld t=false)
 (I:(P.fieldsOf tp).toList.map K9 = [(true,ti,0),(true,ts,1)]) (m:P.underlying tp=some (.struct (P.fieldsOf tp))) (J:P.stoodInHeld tp=false) (j:szB P tp=some 2) (hi:P.underlying ti=some (.int k)) (O:P.underlying ts=some .string) (d:Nat) (a b:Par×Par) (w:World) :
 (Op.equalIn (d+3) t (prV a) (prV b)).run P w=.ok (decide (a=b)) w:=by
 have h:K7 P tp=some true:=by unfold K7;rw[m]
 unfold prV;rw[run_equalIn_struct w (d+2) t _ _ V hp];generalize (P.fieldsOf t).toList=fs at K;obtain⟨f,g,L⟩:=R9 K;subst L;simp only[Auk,Axd,Ave,K9,Aun,bne_iff_ne,ne_eq,and_true]at K;obtain⟨⟨W,T,Y⟩,X,U,Z⟩:=K;obtain⟨⟨n,u⟩,v,z⟩:=a;obtain⟨⟨C,E⟩,F,H⟩:=b;simp only[Op.eqFields,ne_eq,W,X,not_false_eq_true,if_true,Sem.run_bind,T,U,Y,Z];rw[Da h j,Result.andThen_ok,Da h j,Result.andThen_ok];have Q:=If I m J hi O d (n,u) (C,E) w;have R:=If I m J hi O d (v,z) (F,H) w;unfold A3 at Q R;have x1:(#[Value.int .i64 n,.string (mkS u),.int .i64 v,.string (mkS z)].extract 0 (0+2)) = #[.int .i64 n,.string (mkS u)]:=rfl;have x2:(#[Value.int .i64 C,.string (mkS E),.int .i64 F,.string (mkS H)].extract 0 (0+2)) = #[.int .i64 C,.string (mkS E)]:=rfl;have x3:(#[Value.int .i64 n,.string (mkS u),.int .i64 v,.string (mkS z)].extract 2 (2+2)) = #[.int .i64 v,.string (mkS z)]:=rfl;have x4:(#[Value.int .i64 C,.string (mkS E),.int .i64 F,.string (mkS H)].extract 2 (2+2)) = #[.int .i64 F,.string (mkS H)]:=rfl;simp only[x1,x2,Q,Result.andThen_ok];by_cases e:((n,u):Par)=(C,E)
 ·simp only[e,decide_true,Ayc,Aw7,if_false,Sem.run_bind];rw[Da h j,Result.andThen_ok,Da h j,Result.andThen_ok];simp only[x3,x4,R,Result.andThen_ok];by_cases N:((v,z):Par)=(F,H)
  ·simp[N]
  simp[N]
 simp[e]
def Oq (h:(∃ k,P.underlying t=some (.int k))\/P.underlying t=some .string)(e:Bool)(d:Nat)(v:Value)(w:World):(Instr.checkKey e (d+1) t v).run P w=.ok () w:=by
 unfold Instr.checkKey;rcases h with ⟨k,h⟩|h<;>simp[run_underlying h]
def Hb (h:(P.fieldsOf t).toList.map K9 = [(true,ti,0),(true,ts,1)])(z:P.underlying t=some (.struct (P.fieldsOf t)))(hi:P.underlying ti=some (.int k))(m:P.underlying ts=some .string)(e:Bool)(d:Nat)(a:Par)(w:World) :
 (Instr.checkKey e (d+2) t (A3 a)).run P w=.ok () w:=by
 unfold A3;rw[Instr.checkKey];simp only[Sem.run_bind,run_underlying z,Result.andThen_ok];rw[<-A2g];generalize (P.fieldsOf t).toList=fs at h;obtain⟨f,g,j⟩:=R9 h;subst j;simp only[Auk,Axd,Ave,K9,Aun,bne_iff_ne,ne_eq,and_true]at h;obtain⟨⟨C,n,F⟩,E,u,H⟩:=h;simp only[A1e,A1r,ne_eq,C,E,not_false_eq_true,if_true,Sem.run_bind,n,u,F,H];rw[Hu (No hi) (v:=.int .i64 a.1) rfl,Result.andThen_ok,Oq (.inl ⟨k,hi⟩)];simp only[Result.andThen_ok,Sem.run_pure,Sem.run_bind];rw[Hu (N5 m) (v:=.string (mkS a.2)) rfl,Result.andThen_ok,Oq (.inr m)];simp
def Aec {t tp ti ts:TypeId}{k:IntKind}(u:(P.fieldsOf t).toList.map K9 = [(true,tp,0),(true,tp,2)])(I:P.underlying t=some (.struct (P.fieldsOf t)))
 (m:(P.fieldsOf tp).toList.map K9 = [(true,ti,0),(true,ts,1)]) (h:P.underlying tp=some (.struct (P.fieldsOf tp))) (n:szB P tp=some 2) (hi:P.underlying ti=some (.int k)) (z:P.underlying ts=some .string) (e:Bool) (d:Nat) (a:Par×Par) (w:World) :
 (Instr.checkKey e (d+3) t (prV a)).run P w=.ok () w:=by
 have j:K7 P tp=some true:=by unfold K7;rw[h]
 unfold prV;rw[Instr.checkKey];simp only[Sem.run_bind,run_underlying I,Result.andThen_ok];rw[<-A2g];generalize (P.fieldsOf t).toList=fs at u;obtain⟨f,g,v⟩:=R9 u;subst v;simp only[Auk,Axd,Ave,K9,Aun,bne_iff_ne,ne_eq,and_true]at u;obtain⟨⟨J,F,L⟩,K,H,N⟩:=u;have C:=Hb m h hi z e d a.1 w;have E:=Hb m h hi z e d a.2 w;unfold A3 at C E;simp only[A1e,A1r,ne_eq,J,K,not_false_eq_true,if_true,Sem.run_bind,F,H,L,N];rw[Da j n,Result.andThen_ok];have O:(#[Value.int .i64 a.1.1,.string (mkS a.1.2),.int .i64 a.2.1,.string (mkS a.2.2)].extract 0 (0+2)) = #[.int .i64 a.1.1,.string (mkS a.1.2)]:=rfl;have Q:(#[Value.int .i64 a.1.1,.string (mkS a.1.2),.int .i64 a.2.1,.string (mkS a.2.2)].extract 2 (2+2)) = #[.int .i64 a.2.1,.string (mkS a.2.2)]:=rfl;rw[O,C];simp only[Result.andThen_ok,Sem.run_pure,Sem.run_bind];rw[Da j n,Result.andThen_ok,Q,E];simp
def Am0 (a b:Par)(h:A3 a=A3 b):a=b:=by
 unfold A3 at h;simp only[Value.agg.injEq,Axh,Ave,Value.int.injEq,Value.string.injEq,true_and,and_true]at h;exact A07 h.1 (Zg.1 h.2)
def Afb (a b:Par×Par)(h:prV a=prV b):a=b:=by
 unfold prV at h;simp only[Value.agg.injEq,Axh,Ave,Value.int.injEq,Value.string.injEq,true_and,and_true]at h;exact A07 (A07 h.1 (Zg.1 h.2.1)) (A07 h.2.2.1 (Zg.1 h.2.2.2))
def Aaj (d:Nat)(k:IntKind)(z:Int):Instr.sameBits d (.int k z) (.int k z)=true:=by unfold Instr.sameBits;simp
def Zu (d:Nat)(z:ByteArray):Instr.sameBits d (.string z) (.string z)=true:=by
 obtain⟨⟨l⟩⟩:=z;have:((⟨⟨l⟩⟩:ByteArray) == ⟨⟨l⟩⟩)=true:=by rw[beq_toListBytes];simp
 unfold Instr.sameBits;exact this
def Ake (a:Par):Instr.sameBits 10000 (A3 a) (A3 a)=true:=by
 show Instr.sameBits (9999+1) _ _=true;unfold A3 Instr.sameBits;simp[Aaj,Zu]
def Ae9 (a:Par×Par):Instr.sameBits 10000 (prV a) (prV a)=true:=by
 show Instr.sameBits (9999+1) _ _=true;unfold prV Instr.sameBits;simp[Aaj,Zu]
end
theorem Dq:Vi prog 110 A3 :=
 ⟨fun a b w=>If (P:=prog) (t:=110) (ti:=3) (ts:=9) (k:=.i64) kV kV kV kV kV 9998 a b w,
  ⟨_,(by kernel_rfl:prog.underlying 110=some (.struct (prog.fieldsOf 110))),.inl fun _ _=>rfl⟩,
  fun e a w=>Hb (P:=prog) (t:=110) (ti:=3) (ts:=9) (k:=.i64) kV kV kV kV e 9998 a w,Ake,Am0⟩
theorem Alw:Vi prog 178 prV :=
 ⟨fun a b w=>Ahb (P:=prog) (t:=178) (tp:=110) (ti:=3) (ts:=9) (k:=.i64) kV kV kV kV kV kV kV kV kV 9997 a b w,
  ⟨_,(by kernel_rfl:prog.underlying 178=some (.struct (prog.fieldsOf 178))),.inl fun _ _=>rfl⟩,
  fun e a w=>Aec (P:=prog) (t:=178) (tp:=110) (ti:=3) (ts:=9) (k:=.i64) kV kV kV kV kV kV kV e 9997 a w,Ae9,Afb⟩
end
section
section
variable {P:Program}
def Adj {t e ti ts:TypeId}{k:IntKind}(R:P.underlying t=some (.array 2 e))(hi:(P.info? e).isSome=true)(Q:P.cellsOf e=2)(h:szB P e=some 2)
 (H:(P.fieldsOf e).toList.map K9 = [(true,ti,0),(true,ts,1)]) (j:P.underlying e=some (.struct (P.fieldsOf e))) (I:P.stoodInHeld e=false) (J:P.underlying ti=some (.int k)) (L:P.underlying ts=some .string) (d:Nat) (a b:Par×Par) (w:World) :
 (Op.equalIn (d+3) t (prV a) (prV b)).run P w=.ok (decide (a=b)) w:=by
 have g:K7 P e=some true:=by unfold K7;rw[j]
 obtain⟨i,hi⟩:=Azd.1 hi;unfold prV;rw[run_equalIn_array w (d+2) _ _ R hi,Q];obtain⟨⟨m,n⟩,u,v⟩:=a;obtain⟨⟨z,C⟩,E,F⟩:=b;rw[show List.range 2 = [0,1] from rfl];simp only[Op.eqItems,Sem.run_bind,Ax5,Avm];rw[Da g h,Result.andThen_ok,Da g h,Result.andThen_ok];have N:=If H j I J L d (m,n) (z,C) w;have O:=If H j I J L d (u,v) (E,F) w;unfold A3 at N O;have T:(#[Value.int .i64 m,.string (mkS n),.int .i64 u,.string (mkS v)].extract 0 (0+2)) = #[.int .i64 m,.string (mkS n)]:=rfl;have U:(#[Value.int .i64 z,.string (mkS C),.int .i64 E,.string (mkS F)].extract 0 (0+2)) = #[.int .i64 z,.string (mkS C)]:=rfl;have V:(#[Value.int .i64 m,.string (mkS n),.int .i64 u,.string (mkS v)].extract 2 (2+2)) = #[.int .i64 u,.string (mkS v)]:=rfl;have W:(#[Value.int .i64 z,.string (mkS C),.int .i64 E,.string (mkS F)].extract 2 (2+2)) = #[.int .i64 E,.string (mkS F)]:=rfl;simp only[T,U,N,Result.andThen_ok];by_cases e:((m,n):Par)=(z,C)
 ·simp only[e,decide_true,Ayc,Aw7,if_false,Sem.run_bind];rw[Da g h,Result.andThen_ok,Da g h,Result.andThen_ok];simp only[V,W,O,Result.andThen_ok];by_cases K:((u,v):Par)=(E,F)
  ·simp[K]
  simp[K]
 simp[e]
def Aag {t e ti ts:TypeId}{k:IntKind}(E:P.underlying t=some (.array 2 e))(g:szB P e=some 2)
 (n:(P.fieldsOf e).toList.map K9 = [(true,ti,0),(true,ts,1)]) (j:P.underlying e=some (.struct (P.fieldsOf e))) (u:P.underlying ti=some (.int k)) (v:P.underlying ts=some .string) (h:Bool) (d:Nat) (a:Par×Par) (w:World) :
 (Instr.checkKey h (d+3) t (prV a)).run P w=.ok () w:=by
 have m:K7 P e=some true:=by unfold K7;rw[j]
 unfold prV;rw[Instr.checkKey];simp only[Sem.run_bind,run_underlying E,Result.andThen_ok];have z:=Hb n j u v h d a.1 w;have C:=Hb n j u v h d a.2 w;unfold A3 at z C;have F:(#[Value.int .i64 a.1.1,.string (mkS a.1.2),.int .i64 a.2.1,.string (mkS a.2.2)].extract 0 (0+2)) = #[.int .i64 a.1.1,.string (mkS a.1.2)]:=rfl;have H:(#[Value.int .i64 a.1.1,.string (mkS a.1.2),.int .i64 a.2.1,.string (mkS a.2.2)].extract 2 (2+2)) = #[.int .i64 a.2.1,.string (mkS a.2.2)]:=rfl;simp only[Std.Legacy.Range.forIn_eq_forIn_range',Std.Legacy.Range.size,Awx,Nat.add_one_sub_one,A2q,show List.range' 0 2 1 = [0,1] from rfl,A1e,A1r,Sem.run_bind,Be g,Result.andThen_ok,Ax5,Avm];rw[Da m g,Result.andThen_ok,F,z];simp only[Result.andThen_ok,Sem.run_pure,Sem.run_bind,Be g,Avm];rw[Da m g,Result.andThen_ok,H,C];simp
end
theorem Hj:Vi prog 162 prV :=
 ⟨fun a b w=>Adj (P:=prog) (t:=162) (e:=110) (ti:=3) (ts:=9) (k:=.i64) kV kV kV kV kV kV kV kV kV 9997 a b w,
  ⟨_,(by kernel_rfl:prog.underlying 162=some (.array 2 110)),.inl fun _ _=>rfl⟩,
  fun e a w=>Aag (P:=prog) (t:=162) (e:=110) (ti:=3) (ts:=9) (k:=.i64) kV kV kV kV kV kV e 9997 a w,Ae9,Afb⟩
end
section
variable [Ca]
open Go.MapKept
def Qm {α β:Type}(f:α->β):∀ {l:List α} {x y:α},(l.map f).Nodup->x∈l->y∈l->f x=f y->x=y
 |[],_,_,_,h,_,_=>by simp at h
 |a::l,x,y,hn,g,d,e=>by
  simp only[Auk,Awr]at hn;rcases At6.1 g with n|g
  ·subst n;rcases At6.1 d with j|d
   ·exact j.symm
   exact absurd (Ate.2 ⟨y,d,e.symm⟩) hn.1
  rcases At6.1 d with j|d
  ·rw[j]at e;exact absurd (Ate.2 ⟨x,g,e⟩) hn.1
  exact Qm f hn.2 g d e
def Un {α β:Type}(f:α->β):∀ {L l:List α},(L.map f).Nodup->(∀ p∈L,p∈l)->L.length<=l.length
 |[],_,_,_=>Atu _
 |a::L,l,hn,hs=>by
  simp only[Auk,Awr]at hn;obtain⟨s,t,rfl⟩:=Ay9 (hs a mV);have:=Un f (L:=L) (l:=s++t) hn.2 (fun p hp=>by
   have g:=hs p (by simp[hp]);have d:p≠a:=fun e=>hn.1 (by rw[<-e];exact Ate.2 ⟨p,hp,rfl⟩);simp only[Ati,At6]at g⊢;rcases g with h|h|h
   ·exact .inl h
   ·exact absurd h d
   exact .inr h)
  simp only[Atg,Auh]at this⊢;omega
section
variable {κ:Type} [DecidableEq κ] {enc:κ->Value}
structure E9 (enc:κ->Value)(es:Array MapEntry)(l:List (κ×Value))(D:List MapEntry)(L:List (κ×Value)):Prop where
 it:Rk es D
 kv:D.map (fun e=>(e.key,e.val))=L.map (fun p=>(enc p.1,p.2))
 sub:∀ p∈L,p∈l
 nod:(L.map (·.1)).Nodup
def E9.nil (es:Array MapEntry)(l:List (κ×Value)):E9 enc es l [] []:=⟨Rk.nil es,rfl,mV,mV⟩
def E9.snoc (z:∀ a b,enc a=enc b->a=b){es:Array MapEntry}{l:List (κ×Value)}{D:List MapEntry}{L:List (κ×Value)}(K:es.toList.map (fun e=>(e.key,e.val))=l.map (fun p=>(enc p.1,p.2)))(N:(l.map (·.1)).Nodup)
 (h:E9 enc es l D L) {e:MapEntry} (J:e∈es.toList) (hi:Rk es (D++[e])):∃ p,p∈l/\e.key=enc p.1/\e.val=p.2/\p.1∉L.map (·.1)/\E9 enc es l (D++[e]) (L++[p]):=by
 have Q:(e.key,e.val)∈l.map (fun p=>(enc p.1,p.2)):=by rw[<-K];exact Ate.2 ⟨e,J,rfl⟩
 obtain⟨p,hp,d⟩:=Ate.1 Q;simp only[Aun]at d;have C:(es.toList.map (·.key)).Nodup:=by
  have O:es.toList.map (·.key)=(l.map (·.1)).map enc:=by
   have:=congrArg (List.map (·.1)) K;simpa[Function.comp_def] using this
  rw[O];exact List.pairwise_map.2 (N.imp fun E g=>E (z _ _ g))
 have n:p.1∉L.map (·.1):=by
  intro U;obtain⟨q,j,H⟩:=Ate.1 U;have F:q=p:=Qm (·.1) N (h.sub q j) hp H;subst F;have R:(enc q.1,q.2)∈D.map (fun e=>(e.key,e.val)):=by rw[h.kv];exact Ate.2 ⟨q,j,rfl⟩
  obtain⟨g,t,v⟩:=Ate.1 R;simp only[Aun]at v;have:g=e:=Qm (·.key) C (h.it.sub g t) J (v.1.trans d.1);subst this;have:=hi.nod;rw[Atk,Awq]at this;exact this.2.2 g.born (Ate.2 ⟨g,t,rfl⟩) g.born mV rfl
 refine⟨p,hp,d.1.symm,d.2.symm,n,hi,?_,fun q j=>?_,?_⟩
 ·rw[Atk,Atk,h.kv];simp[d.1,d.2]
 ·rcases Ati.1 j with j|j
  ·exact h.sub q j
  simp at j;subst j;exact hp
 rw[Atk,Awq];exact⟨h.nod,mV,fun a T b I g=>n (by simp at I;rw[<-I,<-g];exact T)⟩
def E9.all (j:∀ a b,enc a=enc b->a=b){es:Array MapEntry}{l:List (κ×Value)}{D:List MapEntry}{L:List (κ×Value)}(C:es.toList.map (fun e=>(e.key,e.val))=l.map (fun p=>(enc p.1,p.2)))
 (h:E9 enc es l D L) (hp:D.Perm es.toList):∀ p∈l,p∈L:=by
 intro p n;have t:(enc p.1,p.2)∈es.toList.map (fun e=>(e.key,e.val)):=by rw[C];exact Ate.2 ⟨p,n,rfl⟩
 obtain⟨e,z,d⟩:=Ate.1 t;have v:(e.key,e.val)∈L.map (fun p=>(enc p.1,p.2)):=by rw[<-h.kv];exact Ate.2 ⟨e,hp.mem_iff.2 z,rfl⟩
 obtain⟨q,E,g⟩:=Ate.1 v;simp only[Aun]at g d;have:q=p:=A07 (j _ _ (g.1.trans d.1)) (g.2.trans d.2);subst this;exact E
def E9.len {es:Array MapEntry}{l:List (κ×Value)}{D:List MapEntry}{L:List (κ×Value)}(h:E9 enc es l D L):L.length<=l.length:=Un (·.1) h.nod h.sub
end
section rules
variable {P:Program} [A7 P] {fn:Func} {Post:Bz} {st:List KI×S} {u m:PH}
variable {κ:Type} [DecidableEq κ] {enc:κ->Value}
def G.mapNextL (j:∀ a b,enc a=enc b->a=b)(n g:Nat)(es:Array MapEntry)(d:Nat)(l:List (κ×Value))(D:List MapEntry)(L:List (κ×Value))(h:Le P (adv P st)=.next (.pointer (some ⟨n,0,none⟩)))(v:Rl (adv P st)=true)
 (hi:m n=some (.mapIter (some g) d (Ar D) d)) (N:u g=some (.map es d)\/m g=some (.map es d)) (Q:Stamped es d) (H:es.toList.map (fun e=>(e.key,e.val))=l.map (fun p=>(enc p.1,p.2))) (O:(l.map (·.1)).Nodup) (t:E9 enc es l D L)
 (R:(∀ p∈l,p∈L)->G P fn Post (nx (adv P st) (.tuple #[.bool false])) u m)
 (T:∀ p e,p∈l->p.1∉L.map (·.1)->e∈es.toList->e.key=enc p.1->e.val=p.2->E9 enc es l (D++[e]) (L++[p])->G P fn Post (nx (adv P st) (.tuple #[.bool true,enc p.1,p.2])) u (m.upd n (.mapIter (some g) d (Ar (D++[e])) d))):G P fn Post st u m:=by
 refine G.mapNext n g es d D h v hi N Q t.it (fun hp=>R (t.all j H hp)) (fun e F z=>?_);obtain⟨p,I,C,E,J,K⟩:=t.snoc j H O F z;rw[C,E];exact T p e I J F C E K
end rules
end
section
variable {k n:Nat}{q:Rat}{s:Src}{ts:List Int}{u:PH}
def Asp {x:Int}(m:-9223372036854775808<=x)(t:x<=9223372036854775807)(d:0<n)(e:n<=1000000) :
 Fn0 prog 76 [.int .i64 x,.int .i64 n] u fun v _=>∃ r:Nat,v=.int .i64 r/\r<n:=by
 refine Fn0.o func76<|G.lF n 1 ?_;have h:=A2d x (show (0:Int)<n by omega);have j:=A2e x (show (0:Int)<n by omega);refine G.remZ x (n:Int) (x.tmod n) kV oV oV rfl<|G.add (x.tmod n) (n:Int) (x.tmod n+n) kV rfl oV oV ?_;obtain⟨y,g⟩:∃ y:Nat,x.tmod n+n=(y:Int):=⟨(x.tmod n+n).toNat,oV⟩;exact G.remZ (x.tmod n+n) (n:Int) ((y%n:Nat):Int) kV oV oV (by rw[g,Aw0 oV];rfl)<|G.r _ ⟨rfl,y%n,rfl,Au3 _ d⟩
def Asi (s:Src)(n:Nat)(v:Value)(m':PH):Prop:=∃ r k:Nat,v=.int .i64 r/\r<n/\k<=s.n/\m'=s.M k
def Jw (h:Lc u s ts)(E:k<=s.n)(F:0<n)(t:n<=1000000) :
 Aj prog 26 [s.ptr,.int .i64 n] u (s.M k) fun v _ L=>Asi s n v L:=by
 have z:=h.n;have J:=h.le;refine Aj.o func26<|G.f 75 s.g 0 1 1<|G.lM none s.g (0+1) (.int .i64 k) (s.cell1 k)<|G.f 75 s.g 0 0 0<|G.lM none s.g (0+0) (.slice s.a s.n s.c) (s.cell0 k) ?_;by_cases m:k<s.n
 ·refine G.hF k s.n<|G.f 75 s.g 0 1 1<|G.lM none s.g (0+1) (.int .i64 k) (s.cell1 k)<|G.i k<|G.f 75 s.g 0 1 1<|G.storeM 1 s.g (0+1) 75 [.slice s.a s.n s.c,.int .i64 k] (.int .i64 (k+1:Nat)) kV (Ab _ _ _) (fun x H=>by simp at H;rcases H with rfl|rfl<;>rfl) mV rfl rfl ?_
  have e:(s.M k).upd s.g (.cells (([Value.slice s.a s.n s.c,.int .i64 k].take (0+1))++(Value.int .i64 (k+1:Nat)).cells.toList++([Value.slice s.a s.n s.c,.int .i64 k].drop (0+1+1))).toArray 75 (0,0))=s.M (k+1):=by
   unfold Src.M;rw[Dz];rfl
  rw[e];refine G.f 75 s.g 0 0 0<|G.lM none s.g (0+0) (.slice s.a s.n s.c) (s.cell0 (k+1))<|G.f 75 s.g 0 1 1<|G.lM none s.g (0+1) (.int .i64 (k+1:Nat)) (s.cell1 (k+1))<|G.s (k+1:Nat) 1 k ?_;have d:k<ts.length:=oV;obtain⟨b,off,C,I⟩:=Ad.at' h.list (j:=k) (e:=.int .i64 ts[k]) (by simp[Ei,As5 d]);obtain⟨g,a,N,c⟩:=s;simp only at C m E z;subst C;refine G.a b off N c k 1 m<|G.lU none b (off+k*1) (.int .i64 ts[k]) I<|G.c call76 (Asp (h.lo _ (Ath d)) (h.hi _ (Ath d)) F t) ?_;rintro Q P O ⟨r,rfl,K⟩;exact G.r _ ⟨r,k+1,rfl,K,dV,rfl⟩
 exact G.hT k s.n<|G.r (.int .i64 0) ⟨0,k,rfl,F,E,rfl⟩
def Ag6 {lo hi:Int}(h:Lc u s ts)(t:k<=s.n)(z:-1000000<=lo)(m:lo<=1000000)(C:hi-lo+1=(n:Int))(g:0<n)(j:n<=1000000) :
 Aj prog 74 [s.ptr,.int .i64 lo,.int .i64 hi] u (s.M k) fun v _ F=>∃ (r:Nat) (d:Nat),v=.int .i64 (lo+(r:Int))/\r<n/\d<=s.n/\F=s.M d:=by
 refine Aj.o func74<|G.sub hi lo (hi-lo) kV rfl oV oV<|G.add (hi-lo) 1 (n:Int) kV C oV oV<|G.A call26 (Jw h t g j) ?_;rintro K J I H ⟨r,d,rfl,E,e,rfl⟩ _;rw[C3];exact G.add lo (r:Int) (lo+(r:Int)) kV rfl oV oV<|G.r _ ⟨r,d,rfl,E,e,rfl⟩
def Aah {v:Value}{L:List Int}(h:Lc u s ts)(F:k<=s.n)(g:Ad u v 1 (Ei L))(t:0<L.length)(C:L.length<=1000000) :
 Aj prog 28 [s.ptr,v] u (s.M k) fun v _ I=>∃ z∈L,∃ d:Nat,v=.int .i64 z/\d<=s.n/\I=s.M d:=by
 obtain⟨a,c,rfl⟩:=g.opn;rw[B4]at g⊢;refine Aj.o func28<|G.A call26 (Jw h F t C) ?_;rintro N K J H ⟨r,d,rfl,E,m,rfl⟩ _;rw[C3];obtain⟨b,off,rfl,e⟩:=Ad.at' (g.mono H) (j:=r) (e:=.int .i64 L[r]) (by simp[Ei,As5 E]);exact G.a b off L.length c r 1 E<|G.lU none b (off+r*1) (.int .i64 L[r]) e<|G.r _ ⟨L[r],Ath E,d,rfl,m,rfl⟩
structure SmR (q:Rat):Prop where
 num:q.num.natAbs<=9
 den:q.den ∣ 12
def SmR.le (h:SmR q):q.den<=12:=Axt oV h.den
structure SmW (q:Rat):Prop where
 num:q.num.natAbs<=1545
 den:q.den ∣ 12
def SmR.w (h:SmR q):SmW q:=⟨As9 h.num oV,h.den⟩
def SmW.le (h:SmW q):q.den<=12:=Axt oV h.den
end
end Go.Proofs.YtnafchoihfnkeaaGreatDoor
