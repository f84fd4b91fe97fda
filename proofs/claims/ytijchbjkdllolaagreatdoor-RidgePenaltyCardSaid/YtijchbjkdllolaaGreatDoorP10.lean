/- Parts of one proof, joined by a program. -/
import Derived.Test.YtijchbjkdllolaaGreatDoorP09
set_option linter.defProp false
set_option linter.unusedVariables false
set_option linter.unusedSimpArgs false
set_option linter.unusedSectionVars false
set_option maxHeartbeats 16000000
namespace Go.Proofs.YtijchbjkdllolaaGreatDoor
open Go.Proofs.Tryz
open Go.RowKit Go.MapKept
def A6h:=@List.ext_getElem
def A7v:=@Rat.zero_add
section
variable {l:Nat}{m:PH}{o:Obj}
def Aiq {l b:Nat}(h:b≠l):(m.upd b o).del l=(m.del l).upd b o:=by
 funext k
 by_cases e:k=l
 ·subst e;rw[Ad _ _ (fun g=>h g.symm)];simp[PH.del]
 by_cases g:k=b
 ·subst g;rw[Ab];simp[PH.del,e,Ab]
 rw[Ad _ _ g];simp[PH.del,e,Ad _ _ g]
def Q5 (h:m l=none):(m.upd l o).del l=m:=by
 funext k
 by_cases e:k=l
 ·subst e;simp[PH.del,h]
 simp[PH.del,e,Ad _ _ e]
def Ape (m:PH)(l:Nat):PH.le (m.del l) m:=fun g o h=>by
 unfold PH.del at h;split at h
 ·cases h
 exact h
def Aww (m:PH)(l:Nat):m.del l l=none:=by unfold PH.del;simp
def Af.del {m0 m:PH}{v:Value}{t:TypeId}{sz:Nat}{es:List Value}{l:Nat}(h:Af m0 m v t sz es)(I:m0 l≠none):Af (m0.del l) (m.del l) v t sz es:=by
 obtain⟨C,h⟩:=h;rcases h with ⟨n,u,rfl⟩|⟨g,cap,rest,n,rfl,u,E,F,H⟩
 ·exact⟨C,.inl ⟨n,u,rfl⟩⟩
 have j:g≠l:=fun e=>by subst e;exact I n
 exact⟨C,.inr ⟨g,cap,rest,by unfold PH.del;rw[if_neg j];exact n,Aiq j,u,E,F,H⟩⟩
def Aac (t et:TypeId)(sz b:Nat)(mr:PH)(es:List Value)(m:PH):Prop:=∃ a c,Af (mr.upd b (.cells #[.slice a es.length c] t (0,0))) m (.slice a es.length c) et sz es
def Aac.see {t et:TypeId}{sz b l:Nat}{g m:PH}{es:List Value}{o:Obj}(h:Aac t et sz b g es m)(j:b≠l)(n:g l=some o):m l=some o:=by
 obtain⟨a,c,h⟩:=h;exact h.see (by rw[Ad _ _ (fun e=>j e.symm)];exact n)
def Aac.base {t et:TypeId}{sz b l:Nat}{g m:PH}{es:List Value}{o:Obj}(h:Aac t et sz b g es m)(j:b≠l)(n:g l≠none):Aac t et sz b (g.upd l o) es (m.upd l o):=by
 obtain⟨a,c,h⟩:=h;refine⟨a,c,?_⟩;rw[Ic _ _ _ (fun e=>j e.symm)];exact h.base (by rw[Ad _ _ (fun e=>j e.symm)];exact n)
def Af4 {u:PH}{v tv:Value}{T:List (List UInt8×Nat)}{R:List Bu}{F:List Am}{lab:Int}{ss:List (List UInt8)}(h:Qa u v tv T R F lab ss) :
 Fn0 prog 59 [v,tv] u fun r O=>∃ lv,r=.tuple #[lv,.int .i64 0]/\Ac O lv 3 ((Ct F ss F.length).map As):=by
 have Y:=Akp h;have Q:=fun (O:PH) (l:PH.le u O)=>Anl (h.mono l);have W:=h;have a6:=h.ok.f2;obtain⟨⟨xa,xc,xb,xd,xe,xf,rfl,ab,aa,a9⟩,ok,hS,hT⟩:=h;obtain⟨ya,yc,rfl⟩:=hS.opn;rw[Ayt]at hS Y Q W⊢;refine Fn0.o func59<|G.c call123 Y ?_;rintro v1 u1 l1 rfl;refine G.nF 0 0<|G.pastI<|G.pub 4000 33 [.slice none 0 0] kV kV ?_;intro b ac ad;refine G.c call124 (Q u1 l1) ?_;rintro v2 u2 l2 ⟨b1,b2,rfl,e1,e2⟩;refine G.rangeF (rfG Tryz.f59) (Ayh Tryz.f59) (rfX Tryz.f59) (rfY Tryz.f59) 193 [.pointer (some ⟨b1,0,none⟩),.pointer (some ⟨b2,0,none⟩)] (fun O E=>Aac 33 65 3 b PH.mt ((Ct F ss F.length).map As) E) kV kV kV call193 ?_ ?_
 ·intro l r r1 r2 r3 r4 r5 r6 r7 U ae;have j:b≠l:=fun e=>by subst e;rw[Ab]at U;cases U
  have X:r.params = #[19,20]:=r3.trans kV;have hn:r.tmps.size=28:=r6.trans kV;have a7:r.tmps[7]?=some (.pointer (some ⟨b,0,none⟩)):=r7 7 _ kV;have K:∀ {es:List Value} {E:PH},Aac 33 65 3 b (L7 l (.loop r)) es E->E l=some (.loop r):=fun h=>h.see j (Cb _ _);refine Ag.weak (Ani (W.mono (l1.trans l2)) e1 e2 (fun L _ E=>Aac 33 65 3 b (L7 l (.loop r)) (L.map As) E) (fun _ _ _ _ _ h=>h) (fun i x O E hi hl N hx af=>?_) ?_) ?_
  ·have a8:(Ct F ss i).length<=8:=Ayv (Vg F ss i) a6;refine Alb (n:=28) (T:=[(7,.pointer (some ⟨b,0,none⟩)),(19,Aq x.1),(20,.string (mkS (Ae x.2)))]) (K N) r1 r2 (by rw[X];rfl) hn (fun y Z=>?_) ?_
   ·rw[X,Afp];simp only[Ay7,A0b,or_false]at Z;rcases Z with rfl|rfl|rfl
    ·rw[A0s mV,A0s mV];exact a7
    ·rw[A0s mV];simp[hn]
    simp[hn]
   rw[r4,r5];refine RW.seq' kV (RW.reg' Tryz.f59 kV fun H J' a0=>?_);refine G.b (a0 _ _ _ (RW.reg' Tryz.f59 kV fun H J2 a1=>?_));refine G.b (a1 _ _ _ ⟨K N,RW.block' kV (RW.reg' Tryz.f59 kV fun H J3 a2=>?_)⟩);have a3:=N.base (o:=.loop (Ub r)) j (by rw[Cb];simp);obtain⟨a,c,I⟩:=a3;rw[Ayt]at I;have J:∀ {n c':Nat} {a':Option Addr},(((L7 l (.loop r)).upd l (.loop (Ub r))).upd b (.cells #[.slice a' n c'] 33 (0,0))) b=some (.cells [Value.slice a' n c'].toArray 33 (0,0)):=Ab _ _ _;refine G.lM none b 0 (.slice a (Ct F ss i).length c) (Qe (xs:=[.slice a (Ct F ss i).length c]) (I.see J) rfl)<|G.B 65 3 40 (.agg #[.int .i64 0,.string (mkS []),.string (mkS [])]) [.agg #[.int .i64 x.1.1,.string (mkS x.1.2),.string (mkS (Ae x.2))]] (H6 x) ?_;intro g1 u4 l4 e4;refine G.k 65 3 40 (.agg #[.int .i64 0,.string (mkS []),.string (mkS [])]) _ ((Ct F ss i).map As) [.agg #[.int .i64 x.1.1,.string (mkS x.1.2),.string (mkS (Ae x.2))]] (.slice a (Ct F ss i).length c) g1 0 1 1 I e4 (H6 x) ?_;intro v5 m5 t;rw[show ((Ct F ss i).map As)++[.agg #[.int .i64 x.1.1,.string (mkS x.1.2),.string (mkS (Ae x.2))]]=((Ct F ss i)++[x]).map As by rw[Aza];rfl]at t;obtain⟨a5,c5,rfl⟩:=t.shape;refine G.storeM 1 b 0 33 [.slice a (Ct F ss i).length c] (.slice a5 (((Ct F ss i)++[x]).map As).length c5) kV (t.see J) (fun y Z=>by simp at Z;subst Z;rfl) mV rfl rfl ?_;have P:=t.base (b:=b) (o:=.cells #[.slice a5 (((Ct F ss i)++[x]).map As).length c5] 33 (0,0)) (by rw[J];simp);rw[Cw]at P;have hB:Aac 33 65 3 b ((L7 l (.loop r)).upd l (.loop (Ub r))) (((Ct F ss i)++[x]).map As) (m5.upd b (.cells #[.slice a5 (((Ct F ss i)++[x]).map As).length c5] 33 (0,0))):=⟨a5,c5,P⟩;refine G.b (a2 _ _ _ ⟨hB.see j (Ab _ _ _),?_⟩);have C:=hB.base (o:=.loop r) j (by rw[Ab];simp);rw[Cw]at C;unfold L7 at C⊢;rw[Cw]at C;exact C
  ·refine⟨none,0,?_⟩;unfold L7;rw[Ic _ _ _ (fun e=>j e.symm)];exact Af.nil _ _ _
  rintro v' O E N;refine⟨r,by rw[r1];simp,r2,K N,E.del l,Ape _ _,Aww _ _,?_⟩;obtain⟨a,c,I⟩:=N;have:=I.del (l:=l) (by rw[Ad _ _ (fun e=>j e.symm),Cb];simp);rw[Aiq j]at this;unfold L7 at this;rw[Q5 rfl]at this;exact⟨a,c,this⟩
 rintro u3 m3 l3 ⟨a,c,I⟩;refine G.giveP (ma:=m3) (sm:=PH.mt) kV (by funext g;unfold PH.or;cases m3 g<;>rfl) (fun g=>.inr rfl) (fun g=>.inl rfl) ?_
 intro u4 l4 V;have a4:m3 b=some (.cells [Value.slice a ((Ct F ss F.length).map As).length c].toArray 33 (0,0)):=I.see (Ab _ _ _);exact G.lU none b 0 (.slice a ((Ct F ss F.length).map As).length c) ((Qe (xs:=[.slice a ((Ct F ss F.length).map As).length c]) a4 rfl).mono V)<|G.r (.tuple #[.slice a ((Ct F ss F.length).map As).length c,.int .i64 0]) ⟨rfl,_,rfl,I.list V⟩
end
section
variable {k:Nat}{v:Value}
def Af.fresh {m0 m:PH}{t:TypeId}{sz:Nat}{es:List Value}{b:Nat}{o:Obj}(h:Af m0 m v t sz es)(E:m b=none):Af (m0.upd b o) (m.upd b o) v t sz es:=by
 obtain⟨F,h⟩:=h;rcases h with ⟨n,C,rfl⟩|⟨g,cap,rest,n,rfl,C,H,I,J⟩
 ·exact⟨F,.inl ⟨n,C,rfl⟩⟩
 have j:g≠b:=fun e=>by subst e;rw[Ab]at E;cases E
 exact⟨F,.inr ⟨g,cap,rest,by rw[Ad _ _ j];exact n,Ic _ _ _ j,C,H,I,J⟩⟩
section
variable {P:Program} [A5 P] {fn:Func} {Post:By} {st:List KI×S} {u m:PH}
def G.appendL (e:TypeId)(sz t:Nat)(z:Value)(m0:PH)(es xs:List Value)(v:Value)(a:Option Addr)(n c:Nat)(h:Aj P (adv P st)=.app (some (e,sz,t,z)) true [v,.slice a n c])(T:z.cells.toList.all Az=true)(I:z.cells.size=sz)(F:0<sz)
 (C:Af m0 m v e sz es) (H:Ac u (.slice a n c) sz xs) (R:Ba sz xs) (Q:(es.length+xs.length)*t<=140737488355328) (E:es.length+xs.length<=9223372036854775807)
 (k:∀ K J,Af m0 J K e sz (es++xs)->G P fn Post (nx (adv P st) K) u J):G P fn Post st u m:=by
 have g:n=xs.length:=by obtain⟨_,_,O,_⟩:=H;cases O;rfl
 cases xs with
 |nil =>
  simp only[A1t]at g;subst g;obtain⟨L,N,rfl⟩:=C.shape;refine G.append0 e sz t z L a es.length N c h C.cap ?_;exact k _ _ (by rw[Azl];exact C)
 |cons x xs =>
  obtain⟨b,off,rfl,_⟩:=Ac.at' H (j:=0) (e:=x) rfl;subst g;exact G.append e sz t z m0 es (x::xs) v b off _ c h T I F C H.els R rfl mV Q E k
end
def Arf {u:PH}{L:List Par}{p:Par}(h:Ac u v 2 (L.map Aq))(N:L[k]?=some p)(Q:∀ j,j<k->L[j]?≠some p)(T:L.length<=1000000) :
 Fn0 prog 170 [v,Aq p] u fun r _=>r=.int .i64 k:=by
 obtain⟨a,c,rfl⟩:=h.opn;rw[Ayt]at h⊢;obtain⟨O,C⟩:=Ayu.1 N;refine Fn0.o func170<|G.l (ι:=Nat) (fun i=>[(0,sV a L.length c),(3,.p 0 0),(7,iV L.length),(8,iV i)]) (fun _=>[(0,⟨63,[iV p.1,tV p.2]⟩)])
  (fun i V R=>i<=k/\R=PH.mt) (fun i=>k+1-i) 0 ⟨oV,rfl⟩ ?_
 rintro J i K W U F ⟨hi,rfl⟩;refine G.lT i L.length ?_;have g:L[i]?=some L[i]:=Ayr oV;obtain⟨E,H,rfl,I⟩:=Ac.at' (h.mono F) (j:=i) (e:=Aq L[i]) (by simp[g]);refine G.a E H L.length c i 2 oV<|G.lU (some 2) E (H+i*2) (.agg #[.int .i64 L[i].1,.string (mkS L[i].2)]) I ?_;by_cases t:p=L[i]
 ·have n:i=k:=by
   rcases Az8 i k with e|e
   ·exact absurd (by rw[g,<-t]) (Q i e)
   omega
  exact G.eqAgg 63 #[.int .i64 p.1,.string (mkS p.2)] #[.int .i64 L[i].1,.string (mkS L[i].2)] true kV kV kV (fun w=>by rw[<-decide_eq_true t];exact Bx.eq p L[i] w)<|G.r (.int .i64 i) ⟨rfl,by rw[n]⟩
 have n:i≠k:=fun e=>by subst e;exact t C.symm
 exact G.eqAgg 63 #[.int .i64 p.1,.string (mkS p.2)] #[.int .i64 L[i].1,.string (mkS L[i].2)] false kV kV kV (fun w=>by rw[<-decide_eq_false t];exact Bx.eq p L[i] w)<|G.i i<|G.b (K (i+1) _ _ _ cV F ⟨oV,rfl⟩ oV)
def Afe (P:List Par)(L:List (Par×Rat)):List (List UInt8):=[49]::P.map fun p=>Ae (Ap p L)
def Ady (P:List Par):Afe P [] = [49]::List.replicate P.length [48]:=by
 unfold Afe
 congr 1
 have:(fun p:Par=>Ae (Ap p []))=fun _=>[48]:=by funext p;unfold Ap;exact D8
 rw[this,List.map_const']
def Qh {κ:Type}[DecidableEq κ]{a:κ}{x:κ×Rat}:∀ {L:List (κ×Rat)},x.1∉L.map (·.1)->Ap a (L++[x])=if a=x.1 then x.2 else Ap a L
 |[],_=>by obtain⟨b,q⟩:=x;simp[Ap]
 |(b,q)::L,h=>by
  rw[Azu,Ay7,not_or]at h;rw[A11];unfold Ap;by_cases e:a=b
  ·rw[if_pos e,if_neg (fun g=>h.1 (by rw[<-g,e]))];simp[e]
  rw[if_neg e,Qh h.2];simp[e]
def Ia {κ:Type}{l:List κ}(h:l.Nodup){i j:Nat}{x:κ}(E:l[i]?=some x)(F:l[j]?=some x):i=j:=by
 obtain⟨g,n⟩:=Ayu.1 E;obtain⟨t,C⟩:=Ayu.1 F;rcases A33 i j with e|e|e
 ·exact absurd (n.trans C.symm) (A02.1 h i j g t e)
 ·exact e
 exact absurd (C.trans n.symm) (A02.1 h j i t g e)
def Al3 {P:List Par}{L:List (Par×Rat)}{x:Par×Rat}(n:P[k]?=some x.1)(E:P.Nodup)(F:x.1∉L.map (·.1)):(Afe P L).set (k+1) (Ae x.2)=Afe P (L++[x]):=by
 unfold Afe;rw[A0i]
 congr 1
 obtain⟨C,g⟩:=Ayu.1 n;refine A6h mV fun j h H=>?_;rw[List.getElem_set];simp only[A1f];rw[Qh F];by_cases e:k=j
 ·subst e;rw[if_pos rfl,if_pos g]
 rw[if_neg e,if_neg];intro t;simp at h;exact e (Ia E n (by rw[Ayr (by simpa using h),t]))
end
section
variable {N:Nat}{k:Par×Par}{q:Rat}
def At8 (T:TypeId):Op->Bool
 |.indexAddr t _ _=>Nat.beq t T
 |_=>false
section
variable {P:Program} [A5 P] {fn:Func} {Post:By} {st:List KI×S} {u m:PH}
def G.addrA (t e:TypeId)(n b off j sz:Nat)(h:Aj P (adv P st)=.addr none (.pointer (some ⟨b,off,none⟩)) (.int .i64 j))(R:Wp (At8 t) (adv P st)=true)(V:P.underlying t=some (.array n e))(T:szB P e=some sz)(Z:j<n)
 (k:G P fn Post (nx (adv P st) (.pointer (some ⟨b,off+j*sz,none⟩))) u m):G P fn Post st u m:=by
 refine G.askQ (At8 t) h R mV (fun O o g F w _=>?_) k;obtain⟨t',X,I,C,K,L,_⟩:=Yp g;rw[C]at F;have U:=Azp F;subst U;obtain⟨J,W,H,pos,after,E⟩:=o;simp only at C;subst C;have Q:(0:Int)<=j/\(j:Int)<n:=oV
 simp[execOp,Instr.indexAt,Instr.sureAddr,asIntOf,K,L,run_underlying V,Q,Bj T,D5];intro Y;omega
end
def Air {m:PH}{b:Nat}{t:TypeId}(h:m b=some (.cells [Value.int .i64 k.1.1,.string (mkS k.1.2),.int .i64 k.2.1,.string (mkS k.2.2)].toArray t (0,0))):ElP m b (0+0*2) (Aq k.1)/\ElP m b (0+1*2) (Aq k.2):=by
 have h0:ElP m b 0 (.agg #[.int .i64 k.1.1,.string (mkS k.1.2),.int .i64 k.2.1,.string (mkS k.2.2)]):=Qe h rfl;refine⟨h0.sub (k:=0) fun i y e=>?_,h0.sub (k:=2) fun i y e=>?_⟩
 ·match i,e with
  |0,e=>simpa[Aq,Value.cells] using e
  |1,e=>simpa[Aq,Value.cells] using e
  |i+2,e=>simp[Aq,Value.cells]at e
 match i,e with
 |0,e=>simpa[Aq,Value.cells] using e
 |1,e=>simpa[Aq,Value.cells] using e
 |i+2,e=>simp[Aq,Value.cells]at e
def SB.ten (h:SB q):Sz q 10000000000:=h.sz.mono oV
def KO.fix (h:KO k):A2 k.1 k.2=k:=by unfold A2;rw[if_neg h]
def Dy.at {κ:Type}[DecidableEq κ]{enc:κ->Value}{K:κ->Prop}{u:PH}{o:Obj}{f:κ->Rat}(h:Dy enc K u o f N) :
 ∃ l:List (κ×Value),Fo enc o l/\(∀ p∈l,QP u p.2 (f p.1)/\K p.1)/\(∀ k,k∉l.map (·.1)->f k=0)/\l.length<=N:=by
 obtain⟨l,g,e,j,n⟩:=h;exact⟨l,g,fun p hp=>⟨(e p hp).1,(e p hp).2.1⟩,j,n⟩
def Ana {u mf:PH}{F H:CF}{N M:Nat}{vf vg vk:Value}(hf:J8 mf u vf F N)(hg:Qo u vg H M)(hk:QP u vk q)(hq:SB q)(sF:CFS F)(sH:CFS H)(sK:CFS (H.scale q))(sR:CFS (F.add (H.scale q))) :
 Ag prog 72 [vf,vg,vk] u mf fun v u' m'=>J8 m' u' v (F.add (H.scale q)) (N+M):=by
 obtain⟨b,a,n,c,b',a',n',c',g1,g2,o1,o2,rfl,hF,ab,rfl,h1,h2⟩:=hf;obtain⟨wb,wa,wn,wc,b0,az,b5,b3,w1,w2,p1,p2,rfl,hH,e1,e2,k1,k2⟩:=hg;obtain⟨kb,ka,kn,kc,av,ax,aw,rfl,_⟩:=hk.opn;obtain⟨l1,⟨X,C,rfl,ae,a3⟩,ba,be,bw⟩:=k1.at;obtain⟨l2,⟨Y,h,rfl,af,a5⟩,bb,bf,bx⟩:=k2.at;have ar:(l1.map (·.1)).Nodup:=Fo.nodup (enc:=Aq) ⟨X,C,rfl,ae,a3⟩;have au:(l2.map (·.1)).Nodup:=Fo.nodup (enc:=prV) ⟨Y,h,rfl,af,a5⟩;refine Ag.o func72<|G.c call22 (E2 hH hk (SB.ten sH.c) hq.ten) ?_;intro v1 u1 ay r1;obtain⟨b1,a1,x1,c1,bp,c0,br,rfl,_⟩:=r1.opn;refine G.c call21 (Ks (hF.mono ay) r1 (SB.ten sF.c) (SB.ten sK.c)) ?_;intro v2 u2 bg r2;obtain⟨b2,a2,x2,c2,V,a8,W,rfl,_⟩:=r2.opn;have a6:=ay.trans bg;obtain⟨m2,bd,ai,aj⟩:∃ m2:PH,m2=(PH.mt.upd g1 o1).upd g2 o2/\m2 g1=some o1/\m2 g2=some o2:=⟨_,rfl,by rw[Ad _ _ ab,Ab],Ab _ _ _⟩;rw[<-bd];refine G.mapRange w1 X C 63 52 kV (.inl (a6 _ _ e1)) ?_;intro it ao bu;have i1:g1≠it:=fun e=>by subst e;rw[ao]at ai;cases ai
 have i2:g2≠it:=fun e=>by subst e;rw[ao]at aj;cases aj
 refine G.l (ι:=List MapEntry×List (Par×Value)) (fun _=>[(3,.p 0 0),(4,.p 1 0),(5,.p 2 0),(6,.p 3 0),(21,.v (.pointer (some ⟨it,0,none⟩)))])
  (fun _=>[(0,⟨145,[bV b2,sV a2 x2 c2,bV false,sV V a8 W,.v (.map (some g1)),.v (.map (some g2))]⟩),(1,⟨145,[bV wb,sV wa wn wc,bV b0,sV az b5 b3,.v (.map (some w1)),.v (.map (some w2))]⟩),(2,⟨52,[bV kb,sV ka kn kc,bV false,sV av ax aw]⟩),(3,⟨145,[bV false,sV none 0 0,bV false,sV none 0 0,.v (.map none),.v (.map none)]⟩)])
  (fun i u' m'=>Gc Aq X l1 i.1 i.2/\m' it=some (.mapIter (some w1) C (Aw i.1) C)/\m' g2=some o2/\∃ K,m' g1=some K/\Dy Aq KT u' K (Ec F.s H.s q (i.2.map (·.1))) (N+i.2.length))
  (fun i=>l1.length-i.2.length) ([],[])
  ⟨Gc.nil _ _,Ab _ _ _,by rw[Ad _ _ i2];exact aj,o1,by rw[Ad _ _ i1];exact ai,by
   have:Ec F.s H.s q (([]:List (Par×Value)).map (·.1))=F.s:=by funext k;simp[Ec]
   dsimp only;rw[this];exact h1.mono a6⟩ ?_
 rintro J ⟨D,L⟩ hJ u3 m3 ak ⟨hS,ap,E,K,a0,hR⟩;simp only at hS ap E a0 hR hJ;have j:=a6.trans ak;refine G.mapNextL Bx.inj it w1 X C l1 D L kV kV ap (.inl (j _ _ e1)) a3 ae ar hS ?done1 ?next1
 case next1 =>
  rintro⟨k,xv⟩ e hp hkn he hek hev hS';simp only at hkn hek hev;have hx:=(ba _ hp).1;simp only at hx;obtain⟨yb,ya,yn,yc,bk,bm,bl,rfl,_⟩:=hx.opn;refine G.mapEntry it w1 X C D e kV (Ab _ _ _) (.inl (j _ _ e1)) a3 he ?_;rw[hek,hev];refine G.c call22 (E2 (hx.mono j) (hk.mono j) (SB.ten (sH.s k)) hq.ten) ?_;intro v4 u4 a7 r4;obtain⟨b4,a4,x4,c4,b6,bj,b7,rfl,_⟩:=r4.opn;refine G.callG _ _ kV kV call144 (g:=g1) (o:=K) (by rw[Ad _ _ i1];exact a0)
   (Nh (g2:=some g2) (y1:=b2) (y2:=(a2,x2,c2)) (y3:=false) (y4:=(V,a8,W)) (hR.mono a7) r4 (sK.s k) (Ou sF.s sR.s k) (by
    have:Ec F.s H.s q (L.map (·.1)) k=F.s k:=by unfold Ec;rw[if_neg hkn]
    rw[this,A3e];exact sR.s k)) ?_
  intro v5 u5 o5 al r5;rw[Ja _ _ _ hkn]at r5;refine G.b (hJ (D++[e],L++[(k,_)]) _ _ _ cV ((ak.trans a7).trans al)
   ⟨hS',by rw[Ad _ _ (Ne.symm i1),Ab],by rw[Ad _ _ (Ne.symm ab),Ad _ _ i2];exact E,o5,Ab _ _ _,by
    simpa[A1l] using r5⟩ (by have:=hS'.len;simp at this;dsimp only;simp;omega))
 case done1 =>
 intro an;have b8:Ec F.s H.s q (L.map (·.1))=(F.add (H.scale q)).s:=Lv _ _ _ fun k hk=>be k fun hm=>hk (by
  obtain⟨p,hp,rfl⟩:=Ayx.1 hm;exact Ayx.2 ⟨p,an p hp,rfl⟩)
 rw[b8]at hR;have bt:=hS.len;refine G.mapRange w2 Y h 217 52 kV (.inl (j _ _ e2)) ?_;intro I ac bo;have j1:g1≠I:=fun e=>by subst e;rw[ac]at a0;cases a0
 have j2:g2≠I:=fun e=>by subst e;rw[ac]at E;cases E
 refine G.l (ι:=List MapEntry×List ((Par×Par)×Value)) (fun _=>[(3,.p 0 0),(4,.p 1 0),(5,.p 2 0),(6,.p 3 0),(35,.v (.pointer (some ⟨I,0,none⟩)))])
  (fun _=>[(0,⟨145,[bV b2,sV a2 x2 c2,bV false,sV V a8 W,.v (.map (some g1)),.v (.map (some g2))]⟩),(1,⟨145,[bV wb,sV wa wn wc,bV b0,sV az b5 b3,.v (.map (some w1)),.v (.map (some w2))]⟩),(2,⟨52,[bV kb,sV ka kn kc,bV false,sV av ax aw]⟩),(3,⟨145,[bV false,sV none 0 0,bV false,sV none 0 0,.v (.map none),.v (.map none)]⟩)])
  (fun i u' m'=>Gc prV Y l2 i.1 i.2/\m' I=some (.mapIter (some w2) h (Aw i.1) h)/\m' g1=some K/\∃ U,m' g2=some U/\Dy prV KO u' U (Ec F.t H.t q (i.2.map (·.1))) (N+i.2.length))
  (fun i=>l2.length-i.2.length) ([],[])
  ⟨Gc.nil _ _,Ab _ _ _,by rw[Ad _ _ j1];exact a0,o2,by rw[Ad _ _ j2];exact E,by
   have:Ec F.t H.t q (([]:List ((Par×Par)×Value)).map (·.1))=F.t:=by funext k;simp[Ec]
   dsimp only;rw[this];exact h2.mono j⟩ ?_
 rintro J2 ⟨D2,L2⟩ am u6 m6 aa ⟨ag,ad,Q,U,O,a9⟩;simp only at ag ad Q O a9 am;have R:=j.trans aa;refine G.mapNextL Ip.inj I w2 Y h l2 D2 L2 kV kV ad (.inl (R _ _ e2)) a5 af au ag ?done2 ?next2
 case next2 =>
  rintro⟨k,xv⟩ e hp hkn he hek hev hS';simp only at hkn hek hev;obtain⟨hx,aq⟩:=bb _ hp;simp only at hx aq;have Z:=aq.fix;obtain⟨yb,ya,yn,yc,bk,bm,bl,rfl,_⟩:=hx.opn;refine G.mapEntry I w2 Y h D2 e kV (Ab _ _ _) (.inl (R _ _ e2)) a5 he ?_;rw[hek,hev];refine G.pub 8003 217 [.int .i64 k.1.1,.string (mkS k.1.2),.int .i64 k.2.1,.string (mkS k.2.2)] kV kV ?_;intro bq bz T;have q1:g1≠bq:=fun e=>by subst e;rw[Ad _ _ j1,Q]at T;cases T
  have q2:g2≠bq:=fun e=>by subst e;rw[Ad _ _ j2,O]at T;cases T
  have q3:I≠bq:=fun e=>by subst e;rw[Ab]at T;cases T
  obtain⟨bh,bi⟩:=Air (m:=(m6.upd I (.mapIter (some w2) h (Aw (D2++[e])) h)).upd bq (.cells [Value.int .i64 k.1.1,.string (mkS k.1.2),.int .i64 k.2.1,.string (mkS k.2.2)].toArray 217 (0,0))) (Ab _ _ _);refine G.addrA 217 63 2 bq 0 0 2 kV kV kV kV oV<|G.lM (some 2) bq (0+0*2) (.agg #[.int .i64 k.1.1,.string (mkS k.1.2)]) bh<|G.addrA 217 63 2 bq 0 1 2 kV kV kV kV oV<|G.lM (some 2) bq (0+1*2) (.agg #[.int .i64 k.2.1,.string (mkS k.2.2)]) bi<|G.c call22 (E2 (hx.mono R) (hk.mono R) (SB.ten (sH.t k)) hq.ten) ?_;intro v4 u4 a7 r4;obtain⟨b4,a4,x4,c4,b6,bj,b7,rfl,_⟩:=r4.opn;refine G.callG _ _ kV kV call145 (g:=g2) (o:=U) (by rw[Ad _ _ q2,Ad _ _ j2];exact O)
   (Hh (g1:=some g1) (y1:=b2) (y2:=(a2,x2,c2)) (y3:=false) (y4:=(V,a8,W)) (p:=k.1) (r:=k.2) (a9.mono a7) r4 (sK.t k) (by rw[Z];exact Ou sF.t sR.t k) (by
    have:Ec F.t H.t q (L2.map (·.1)) k=F.t k:=by unfold Ec;rw[if_neg hkn]
    rw[Z,this,A3e];exact sR.t k)) ?_
  intro v5 u5 o5 al r5;rw[Z,Ja _ _ _ hkn]at r5;refine G.b (am (D2++[e],L2++[(k,_)]) _ _ _ cV ((aa.trans a7).trans al)
   ⟨hS',by rw[Ad _ _ (Ne.symm j2),Ad _ _ q3,Ab],by rw[Ad _ _ ab,Ad _ _ q1,Ad _ _ j1];exact Q,o5,Ab _ _ _,by
    simpa[A1l] using r5⟩ (by have:=hS'.len;simp at this;dsimp only;simp;omega))
 case done2 =>
 intro ah;have b9:Ec F.t H.t q (L2.map (·.1))=(F.add (H.scale q)).t:=Lv _ _ _ fun k hk=>bf k fun hm=>hk (by
  obtain⟨p,hp,rfl⟩:=Ayx.1 hm;exact Ayx.2 ⟨p,ah p hp,rfl⟩)
 rw[b9]at a9;have bn:=ag.len;refine G.drop ((PH.mt.upd g1 K).upd g2 U) kV (fun g o hg=>by
  by_cases e:g=g2
  ·subst e;rw[Ab]at hg;cases hg;exact O
  rw[Ad _ _ e]at hg;by_cases e:g=g1
  ·subst e;rw[Ab]at hg;cases hg;exact Q
  rw[Ad _ _ e]at hg;cases hg) ?_
 exact G.r (.agg #[.bool b2,.slice a2 x2 c2,.bool false,.slice V a8 W,.map (some g1),.map (some g2)]) ⟨_,_,_,_,_,_,_,_,g1,g2,K,U,rfl,r2.mono (ak.trans aa),ab,rfl,(hR.mono aa).up oV,a9.up oV⟩
end
def An2 {u:PH}{F H:CF}{N M:Nat}{v w:Value}(hv:Qo u v F N)(hw:Qo u w H M)(ok:Aue F H) :
 Ag prog 146 [v,w] u PH.mt fun v' u' U=>J8 U u' v' (F.mul H) (M+N+N*M):=by
 obtain⟨vb,va,vn,vc,az,ay,b1,b0,v1,v2,q1,q2,rfl,cy,f1,f2,s1,s2⟩:=id hv;obtain⟨wb,wa,wn,wc,b5,b3,b7,b6,w1,w2,p1,p2,rfl,cz,e1,e2,t1,t2⟩:=id hw;obtain⟨lv,⟨aa,P,rfl,cu,bi⟩,dc,dk,f4⟩:=s1.at;obtain⟨lw,⟨ab,V,rfl,cv,bk⟩,df,dm,e9⟩:=t1.at;obtain⟨kv,⟨b8,ad,rfl,cd,bj⟩,dd,dl,es⟩:=s2.at;obtain⟨kw,⟨ba,ae,rfl,ce,bl⟩,dg,dp,et⟩:=t2.at;have cg:(lv.map (·.1)).Nodup:=Fo.nodup (enc:=Aq) ⟨aa,P,rfl,cu,bi⟩;have ch:(lw.map (·.1)).Nodup:=Fo.nodup (enc:=Aq) ⟨ab,V,rfl,cv,bk⟩;have cw:(kv.map (·.1)).Nodup:=Fo.nodup (enc:=prV) ⟨b8,ad,rfl,cd,bj⟩;have cx:(kw.map (·.1)).Nodup:=Fo.nodup (enc:=prV) ⟨ba,ae,rfl,ce,bl⟩;refine Ag.o func146<|G.callO _ _ kV call71 (I5 (n:=0) oV oV) ?_;rintro v3 u3 m3 l3 ⟨b,a,n,c,b',a',n',c',g1,g2,o1,o2,rfl,_,ak,rfl,h1,h2⟩ _;rw[Bw];refine G.c call22 (E2 (cy.mono l3) (cz.mono l3) (SB.ten ok.a.c) (SB.ten ok.b.c)) ?_;intro v5 u5 l5 r5;obtain⟨b2,a2,x2,c2,I,O,K,rfl,_⟩:=r5.opn;have d4:=l3.trans l5;obtain⟨m5,e8,cs,ct⟩:∃ m5:PH,m5=(PH.mt.upd g1 o1).upd g2 o2/\m5 g1=some o1/\m5 g2=some o2:=⟨_,rfl,by rw[Ad _ _ ak,Ab],Ab _ _ _⟩;rw[<-e8];have ao:CFS (F.scale H.c):=ok.d;have da:CFS (H.scale F.c):=ok.c;have ci:∀ k,SB ((F.scale H.c).s k+H.s k*F.c):=fun k=>by rw[A3e];exact ok.e.s k
 have bh:∀ k,SB ((F.scale H.c).t k+H.t k*F.c):=fun k=>by rw[A3e];exact ok.e.t k
 have di:∀ k:Par,SB ((fun _:Par=>(0:Rat)) k+F.s k*H.c):=fun k=>by show SB (0+F.s k*H.c);rw[A7v];exact ao.s k
 have dj:∀ k:Par×Par,SB ((fun _:Par×Par=>(0:Rat)) k+F.t k*H.c):=fun k=>by show SB (0+F.t k*H.c);rw[A7v];exact ao.t k
 have e3:Dy Aq KT u5 o1 (fun _=>0) 0:=h1.mono l5;have dx:Dy prV KO u5 o2 (fun _=>0) 0:=h2.mono l5;have f5:=d4;refine G.mapRange v1 aa P 63 52 kV (.inl (d4 _ _ f1)) ?_;intro ap c8 em;have d0:g1≠ap:=fun e=>by subst e;rw[c8]at cs;cases cs
 have dq:g2≠ap:=fun e=>by subst e;rw[c8]at ct;cases ct
 refine G.l (ι:=List MapEntry×List ((Par)×Value)) (fun _=>[(2,.p 0 0),(3,.p 1 0),(4,.p 2 0),(5,.p 1001 0),(28,.v (.pointer (some ⟨ap,0,none⟩)))])
  (fun _=>[(0,⟨145,[bV vb,sV va vn vc,bV az,sV ay b1 b0,.v (.map (some v1)),.v (.map (some v2))]⟩),(1,⟨145,[bV wb,sV wa wn wc,bV b5,sV b3 b7 b6,.v (.map (some w1)),.v (.map (some w2))]⟩),(2,⟨145,[bV false,sV none 0 0,bV false,sV none 0 0,.v (.map none),.v (.map none)]⟩),(1001,⟨145,[bV b2,sV a2 x2 c2,bV false,sV I O K,.v (.map (some g1)),.v (.map (some g2))]⟩)])
  (fun i u' U=>Gc Aq aa lv i.1 i.2/\U ap=some (.mapIter (some v1) P (Aw i.1) P)/\U g2=some o2/\∃ oo,U g1=some oo/\Dy Aq KT u' oo (Ec (fun _=>0) F.s H.c (i.2.map (·.1))) (0+i.2.length))
  (fun i=>lv.length-i.2.length) ([],[])
  ⟨Gc.nil _ _,Ab _ _ _,by rw[Ad _ _ dq];exact ct,_,by rw[Ad _ _ d0];exact cs,by
   have:Ec (fun _=>0) F.s H.c (([]:List ((Par)×Value)).map (·.1))=(fun _=>0):=by funext k;simp[Ec]
   dsimp only;rw[this];exact e3⟩ ?_
 rintro JA ⟨D,LA⟩ cm uA mA lA ⟨W,E,Z,oA,ag,bb⟩;simp only at W E Z ag bb cm;have ar:=d4.trans lA;refine G.mapNextL Bx.inj ap v1 aa P lv D LA kV kV E (.inl (ar _ _ f1)) bi cu cg W ?doneA ?nextA
 case nextA =>
  rintro⟨k,xv⟩ e hp hkn he hek hev hS';simp only at hkn hek hev;obtain⟨hx,ac⟩:=dc _ hp;simp only at hx ac;obtain⟨yb,ya,yn,yc,bm,bo,bn,rfl,_⟩:=hx.opn;refine G.mapEntry ap v1 aa P D e kV (Ab _ _ _) (.inl (ar _ _ f1)) bi he ?_;rw[hek,hev];refine G.c call22 (E2 (hx.mono ar) (cz.mono ar) (SB.ten (ok.a.s k)) (SB.ten ok.b.c)) ?_;intro v4 u4 a1 r4;obtain⟨b4,a4,x4,c4,ck,d7,cl,rfl,_⟩:=r4.opn;refine G.callG _ _ kV kV call144 (g:=g1) (o:=oA) (by rw[Ad _ _ d0];exact ag)
   (Nh (g2:=some g2) (y1:=b2) (y2:=(a2,x2,c2)) (y3:=false) (y4:=(I,O,K)) (bb.mono a1) r4 (ao.s k) (Ou (fun _=>SB.zero) di k) (by
    have:Ec (fun _=>0) F.s H.c (LA.map (·.1)) k=(fun _=>0) k:=by unfold Ec;rw[if_neg hkn]
    rw[this,A3e];exact di k)) ?_
  intro v5 u5 o5 a3 a5;rw[Ja _ _ _ hkn]at a5;refine G.b (cm (D++[e],LA++[(k,_)]) _ _ _ cV ((lA.trans a1).trans a3)
   ⟨hS',by rw[Ad _ _ (Ne.symm d0),Ab],by rw[Ad _ _ (Ne.symm ak),Ad _ _ dq];exact Z,o5,Ab _ _ _,by
    simpa[A1l] using a5⟩ (by have:=hS'.len;simp at this;dsimp only;simp;omega))
 case doneA =>
 intro C;rw[Lv _ _ _ fun k hk=>dk k fun hm=>hk (by
  obtain⟨p,hp,rfl⟩:=Ayx.1 hm;exact Ayx.2 ⟨p,C p hp,rfl⟩)]at bb
 have eg:=W.len;have e4:=bb.congr (f':=(F.scale H.c).s) (fun k=>by show 0+F.s k*H.c=F.s k*H.c;rw[A7v]);have dy:=dx.mono lA;clear cm W E C bb;refine G.mapRange w1 ab V 63 52 kV (.inl (ar _ _ e1)) ?_;intro aq ca eo;have d1:g1≠aq:=fun e=>by subst e;rw[ca]at ag;cases ag
 have dr:g2≠aq:=fun e=>by subst e;rw[ca]at Z;cases Z
 refine G.l (ι:=List MapEntry×List ((Par)×Value)) (fun _=>[(2,.p 0 0),(3,.p 1 0),(4,.p 2 0),(5,.p 1001 0),(43,.v (.pointer (some ⟨aq,0,none⟩)))])
  (fun _=>[(0,⟨145,[bV vb,sV va vn vc,bV az,sV ay b1 b0,.v (.map (some v1)),.v (.map (some v2))]⟩),(1,⟨145,[bV wb,sV wa wn wc,bV b5,sV b3 b7 b6,.v (.map (some w1)),.v (.map (some w2))]⟩),(2,⟨145,[bV false,sV none 0 0,bV false,sV none 0 0,.v (.map none),.v (.map none)]⟩),(1001,⟨145,[bV b2,sV a2 x2 c2,bV false,sV I O K,.v (.map (some g1)),.v (.map (some g2))]⟩)])
  (fun i u' U=>Gc Aq ab lw i.1 i.2/\U aq=some (.mapIter (some w1) V (Aw i.1) V)/\U g2=some o2/\∃ oo,U g1=some oo/\Dy Aq KT u' oo (Ec (F.scale H.c).s H.s F.c (i.2.map (·.1))) (0+LA.length+i.2.length))
  (fun i=>lw.length-i.2.length) ([],[])
  ⟨Gc.nil _ _,Ab _ _ _,by rw[Ad _ _ dr];exact Z,_,by rw[Ad _ _ d1];exact ag,by
   have:Ec (F.scale H.c).s H.s F.c (([]:List ((Par)×Value)).map (·.1))=(F.scale H.c).s:=by funext k;simp[Ec]
   dsimp only;rw[this];exact e4⟩ ?_
 rintro JB ⟨D,LB⟩ cn uB mB lB ⟨W,E,a0,oB,ah,bd⟩;simp only at W E a0 ah bd cn;have au:=ar.trans lB;refine G.mapNextL Bx.inj aq w1 ab V lw D LB kV kV E (.inl (au _ _ e1)) bk cv ch W ?doneB ?nextB
 case nextB =>
  rintro⟨k,xv⟩ e hp hkn he hek hev hS';simp only at hkn hek hev;obtain⟨hx,ac⟩:=df _ hp;simp only at hx ac;obtain⟨yb,ya,yn,yc,bm,bo,bn,rfl,_⟩:=hx.opn;refine G.mapEntry aq w1 ab V D e kV (Ab _ _ _) (.inl (au _ _ e1)) bk he ?_;rw[hek,hev];refine G.c call22 (E2 (hx.mono au) (cy.mono au) (SB.ten (ok.b.s k)) (SB.ten ok.a.c)) ?_;intro v4 u4 a1 r4;obtain⟨b4,a4,x4,c4,ck,d7,cl,rfl,_⟩:=r4.opn;refine G.callG _ _ kV kV call144 (g:=g1) (o:=oB) (by rw[Ad _ _ d1];exact ah)
   (Nh (g2:=some g2) (y1:=b2) (y2:=(a2,x2,c2)) (y3:=false) (y4:=(I,O,K)) (bd.mono a1) r4 (da.s k) (Ou ao.s ci k) (by
    have:Ec (F.scale H.c).s H.s F.c (LB.map (·.1)) k=(F.scale H.c).s k:=by unfold Ec;rw[if_neg hkn]
    rw[this,A3e];exact ci k)) ?_
  intro v5 u5 o5 a3 a5;rw[Ja _ _ _ hkn]at a5;refine G.b (cn (D++[e],LB++[(k,_)]) _ _ _ cV ((lB.trans a1).trans a3)
   ⟨hS',by rw[Ad _ _ (Ne.symm d1),Ab],by rw[Ad _ _ (Ne.symm ak),Ad _ _ dr];exact a0,o5,Ab _ _ _,by
    simpa[A1l] using a5⟩ (by have:=hS'.len;simp at this;dsimp only;simp;omega))
 case doneB =>
 intro C;rw[Lv _ _ _ fun k hk=>dm k fun hm=>hk (by
  obtain⟨p,hp,rfl⟩:=Ayx.1 hm;exact Ayx.2 ⟨p,C p hp,rfl⟩)]at bd
 have eh:=W.len;have e5:=bd.congr (f':=(F.mul H).s) (fun k=>by show F.s k*H.c+H.s k*F.c=H.s k*F.c+F.s k*H.c;rw[A3e]);have dz:=dy.mono lB;clear cn W E C bd;refine G.mapRange v2 b8 ad 217 52 kV (.inl (au _ _ f2)) ?_;intro ai cb ep;have d2:g1≠ai:=fun e=>by subst e;rw[cb]at ah;cases ah
 have bw:g2≠ai:=fun e=>by subst e;rw[cb]at a0;cases a0
 refine G.l (ι:=List MapEntry×List ((Par×Par)×Value)) (fun _=>[(2,.p 0 0),(3,.p 1 0),(4,.p 2 0),(5,.p 1001 0),(58,.v (.pointer (some ⟨ai,0,none⟩)))])
  (fun _=>[(0,⟨145,[bV vb,sV va vn vc,bV az,sV ay b1 b0,.v (.map (some v1)),.v (.map (some v2))]⟩),(1,⟨145,[bV wb,sV wa wn wc,bV b5,sV b3 b7 b6,.v (.map (some w1)),.v (.map (some w2))]⟩),(2,⟨145,[bV false,sV none 0 0,bV false,sV none 0 0,.v (.map none),.v (.map none)]⟩),(1001,⟨145,[bV b2,sV a2 x2 c2,bV false,sV I O K,.v (.map (some g1)),.v (.map (some g2))]⟩)])
  (fun i u' U=>Gc prV b8 kv i.1 i.2/\U ai=some (.mapIter (some v2) ad (Aw i.1) ad)/\U g1=some oB/\∃ oo,U g2=some oo/\Dy prV KO u' oo (Ec (fun _=>0) F.t H.c (i.2.map (·.1))) (0+i.2.length))
  (fun i=>kv.length-i.2.length) ([],[])
  ⟨Gc.nil _ _,Ab _ _ _,by rw[Ad _ _ d2];exact ah,_,by rw[Ad _ _ bw];exact a0,by
   have:Ec (fun _=>0) F.t H.c (([]:List ((Par×Par)×Value)).map (·.1))=(fun _=>0):=by funext k;simp[Ec]
   dsimp only;rw[this];exact dz⟩ ?_
 rintro JC ⟨D,LC⟩ co uC mC lC ⟨W,E,Q,oC,a7,be⟩;simp only at W E Q a7 be co;have av:=au.trans lC;refine G.mapNextL Ip.inj ai v2 b8 ad kv D LC kV kV E (.inl (av _ _ f2)) bj cd cw W ?doneC ?nextC
 case nextC =>
  rintro⟨k,xv⟩ e hp hkn he hek hev hS';simp only at hkn hek hev;obtain⟨hx,ac⟩:=dd _ hp;simp only at hx ac;obtain⟨yb,ya,yn,yc,bm,bo,bn,rfl,_⟩:=hx.opn;refine G.mapEntry ai v2 b8 ad D e kV (Ab _ _ _) (.inl (av _ _ f2)) bj he ?_;rw[hek,hev];have Y:=ac.fix;refine G.pub 13003 217 [.int .i64 k.1.1,.string (mkS k.1.2),.int .i64 k.2.1,.string (mkS k.2.2)] kV kV ?_;intro bq ea T;have q1:g1≠bq:=fun e=>by subst e;rw[Ad _ _ d2,Q]at T;cases T
  have q2:g2≠bq:=fun e=>by subst e;rw[Ad _ _ bw,a7]at T;cases T
  have q3:ai≠bq:=fun e=>by subst e;rw[Ab]at T;cases T
  obtain⟨d5,d6⟩:=Air (m:=(mC.upd ai (.mapIter (some v2) ad (Aw (D++[e])) ad)).upd bq (.cells [Value.int .i64 k.1.1,.string (mkS k.1.2),.int .i64 k.2.1,.string (mkS k.2.2)].toArray 217 (0,0))) (Ab _ _ _);refine G.addrA 217 63 2 bq 0 0 2 kV kV kV kV oV<|G.lM (some 2) bq (0+0*2) (.agg #[.int .i64 k.1.1,.string (mkS k.1.2)]) d5<|G.addrA 217 63 2 bq 0 1 2 kV kV kV kV oV<|G.lM (some 2) bq (0+1*2) (.agg #[.int .i64 k.2.1,.string (mkS k.2.2)]) d6<|G.c call22 (E2 (hx.mono av) (cz.mono av) (SB.ten (ok.a.t k)) (SB.ten ok.b.c)) ?_;intro v4 u4 a1 r4;obtain⟨b4,a4,x4,c4,ck,d7,cl,rfl,_⟩:=r4.opn;refine G.callG _ _ kV kV call145 (g:=g2) (o:=oC) (by rw[Ad _ _ q2,Ad _ _ bw];exact a7)
   (Hh (g1:=some g1) (y1:=b2) (y2:=(a2,x2,c2)) (y3:=false) (y4:=(I,O,K)) (p:=k.1) (r:=k.2) (be.mono a1) r4 (ao.t k) (by rw[Y];exact Ou (fun _=>SB.zero) dj k) (by
    have:Ec (fun _=>0) F.t H.c (LC.map (·.1)) k=(fun _=>0) k:=by unfold Ec;rw[if_neg hkn]
    rw[Y,this,A3e];exact dj k)) ?_
  intro v5 u5 o5 a3 a5;rw[Y,Ja _ _ _ hkn]at a5;refine G.b (co (D++[e],LC++[(k,_)]) _ _ _ cV ((lC.trans a1).trans a3)
   ⟨hS',by rw[Ad _ _ (Ne.symm bw),Ad _ _ q3,Ab],by rw[Ad _ _ ak,Ad _ _ q1,Ad _ _ d2];exact Q,o5,Ab _ _ _,by
    simpa[A1l] using a5⟩ (by have:=hS'.len;simp at this;dsimp only;simp;omega))
 case doneC =>
 intro C;rw[Lv _ _ _ fun k hk=>dl k fun hm=>hk (by
  obtain⟨p,hp,rfl⟩:=Ayx.1 hm;exact Ayx.2 ⟨p,C p hp,rfl⟩)]at be
 have ei:=W.len;have e0:=be.congr (f':=(F.scale H.c).t) (fun k=>by show 0+F.t k*H.c=F.t k*H.c;rw[A7v]);have e6:=e5.mono lC;clear co W E C be;refine G.mapRange w2 ba ae 217 52 kV (.inl (av _ _ e2)) ?_;intro aj cc er;have d3:g1≠aj:=fun e=>by subst e;rw[cc]at Q;cases Q
 have bx:g2≠aj:=fun e=>by subst e;rw[cc]at a7;cases a7
 refine G.l (ι:=List MapEntry×List ((Par×Par)×Value)) (fun _=>[(2,.p 0 0),(3,.p 1 0),(4,.p 2 0),(5,.p 1001 0),(76,.v (.pointer (some ⟨aj,0,none⟩)))])
  (fun _=>[(0,⟨145,[bV vb,sV va vn vc,bV az,sV ay b1 b0,.v (.map (some v1)),.v (.map (some v2))]⟩),(1,⟨145,[bV wb,sV wa wn wc,bV b5,sV b3 b7 b6,.v (.map (some w1)),.v (.map (some w2))]⟩),(2,⟨145,[bV false,sV none 0 0,bV false,sV none 0 0,.v (.map none),.v (.map none)]⟩),(1001,⟨145,[bV b2,sV a2 x2 c2,bV false,sV I O K,.v (.map (some g1)),.v (.map (some g2))]⟩)])
  (fun i u' U=>Gc prV ba kw i.1 i.2/\U aj=some (.mapIter (some w2) ae (Aw i.1) ae)/\U g1=some oB/\∃ oo,U g2=some oo/\Dy prV KO u' oo (Ec (F.scale H.c).t H.t F.c (i.2.map (·.1))) (0+LC.length+i.2.length))
  (fun i=>kw.length-i.2.length) ([],[])
  ⟨Gc.nil _ _,Ab _ _ _,by rw[Ad _ _ d3];exact Q,_,by rw[Ad _ _ bx];exact a7,by
   have:Ec (F.scale H.c).t H.t F.c (([]:List ((Par×Par)×Value)).map (·.1))=(F.scale H.c).t:=by funext k;simp[Ec]
   dsimp only;rw[this];exact e0⟩ ?_
 rintro JD ⟨D,LD⟩ cp uD mD lD ⟨W,E,R,oD,a8,bf⟩;simp only at W E R a8 bf cp;have aw:=av.trans lD;refine G.mapNextL Ip.inj aj w2 ba ae kw D LD kV kV E (.inl (aw _ _ e2)) bl ce cx W ?doneD ?nextD
 case nextD =>
  rintro⟨k,xv⟩ e hp hkn he hek hev hS';simp only at hkn hek hev;obtain⟨hx,ac⟩:=dg _ hp;simp only at hx ac;obtain⟨yb,ya,yn,yc,bm,bo,bn,rfl,_⟩:=hx.opn;refine G.mapEntry aj w2 ba ae D e kV (Ab _ _ _) (.inl (aw _ _ e2)) bl he ?_;rw[hek,hev];have Y:=ac.fix;refine G.pub 17003 217 [.int .i64 k.1.1,.string (mkS k.1.2),.int .i64 k.2.1,.string (mkS k.2.2)] kV kV ?_;intro bq ea T;have q1:g1≠bq:=fun e=>by subst e;rw[Ad _ _ d3,R]at T;cases T
  have q2:g2≠bq:=fun e=>by subst e;rw[Ad _ _ bx,a8]at T;cases T
  have q3:aj≠bq:=fun e=>by subst e;rw[Ab]at T;cases T
  obtain⟨d5,d6⟩:=Air (m:=(mD.upd aj (.mapIter (some w2) ae (Aw (D++[e])) ae)).upd bq (.cells [Value.int .i64 k.1.1,.string (mkS k.1.2),.int .i64 k.2.1,.string (mkS k.2.2)].toArray 217 (0,0))) (Ab _ _ _);refine G.addrA 217 63 2 bq 0 0 2 kV kV kV kV oV<|G.lM (some 2) bq (0+0*2) (.agg #[.int .i64 k.1.1,.string (mkS k.1.2)]) d5<|G.addrA 217 63 2 bq 0 1 2 kV kV kV kV oV<|G.lM (some 2) bq (0+1*2) (.agg #[.int .i64 k.2.1,.string (mkS k.2.2)]) d6<|G.c call22 (E2 (hx.mono aw) (cy.mono aw) (SB.ten (ok.b.t k)) (SB.ten ok.a.c)) ?_;intro v4 u4 a1 r4;obtain⟨b4,a4,x4,c4,ck,d7,cl,rfl,_⟩:=r4.opn;refine G.callG _ _ kV kV call145 (g:=g2) (o:=oD) (by rw[Ad _ _ q2,Ad _ _ bx];exact a8)
   (Hh (g1:=some g1) (y1:=b2) (y2:=(a2,x2,c2)) (y3:=false) (y4:=(I,O,K)) (p:=k.1) (r:=k.2) (bf.mono a1) r4 (da.t k) (by rw[Y];exact Ou ao.t bh k) (by
    have:Ec (F.scale H.c).t H.t F.c (LD.map (·.1)) k=(F.scale H.c).t k:=by unfold Ec;rw[if_neg hkn]
    rw[Y,this,A3e];exact bh k)) ?_
  intro v5 u5 o5 a3 a5;rw[Y,Ja _ _ _ hkn]at a5;refine G.b (cp (D++[e],LD++[(k,_)]) _ _ _ cV ((lD.trans a1).trans a3)
   ⟨hS',by rw[Ad _ _ (Ne.symm bx),Ad _ _ q3,Ab],by rw[Ad _ _ ak,Ad _ _ q1,Ad _ _ d3];exact R,o5,Ab _ _ _,by
    simpa[A1l] using a5⟩ (by have:=hS'.len;simp at this;dsimp only;simp;omega))
 case doneD =>
 intro C;rw[Lv _ _ _ fun k hk=>dp k fun hm=>hk (by
  obtain⟨p,hp,rfl⟩:=Ayx.1 hm;exact Ayx.2 ⟨p,C p hp,rfl⟩)]at bf
 have ej:=W.len;have d8:=bf.congr (f':=((H.scale F.c).add (F.scale H.c)).t) (fun k=>by show F.t k*H.c+H.t k*F.c=H.t k*F.c+F.t k*H.c;rw[A3e]);have e7:=e6.mono lD;clear cp W E C bf;obtain⟨base,bg⟩:∃ base:Par×Par->Rat,base=((H.scale F.c).add (F.scale H.c)).t:=⟨_,rfl⟩;have af:=ok.acc;rw[<-bg]at d8 af;have dv:=ok.pr;have du:=ok.con;refine G.mapRange v1 aa P 63 52 kV (.inl (aw _ _ f1)) ?_;intro it db f3;have i1:g1≠it:=fun e=>by subst e;rw[db]at R;cases R
 have i2:g2≠it:=fun e=>by subst e;rw[db]at a8;cases a8
 refine G.l (ι:=List MapEntry×List (Par×Value)) (fun _=>[(2,.p 0 0),(3,.p 1 0),(4,.p 2 0),(5,.p 1001 0),(94,.v (.pointer (some ⟨it,0,none⟩)))])
  (fun _=>[(0,⟨145,[bV vb,sV va vn vc,bV az,sV ay b1 b0,.v (.map (some v1)),.v (.map (some v2))]⟩),(1,⟨145,[bV wb,sV wa wn wc,bV b5,sV b3 b7 b6,.v (.map (some w1)),.v (.map (some w2))]⟩),(2,⟨145,[bV false,sV none 0 0,bV false,sV none 0 0,.v (.map none),.v (.map none)]⟩),(1001,⟨145,[bV b2,sV a2 x2 c2,bV false,sV I O K,.v (.map (some g1)),.v (.map (some g2))]⟩)])
  (fun i u' U=>Gc Aq aa lv i.1 i.2/\U it=some (.mapIter (some v1) P (Aw i.1) P)/\U g1=some oB/\∃ Ps:List (Par×Par),Ps.Nodup/\(∀ x:Par×Par,x∈Ps↔x.1∈i.2.map (·.1)/\x.2∈lw.map (·.1))/\∃ ax,U g2=some ax/\Dy prV KO u' ax (fun k=>base k+Eh F H Ps k) (0+LC.length+LD.length+i.2.length*lw.length))
  (fun i=>lv.length-i.2.length) ([],[])
  ⟨Gc.nil _ _,Ab _ _ _,by rw[Ad _ _ i1];exact R,[],mV,mV,oD,by rw[Ad _ _ i2];exact a8,(d8.congr fun k=>by simp only[Eh];grind).up mV⟩ ?_
 rintro J ⟨D,L⟩ hJ u6 m6 l6 ⟨W,E,an,Ps,d9,cq,ax,bt,hR⟩;simp only at W E an cq bt hR hJ;have c5:=aw.trans l6;refine G.mapNextL Bx.inj it v1 aa P lv D L kV kV E (.inl (c5 _ _ f1)) bi cu cg W ?done1 ?next1
 case next1 =>
  rintro⟨p,xv⟩ e hp hpn he hek hev hS';simp only at hpn hek hev;have hx:=(dc _ hp).1;simp only at hx;obtain⟨yb,ya,yn,yc,bm,bo,bn,rfl,_⟩:=hx.opn;refine G.mapEntry it v1 aa P D e kV (Ab _ _ _) (.inl (c5 _ _ f1)) bi he ?_;rw[hek,hev];refine G.mapRange w1 ab V 63 52 kV (.inl (c5 _ _ e1)) ?_;intro al a6 ek;have j1:g1≠al:=fun e=>by subst e;rw[Ad _ _ i1,an]at a6;cases a6
  have j2:g2≠al:=fun e=>by subst e;rw[Ad _ _ i2,bt]at a6;cases a6
  have k1:it≠al:=fun e=>by subst e;rw[Ab]at a6;cases a6
  refine G.l (ι:=List MapEntry×List (Par×Value)) (fun _=>[(2,.p 0 0),(3,.p 1 0),(4,.p 2 0),(5,.p 1001 0),(14,.p 21003 0),(15,.p 21004 0),(94,.v (.pointer (some ⟨it,0,none⟩))),(102,.v (.pointer (some ⟨al,0,none⟩)))])
   (fun _=>[(0,⟨145,[bV vb,sV va vn vc,bV az,sV ay b1 b0,.v (.map (some v1)),.v (.map (some v2))]⟩),(1,⟨145,[bV wb,sV wa wn wc,bV b5,sV b3 b7 b6,.v (.map (some w1)),.v (.map (some w2))]⟩),(2,⟨145,[bV false,sV none 0 0,bV false,sV none 0 0,.v (.map none),.v (.map none)]⟩),(1001,⟨145,[bV b2,sV a2 x2 c2,bV false,sV I O K,.v (.map (some g1)),.v (.map (some g2))]⟩),(21003,⟨63,[iV p.1,tV p.2]⟩),(21004,⟨52,[bV yb,sV ya yn yc,bV false,sV bm bo bn]⟩)])
   (fun i u' U=>Gc Aq ab lw i.1 i.2/\U al=some (.mapIter (some w1) V (Aw i.1) V)/\U it=some (.mapIter (some v1) P (Aw (D++[e])) P)/\U g1=some oB/\∃ Qs:List (Par×Par),Qs.Nodup/\(∀ x:Par×Par,x∈Qs↔(x.1∈L.map (·.1)/\x.2∈lw.map (·.1))\/(x.1=p/\x.2∈i.2.map (·.1)))/\∃ oi,U g2=some oi/\Dy prV KO u' oi (fun k=>base k+Eh F H Qs k) (0+LC.length+LD.length+L.length*lw.length+i.2.length))
   (fun i=>lw.length-i.2.length) ([],[])
   ⟨Gc.nil _ _,Ab _ _ _,by rw[Ad _ _ k1,Ab],by rw[Ad _ _ j1,Ad _ _ i1];exact an,Ps,d9,by intro x;rw[cq];simp,ax,by rw[Ad _ _ j2,Ad _ _ i2];exact bt,hR⟩ ?_
  rintro J2 ⟨D2,L2⟩ iJ ui mi c3 ⟨iS,cj,c1,bz,Qs,br,bp,oi,c0,iR⟩;simp only at iS cj c1 bz bp c0 iR iJ;have c6:=c5.trans c3;refine G.mapNextL Bx.inj al w1 ab V lw D2 L2 kV kV cj (.inl (c6 _ _ e1)) bk cv ch iS ?done2 ?next2
  case next2 =>
   rintro⟨k,yv⟩ e2 hk hkn he2 hek2 hev2 iS';simp only at hkn hek2 hev2;have hy:=(df _ hk).1;simp only at hy;obtain⟨zb,za,zn,zc,eb,ed,ec,rfl,_⟩:=hy.opn;have dh:(p,k)∉Qs:=fun h=>by
    rcases (bp _).1 h with h|h
    ·exact hpn h.1
    exact hkn h.2
   have am:(Qs++[(p,k)]).Nodup:=by
    rw[A1h];exact⟨br,mV,fun a ha b hb e'=>dh (by simp at hb;rw[<-hb,<-e'];exact ha)⟩
   have c7:∀ x:Par×Par,x∈Qs++[(p,k)]↔(x.1∈L.map (·.1)/\x.2∈lw.map (·.1))\/(x.1=p/\x.2∈(L2++[(k,Value.agg #[.bool zb,.slice za zn zc,.bool false,.slice eb ed ec])]).map (·.1)):=fun x=>by
    obtain⟨x1,x2⟩:=x;rw[Ay5,bp];simp only[Aza,Ay5,Azu,A3n,Azs,Az0];constructor
    ·rintro ((h|⟨h1,h2⟩)|⟨h1,h2⟩)
     ·exact .inl h
     ·exact .inr ⟨h1,.inl h2⟩
     exact .inr ⟨h1,.inr h2⟩
    rintro (h|⟨h1,h2|h2⟩)
    ·exact .inl (.inl h)
    ·exact .inl (.inr ⟨h1,h2⟩)
    exact .inr ⟨h1,h2⟩
   refine G.mapEntry al w1 ab V D2 e2 kV (Ab _ _ _) (.inl (c6 _ _ e1)) bk he2 ?_;rw[hek2,hev2];refine G.c call22 (E2 (hx.mono c6) (hy.mono c6) (SB.ten (ok.a.s p)) (SB.ten (ok.b.s k))) ?_;intro v9 u9 l9 r9;obtain⟨b9,a9,n9,c9,ex,f7,f0,rfl,_⟩:=r9.opn;by_cases bu:p=k
   ·have X:con F H (p,k)=F.s p*H.s k+F.s p*H.s k:=by unfold con;rw[if_pos bu]
    refine G.eqAgg 63 #[.int .i64 p.1,.string (mkS p.2)] #[.int .i64 k.1,.string (mkS k.2)] true kV kV kV (fun w=>by rw[<-decide_eq_true bu];exact Bx.eq p k w)<|G.c call21 (Ks r9 r9 (SB.ten (dv p k)) (SB.ten (dv p k))) ?_;intro f9 f8 ds dw;obtain⟨ey,ew,f6,ez,ee,eu,ef,rfl,_⟩:=dw.opn;refine G.callG _ _ kV kV call145 (g:=g2) (o:=oi) (by rw[Ad _ _ j2];exact c0)
     (Hh (g1:=some g1) (y1:=b2) (y2:=(a2,x2,c2)) (y3:=false) (y4:=(I,O,K)) (p:=p) (r:=k) (iR.mono (l9.trans ds)) dw (by have:=du (p,k);rw[X]at this;exact this) (af Qs br _) (by
      have:=af (Qs++[(p,k)]) am (A2 p k);rw[Jh,if_pos rfl,X]at this;rw[show (F.s p*H.s k+F.s p*H.s k)+(base (A2 p k)+Eh F H Qs (A2 p k))=base (A2 p k)+((F.s p*H.s k+F.s p*H.s k)+Eh F H Qs (A2 p k)) by grind];exact this)) ?_
    intro v8 u8 o8 l8 r8;refine G.b (iJ (D2++[e2],L2++[(k,_)]) _ _ _ cV ((c3.trans (l9.trans ds)).trans l8)
     ⟨iS',by rw[Ad _ _ (Ne.symm j2),Ab],by rw[Ad _ _ (Ne.symm i2),Ad _ _ k1];exact c1,by rw[Ad _ _ ak,Ad _ _ j1];exact bz,Qs++[(p,k)],am,c7,o8,Ab _ _ _,?_⟩ (by have:=iS'.len;simp at this;dsimp only;simp;omega))
    refine (r8.congr fun j=>?_).up (by simp[A1l]);rw[Jh,X];unfold I1;by_cases e:j=A2 p k
    ·rw[if_pos e,if_pos e,e];grind
    rw[if_neg e,if_neg e]
   have X:con F H (p,k)=F.s p*H.s k:=by unfold con;rw[if_neg bu]
   refine G.eqAgg 63 #[.int .i64 p.1,.string (mkS p.2)] #[.int .i64 k.1,.string (mkS k.2)] false kV kV kV (fun w=>by rw[<-decide_eq_false bu];exact Bx.eq p k w)<|G.callG _ _ kV kV call145 (g:=g2) (o:=oi) (by rw[Ad _ _ j2];exact c0)
    (Hh (g1:=some g1) (y1:=b2) (y2:=(a2,x2,c2)) (y3:=false) (y4:=(I,O,K)) (p:=p) (r:=k) (iR.mono (l9)) r9 (by have:=du (p,k);rw[X]at this;exact this) (af Qs br _) (by
     have:=af (Qs++[(p,k)]) am (A2 p k);rw[Jh,if_pos rfl,X]at this;rw[show (F.s p*H.s k)+(base (A2 p k)+Eh F H Qs (A2 p k))=base (A2 p k)+((F.s p*H.s k)+Eh F H Qs (A2 p k)) by grind];exact this)) ?_
   intro v8 u8 o8 l8 r8;refine G.b (iJ (D2++[e2],L2++[(k,_)]) _ _ _ cV ((c3.trans (l9)).trans l8)
    ⟨iS',by rw[Ad _ _ (Ne.symm j2),Ab],by rw[Ad _ _ (Ne.symm i2),Ad _ _ k1];exact c1,by rw[Ad _ _ ak,Ad _ _ j1];exact bz,Qs++[(p,k)],am,c7,o8,Ab _ _ _,?_⟩ (by have:=iS'.len;simp at this;dsimp only;simp;omega))
   refine (r8.congr fun j=>?_).up (by simp[A1l]);rw[Jh,X];unfold I1;by_cases e:j=A2 p k
   ·rw[if_pos e,if_pos e,e];grind
   rw[if_neg e,if_neg e]
  case done2 =>
  intro cr;refine G.b (hJ (D++[e],L++[(p,_)]) _ _ _ cV (l6.trans c3) ⟨hS',c1,bz,Qs,br,fun x=>?_,oi,c0,iR.up ?_⟩ (by have:=hS'.len;simp at this;dsimp only;simp;omega))
  ·rw[bp];simp only[Aza,Ay5,Azu,A3n,Azs];constructor
   ·rintro (h|⟨h1,h2⟩)
    ·exact⟨.inl h.1,h.2⟩
    obtain⟨y,hy,e'⟩:=Ayx.1 h2;exact⟨.inr h1,Ayx.2 ⟨y,iS.sub y hy,e'⟩⟩
   rintro⟨h1|h1,h2⟩
   ·exact .inl ⟨h1,h2⟩
   obtain⟨y,hy,e'⟩:=Ayx.1 h2;exact .inr ⟨h1,Ayx.2 ⟨y,cr y hy,e'⟩⟩
  have:=iS.len;simp only[Ay3,A0q,A1t,Azt];omega
 case done1 =>
 intro C;refine G.drop ((PH.mt.upd g1 oB).upd g2 ax) kV (fun g o hg=>?_) ?_
 ·by_cases e:g=g2
  ·subst e;rw[Ab]at hg;cases hg;exact bt
  rw[Ad _ _ e]at hg;by_cases e:g=g1
  ·subst e;rw[Ab]at hg;cases hg;exact an
  rw[Ad _ _ e]at hg;cases hg
 refine G.r (.agg #[.bool b2,.slice a2 x2 c2,.bool false,.slice I O K,.map (some g1),.map (some g2)]) ⟨b2,a2,x2,c2,false,I,O,K,g1,g2,oB,ax,rfl,r5.mono ((((lA.trans lB).trans lC).trans lD).trans l6),ak,rfl,(e7.mono l6).up oV,(hR.congr fun k=>?_).up ?_⟩
 ·rw[Alc F H d9 (fun p q h1 h2=>(cq _).2 ⟨?_,?_⟩) k,bg]
  ·rfl
  ·have:p∈lv.map (·.1):=A2e fun h=>h1 (dk p h);obtain⟨y,hy,e'⟩:=Ayx.1 this;exact Ayx.2 ⟨y,C y hy,e'⟩
  exact A2e fun h=>h2 (dm q h)
 have h1:=W.len;have h2:L.length*lw.length<=N*M:=A1u oV e9;omega
section
variable {p q:Par×Par}{κ:Type}
def Aob {κ:Type}{c:κ->κ->Int}(E:Ord c){S:List (κ×Rat)}{k:κ}{q:Rat}{n:Nat}(N:Ez c (S.map (·.1)))(Q:k∉S.map (·.1))
 (I:∀ j x,j<n->S[j]?=some x->c x.1 k<0) (J:∀ x,S[n]?=some x->¬ c x.1 k<0):Ez c ((S.take n++[(k,q)]++S.drop n).map (·.1)):=by
 have t:Ez c ((S.take n).map (·.1)++(S.drop n).map (·.1)):=by rw[<-Aza,A2i];exact N
 unfold Ez at t⊢;rw[A1e]at t;obtain⟨T,H,U⟩:=t;have K:∀ a∈(S.take n).map (·.1),c a k<0:=fun a h=>by
  obtain⟨x,C,rfl⟩:=Ayx.1 h;obtain⟨j,O,rfl⟩:=Az9 C;rw[Ay1]at O;refine I j _ oV ?_;rw[A2t,Ayr oV]
 have L:∀ b∈(S.drop n).map (·.1),c k b<0:=by
  cases hd:S.drop n with
  |nil=>intro b g;simp at g
  |cons x B =>
   rw[hd,Azu,A7c]at H;have C:S[n]?=some x:=by
    have:=congrArg (fun l=>l[0]?) hd;simpa using this
   have F:x.1≠k:=fun e=>Q (Ayx.2 ⟨x,Ay9 C,e⟩);have V:=J x C;have h0:c k x.1<0:=by
    have R:=E.sym k x.1;have W:c x.1 k≠0:=fun e=>F (E.eq _ _ e);rw[R];omega
   intro b g;rw[Azu,Ay7]at g;rcases g with rfl|g
   ·exact h0
   exact E.trans _ _ _ h0 (H.1 b g)
 rw[Aza,Aza,A1e,A1e];refine⟨⟨T,mV,fun a h b g=>?_⟩,H,fun a h b g=>?_⟩
 ·simp at g;subst g;exact K a h
 rcases Ay5.1 h with h|h
 ·exact U a h b g
 simp at h;subst h;exact L b g
def Ux {α:Type}{S:List α}{x y:α}{n:Nat}:y∈S.take n++[x]++S.drop n↔y∈S\/y=x:=by
 have h:y∈S↔y∈S.take n\/y∈S.drop n:=by rw[<-Ay5,A2i]
 rw[h];simp only[Ay5,Azs];constructor
 ·rintro ((a|a)|a)
  ·exact .inl (.inl a)
  ·exact .inr a
  exact .inl (.inr a)
 rintro ((a|a)|a)
 ·exact .inl (.inl a)
 ·exact .inr a
 exact .inl (.inr a)
structure Ra {κ:Type}(c:κ->κ->Int)(f:κ->Rat)(L:List κ)(S:List (κ×Rat)):Prop where
 srt:Ez c (S.map (·.1))
 val:∀ p∈S,p.2=f p.1/\p.2≠0
 mem:∀ k,k∈S.map (·.1)↔k∈L/\f k≠0
def Ra.nil {κ:Type}{c:κ->κ->Int}{f:κ->Rat}:Ra c f [] []:=⟨List.Pairwise.nil,fun p hp=>by simp at hp,fun k=>mV⟩
def Ra.skip {c:κ->κ->Int}{f:κ->Rat}{L:List κ}{S:List (κ×Rat)}{k:κ}(h:Ra c f L S)(h0:f k=0):Ra c f (L++[k]) S:=⟨h.srt,h.val,fun j=>by
 rw[h.mem,Ay5,Azs];constructor
 ·rintro⟨a,b⟩;exact⟨.inl a,b⟩
 rintro⟨a|rfl,b⟩
 ·exact⟨a,b⟩
 exact absurd h0 b⟩
def Ra.put {κ:Type}{c:κ->κ->Int}(E:Ord c){f:κ->Rat}{L:List κ}{S:List (κ×Rat)}{k:κ}{n:Nat}(h:Ra c f L S)(h0:f k≠0)(H:k∉L)
 (t:∀ j x,j<n->S[j]?=some x->c x.1 k<0) (C:∀ x,S[n]?=some x->¬ c x.1 k<0):Ra c f (L++[k]) (S.take n++[(k,f k)]++S.drop n) :=
 ⟨Aob E h.srt (fun e=>H ((h.mem k).1 e).1) t C,fun p hp=>by
  rcases Ux.1 hp with e|rfl
  ·exact h.val p e
  ·exact⟨rfl,h0⟩,fun j=>by
  have:=h.mem j;constructor
  ·intro F;obtain⟨p,hp,rfl⟩:=Ayx.1 F;rcases Ux.1 hp with e|rfl
   ·obtain⟨a,b⟩:=this.1 (Ayx.2 ⟨p,e,rfl⟩);exact⟨A0x _ a,b⟩
   exact⟨mV,h0⟩
  rintro⟨a,b⟩;rcases Ay5.1 a with e|e
  ·obtain⟨p,hp,g⟩:=Ayx.1 (this.2 ⟨e,b⟩);exact Ayx.2 ⟨p,Ux.2 (.inl hp),g⟩
  rw[Azs]at e;exact Ayx.2 ⟨(k,f k),Ux.2 (.inr rfl),e.symm⟩⟩
def Ra.can {c:κ->κ->Int}{f:κ->Rat}{L:List κ}{S:List (κ×Rat)}(h:Ra c f L S)(g:∀ k,k∉L->f k=0):Can c f S:=⟨h.srt,h.val,fun k j=>by
 rcases A86 (k∈L) with e|e
 ·exact A2e fun n=>j ((h.mem k).2 ⟨e,n⟩)
 exact g k e⟩
def Asg (h:Bf p.1 q.1<0):Ni p q<0:=by unfold Ni;rw[if_pos oV];exact h
def Arx (h:¬ Bf p.1 q.1<0)(g:p.1≠q.1):¬ Ni p q<0:=by
 have j:Bf p.1 q.1≠0:=fun e=>g (Dl.eq _ _ e);unfold Ni;rw[if_pos j];exact h
def Asi (h:p.1=q.1):Ni p q=Bf p.2 q.2:=by unfold Ni;rw[h,Dl.refl,if_neg mV]
def Po {u:PH}(x y:(Par×Par)×Rat)(r:Bool)(h:decide (Ni x.1 y.1<0)=r):Fn0 prog 102 [D7 x,D7 y] u fun v _=>v=.bool r:=by
 obtain⟨⟨⟨e,g⟩,E,F⟩,q⟩:=x;obtain⟨⟨⟨j,n⟩,H,I⟩,N⟩:=y;refine Fn0.o func102 ?_;by_cases t:Bf (e,g) (j,n)<0
 ·rw[decide_eq_true (Asg t)]at h;subst h;refine G.c call79 (Ff (e,g) (j,n) true (decide_eq_true t)) ?_;rintro L K J rfl;exact G.r (.bool true) ⟨rfl,rfl⟩
 refine G.c call79 (Ff (e,g) (j,n) false (decide_eq_false t)) ?_;rintro L K J rfl;by_cases C:((e,g):Par)=(j,n)
 ·refine G.eqAgg 63 #[.int .i64 e,.string (mkS g)] #[.int .i64 j,.string (mkS n)] true kV kV kV (fun w=>by rw[<-decide_eq_true C];exact Bx.eq (e,g) (j,n) w) ?_;rw[Asi C]at h;refine G.c call79 (Ff (E,F) (H,I) r h) ?_;rintro Q O l2 rfl;cases r with
  |true=>exact G.r (.bool true) ⟨rfl,rfl⟩
  |false=>exact G.r (.bool false) ⟨rfl,rfl⟩
 rw[decide_eq_false (Arx t C)]at h;subst h;exact G.eqAgg 63 #[.int .i64 e,.string (mkS g)] #[.int .i64 j,.string (mkS n)] false kV kV kV (fun w=>by rw[<-decide_eq_false C];exact Bx.eq (e,g) (j,n) w)<|G.r (.bool false) ⟨rfl,rfl⟩
section
variable {P:Program} [A5 P] {fn:Func} {Post:By} {st:List KI×S} {u m:PH}
def G.sliceFromG (a:Option Addr)(n c k sz:Nat)(h:Aj P (adv P st)=.slice (some sz) (.slice a n c) (some (.int .i64 k)) none none)(V:k<=n)(W:n<=c)
 (g:G P fn Post (nx (adv P st) (.slice (if c=k then a else a.map (·.add (k*sz))) (n-k) (c-k))) u m):G P fn Post st u m:=by
 refine G.ask h mV (fun R o C w hp=>?_) g;obtain⟨t,X,L,H,M,F,K,N,O,Q,j⟩:=Je C;obtain⟨J,U,I,pos,after,E⟩:=o;simp only at F;subst F;unfold Od at j;split at j
 ·rename_i e hu;have T:(0:Int)<=k/\(k:Int)<=n:=oV;simp only[execOp,K,N,O,Q];simp only[Instr.sliceAt,Sem.run_bind,run_underlying hu,Result.andThen_ok,Instr.slice,Instr.sliceBounds,Instr.sliceBound,asIntOf,Sem.run_pure,if_true,Option.isSome,Sem.run_ite,Bj j,T,and_self,A0y]
 cases j
end
end
section
def ElP.fld {u:PH}{b off j:Nat}{xs:Array Value}{x:Value}(h:ElP u b off (.agg xs))(n:xs[j]?=some x)(g:x.cells = #[x]):ElP u b (off+j) x:=h.sub fun i y e=>by
 rw[g]at e
 match i,e with
 |0,e=>simp at e;subst e;exact n
 |i+1,e=>simp at e
def Acz (P:Program):List KI×S->List Value->List KI×S
 |st,[]=>st
 |st,v::l=>Acz P (nx (adv P st) v) l
section
variable {P:Program} [A5 P] {fn:Func} {Post:By} {st:List KI×S} {u m:PH}
def G.joinF {ι:Type}(f:List KI×S->List KI×S)(T:ι->List (Nat×SV))(B:ι->List (Nat×Blk))(j:ι->PH->PH->Prop)(K:∀ i,T1 (T i) (B i)=true)(L:Fv (E6 P 200 (f st)).1=true)
 (C:∀ i g h,PH.le u g->j i g h->G P fn Post ((E6 P 200 (f st)).1,S.of (E6 P 200 (f st)).2.n (T i) (B i)) g h)
 (k:(∀ i e g h,(E6 P 200 e).1=(E6 P 200 (f st)).1->Cov (E6 P 200 (f st)).2.n (E6 P 200 e).2 (T i) (B i)->PH.le u g->j i g h->G P fn Post e g h)->G P fn Post st u m):G P fn Post st u m:=by
 refine k fun i e g h F E H I=>?_;have J:Cov (E6 P 200 e).2.n (E6 P 200 e).2 (T i) (B i):=⟨rfl,E.t,E.b⟩;refine G.canon (T i) (B i) (by rw[F];exact L) (K i) J ?_;rw[F,E.n];exact C i g h H I
end
def Afc {L:List (List UInt8)}(h:L.Nodup){i k:Nat}{x y:List UInt8}(E:L[i]?=some x)(F:L[k]?=some y)(g:k≠i):y≠x:=fun e=>by
 subst e;obtain⟨j,n⟩:=Ayu.1 E;obtain⟨t,C⟩:=Ayu.1 F;rcases Nat.lt_or_gt_of_ne g with e|e
 ·exact absurd (C.trans n.symm) (A02.1 h k i t j e)
 exact absurd (n.trans C.symm) (A02.1 h i k j t e)
def Rz {u:PH}{s:List UInt8}(h:Ha s=true):Fn0 prog 100 [.string (mkS s)] u fun v _=>v=.bool true:=by
 obtain⟨E,F⟩:=Zq h;obtain⟨c0,g⟩:∃ c,s[0]?=some c:=⟨_,Ayr oV⟩;have H:=Vj h g;refine Fn0.o func100<|G.eF s.length 0<|G.gF s.length 12<|G.idxS s 0 c0 kV g<|G.cmpG .lss .u8 (c0.toNat:Int) 97 false kV rfl (by simp only[Cl,decide_eq_false_iff_not];omega)<|G.idxS s 0 c0 kV g<|G.cmpG .gtr .u8 (c0.toNat:Int) 122 false kV rfl (by simp only[Cl,decide_eq_false_iff_not];omega)<|G.l (ι:=Nat) (fun i=>[(0,tV s),(3,iV i)]) (fun _=>[])
  (fun i N I=>i<=s.length/\I=PH.mt) (fun i=>s.length-i) 0 ⟨oV,rfl⟩ ?_
 rintro J i j O L l2 ⟨hi,rfl⟩;by_cases n:i<s.length
 ·refine G.lT i s.length ?_;obtain⟨b,e⟩:∃ b,s[i]?=some b:=⟨_,Ayr n⟩;have K:=Vj h e;refine G.idxS s i b kV e ?_;by_cases C:97<=b.toNat
  ·exact G.cmpG .geq .u8 (b.toNat:Int) 97 true kV rfl (by simp only[Cl,decide_eq_true_eq];omega)<|G.idxS s i b kV e<|G.cmpG .leq .u8 (b.toNat:Int) 122 true kV rfl (by simp only[Cl,decide_eq_true_eq];omega)<|G.i i<|G.b (j (i+1) _ _ _ cV l2 ⟨oV,rfl⟩ oV)
  refine G.cmpG .geq .u8 (b.toNat:Int) 97 false kV rfl (by simp only[Cl,decide_eq_false_iff_not];omega)<|G.idxS s i b kV e ?_;by_cases t:48<=b.toNat
  ·exact G.cmpG .geq .u8 (b.toNat:Int) 48 true kV rfl (by simp only[Cl,decide_eq_true_eq];omega)<|G.idxS s i b kV e<|G.cmpG .leq .u8 (b.toNat:Int) 57 true kV rfl (by simp only[Cl,decide_eq_true_eq];omega)<|G.i i<|G.b (j (i+1) _ _ _ cV l2 ⟨oV,rfl⟩ oV)
  exact G.cmpG .geq .u8 (b.toNat:Int) 48 false kV rfl (by simp only[Cl,decide_eq_false_iff_not];omega)<|G.idxS s i b kV e<|G.cmpG .eql .u8 (b.toNat:Int) 45 true kV rfl (by simp only[Cl,decide_eq_true_eq];omega)<|G.i i<|G.b (j (i+1) _ _ _ cV l2 ⟨oV,rfl⟩ oV)
 obtain rfl:i=s.length:=oV;exact G.lF s.length s.length<|G.r (.bool true) ⟨rfl,rfl⟩
def R9 {u:PH}{v:Value}{T:List (List UInt8×Nat)}{R:List Bu}{F:List Am}{lab:Int}(h:G8 u v T R F lab)(ok:Bt u T R F lab) :
 Fn0 prog 45 [v] u fun r _=>r=.int .i64 0:=by
 obtain⟨xa,U,xb,W,xe,xf,rfl,hT,hR,hF⟩:=h;have t1:=ok.t1;have t2:=ok.t2;have r1:=ok.r1;have r2:=ok.r2;have f2:=ok.f2;have lo:=ok.l1;have hi:lab<T.length:=by
  rcases A3z lab 0 with aq|bg
  ·omega
  obtain⟨n,hn⟩:=ok.l2 lab.toNat oV;obtain⟨hk,_⟩:=Ayu.1 hn;omega
 refine Fn0.o func45<|G.eF T.length 0<|G.gF T.length 12<|G.eF R.length 0<|G.gF R.length 6<|G.gF F.length 8<|G.l (ι:=Nat) (fun i=>[(1,.p 0 0),(49,sV xa T.length U),(50,iV T.length),(51,iV i)])
  (fun _=>[(0,⟨30,[sV xa T.length U,sV xb R.length W,sV xe F.length xf,iV lab]⟩)])
  (fun i u' O=>i<=T.length/\O=PH.mt) (fun i=>T.length-i) 0 ⟨oV,rfl⟩ ?_
 rintro J i hJ u1 m1 l1 ⟨bo,rfl⟩;by_cases aq:i<T.length
 ·refine G.lT i T.length ?_;obtain⟨x,an⟩:∃ x,T[i]?=some x:=⟨_,Ayr aq⟩;have b6:=Ay9 an;obtain⟨bi,bj⟩:=ok.att.kind x b6;have C:=ok.att.names.word x.1 (Ayx.2 ⟨x,b6,rfl⟩);have V:(T.map (·.1))[i]?=some x.1:=by rw[Ayy,an];rfl
  obtain⟨K,Q,rfl,ea⟩:=Ac.at' (hT.mono l1) (j:=i) (e:=Dz x) (by simp[an]);obtain⟨xn,xk⟩:=x;simp only at bi bj C V;refine G.a K Q T.length U i 2 aq<|G.lU (some 2) K (Q+i*2) (.agg #[.string (mkS xn),.int .i64 xk]) ea<|G.c call100 (Rz C) ?_;rintro v2 u2 l2 rfl;refine G.l (ι:=Nat) (fun k=>[(1,.p 0 0),(3,iV i),(4,.p 5003 0),(5,iV k),(49,sV (some ⟨K,Q,none⟩) T.length U),(50,iV T.length),(51,iV i)])
   (fun _=>[(0,⟨30,[sV (some ⟨K,Q,none⟩) T.length U,sV xb R.length W,sV xe F.length xf,iV lab]⟩),(5003,⟨162,[tV xn,iV xk]⟩)])
   (fun k u' O=>k<=i/\O=PH.mt) (fun k=>i-k) 0 ⟨oV,rfl⟩ ?_
  rintro J2 k E u3 m3 l3 ⟨hk,rfl⟩;by_cases ap:k<i
  ·refine G.lT k i ?_;obtain⟨y,a1⟩:∃ y,T[k]?=some y:=⟨_,Ayr oV⟩;have a5:(T.map (·.1))[k]?=some y.1:=by rw[Ayy,a1];rfl
   have aa:=Afc ok.att.names.nodup V a5 oV;obtain⟨_,_,e',ek⟩:=Ac.at' (hT.mono ((l1.trans l2).trans l3)) (j:=k) (e:=Dz y) (by simp[a1]);cases e';exact G.a K Q T.length U k 2 oV<|G.f 162 K (Q+k*2) 0 0<|G.lU none K (Q+k*2+0) (.string (mkS y.1)) (ek.fld rfl rfl)<|G.w y.1 xn aa<|G.i k<|G.b (E (k+1) _ _ _ cV l3 ⟨oV,rfl⟩ oV)
  obtain rfl:k=i:=oV;exact G.lF k k<|G.lF xk 1<|G.gF xk 3<|G.i k<|G.b (hJ (k+1) _ _ _ cV ((l1.trans l2).trans l3) ⟨oV,rfl⟩ oV)
 obtain rfl:i=T.length:=oV;refine G.lF T.length T.length ?_;clear hJ;refine G.make 4 1 1 (.bool false) T.length kV rfl rfl oV oV oV ?_;rintro v1 mA au ⟨ad,rfl⟩;obtain⟨g,rfl,_⟩:=au.some';refine G.l (ι:=Nat×List Bool) (fun i=>[(1,.p 0 0),(6,sV (some ⟨g,0,none⟩) T.length T.length),(88,sV xb R.length W),(89,iV R.length),(90,iV i.1)])
  (fun _=>[(0,⟨30,[sV xa T.length U,sV xb R.length W,sV xe F.length xf,iV lab]⟩)])
  (fun i u' O=>i.1<=R.length/\i.2.length=T.length/\(∀ r∈R.take i.1,∀ q∈r.2.1,i.2[q]?=some true)/\Af PH.mt O (.slice (some ⟨g,0,none⟩) T.length T.length) 4 1 (i.2.map Value.bool)) (fun i=>R.length-i.1) (0,List.replicate T.length false)
  ⟨mV,mV,mV,by rw[A4v];exact au⟩ ?_
 rintro J ⟨i,L⟩ hJ u2 m2 l2 ⟨bh,hL,a0,aj⟩;simp only at bh hL a0 aj hJ;have ac:=l1.trans l2;by_cases af:i<R.length
 ·refine G.lT i R.length ?_;obtain⟨q,a8⟩:∃ q,R[i]?=some q:=⟨_,Ayr af⟩;have I:=Ay9 a8;have b4:R.take (i+1)=R.take i++[q]:=by rw[Aze,a8];rfl
  have C:=ok.rel.names.word q.1 (Ayx.2 ⟨q,I,rfl⟩);have V:(R.map (·.1))[i]?=some q.1:=by rw[Ayy,a8];rfl
  obtain⟨K,Q,rfl,ea⟩:=Ac.at' (hR.mono ac) (j:=i) (e:=Hq q) (by simp[a8]);obtain⟨qs,t,qa,qc⟩:=q;have aa:t≠[]:=ok.rel.ne _ I;have bk:∀ p∈t,p<T.length:=ok.rel.lt _ I;have bx:t.length<=1000:=ok.rel.len _ I;have ax:∀ (k:Nat) x y,t[k]?=some x->t[k+1]?=some y->x<y:=ok.rel.asc _ I;have b3:Ac u2 (.slice qa t.length qc) 1 (Ai t):=(ok.rel.at' _ I).mono ac;have bw:0<t.length:=A29.2 aa;simp only at C V;refine G.a K Q R.length W i 2 af<|G.lU (some 2) K (Q+i*2) (.agg #[.string (mkS qs),.slice qa t.length qc]) ea<|G.c call100 (Rz C) ?_;rintro v3 u3 l3 rfl;refine G.l (ι:=Nat) (fun k=>[(1,.p 0 0),(6,sV (some ⟨g,0,none⟩) T.length T.length),(7,iV i),(8,.p 19003 0),(9,iV k),(88,sV (some ⟨K,Q,none⟩) R.length W),(89,iV R.length),(90,iV i)])
   (fun _=>[(0,⟨30,[sV xa T.length U,sV (some ⟨K,Q,none⟩) R.length W,sV xe F.length xf,iV lab]⟩),(19003,⟨164,[tV qs,sV qa t.length qc]⟩)])
   (fun k u' O=>k<=i/\O=m2) (fun k=>i-k) 0 ⟨oV,rfl⟩ ?_
  rintro J2 k E u4 m4 l4 ⟨hk,rfl⟩;by_cases ap:k<i
  ·refine G.lT k i ?_;obtain⟨y,a1⟩:∃ y,R[k]?=some y:=⟨_,Ayr oV⟩;have a5:(R.map (·.1))[k]?=some y.1:=by rw[Ayy,a1];rfl
   have b0:=Afc ok.rel.names.nodup V a5 oV;obtain⟨_,_,e',ek⟩:=Ac.at' (hR.mono ((ac.trans l3).trans l4)) (j:=k) (e:=Hq y) (by simp[a1]);cases e';exact G.a K Q R.length W k 2 oV<|G.f 164 K (Q+k*2) 0 0<|G.lU none K (Q+k*2+0) (.string (mkS y.1)) (ek.fld rfl rfl)<|G.w y.1 qs b0<|G.i k<|G.b (E (k+1) _ _ _ cV l4 ⟨oV,rfl⟩ oV)
  obtain rfl:k=i:=oV;refine G.lF k k ?_;clear E;refine G.eF t.length 0<|G.l (ι:=Nat×List Bool) (fun j=>[(1,.p 0 0),(6,sV (some ⟨g,0,none⟩) T.length T.length),(8,.p 19003 0),(88,sV (some ⟨K,Q,none⟩) R.length W),(89,iV R.length),(90,iV k),(118,sV qa t.length qc),(119,iV t.length),(120,iV j.1)])
   (fun _=>[(0,⟨30,[sV xa T.length U,sV (some ⟨K,Q,none⟩) R.length W,sV xe F.length xf,iV lab]⟩),(19003,⟨164,[tV qs,sV qa t.length qc]⟩)])
   (fun j u' O=>j.1<=t.length/\j.2.length=T.length/\(∀ r∈R.take k,∀ q∈r.2.1,j.2[q]?=some true)/\(∀ q∈t.take j.1,j.2[q]?=some true)/\Af PH.mt O (.slice (some ⟨g,0,none⟩) T.length T.length) 4 1 (j.2.map Value.bool)) (fun j=>t.length-j.1) (0,L)
   ⟨mV,hL,a0,mV,aj⟩ ?_
  rintro J2 ⟨j,L2⟩ E u6 m6 l6 ⟨hj,am,X,N,ak⟩;simp only at hj am X N ak E;have b7:=(l3.trans l4).trans l6;have a6:=b3.mono b7;by_cases ah:j<t.length
  ·refine G.lT j t.length ?_;obtain⟨p,ar⟩:∃ p,t[j]?=some p:=⟨_,Ayr ah⟩;have bl:p<T.length:=bk _ (Ay9 ar);have b5:t.take (j+1)=t.take j++[p]:=by rw[Aze,ar];rfl
   obtain⟨bq,oq,rfl,eq⟩:=Ac.at' a6 (j:=j) (e:=.int .i64 p) (by simp[Ai,ar]);refine G.a bq oq t.length qc j 1 ah<|G.lU none bq (oq+j*1) (.int .i64 p) eq<|G.lF p 0<|G.hF p T.length<|G.a g 0 T.length T.length p 1 bl<|G.storeA 1 PH.mt (L2.map Value.bool) g T.length T.length p (.bool true) kV ak (by rw[Ayt];omega) rfl rfl ?_;intro m7 av;rw[Qr]at av;refine G.i j ?_;have a2:∀ q,L2[q]?=some true->(L2.set p true)[q]?=some true:=fun q Z=>by
    rw[A1g];split
    ·subst_vars;rw[if_pos oV]
    exact Z
   exact G.b (E (j+1,L2.set p true) _ _ _ cV l6 ⟨dV,by simp[am],fun r hr q Z=>a2 q (X r hr q Z),by
    intro q Z;dsimp only at Z⊢;rw[b5,Ay5,Azs]at Z;rcases Z with Z|rfl
    ·exact a2 q (N q Z)
    rw[A1g];simp;omega,av⟩ dV)
  obtain rfl:j=t.length:=oV;refine G.lF t.length t.length ?_;clear E;rw[Azj]at N;refine G.l (ι:=Nat) (fun j=>[(1,.p 0 0),(6,sV (some ⟨g,0,none⟩) T.length T.length),(8,.p 19003 0),(12,iV (j+1:Nat)),(88,sV (some ⟨K,Q,none⟩) R.length W),(89,iV R.length),(90,iV k)])
   (fun _=>[(0,⟨30,[sV xa T.length U,sV (some ⟨K,Q,none⟩) R.length W,sV xe F.length xf,iV lab]⟩),(19003,⟨164,[tV qs,sV qa t.length qc]⟩)])
   (fun j u' O=>j+1<=t.length/\O=m6) (fun j=>t.length-j) 0
   ⟨oV,rfl⟩ ?_
  rintro J3 j bd u8 m8 l8 ⟨bt,rfl⟩;have a7:=a6.mono l8;by_cases ai:j+1<t.length
  ·refine G.lT (j+1:Nat) t.length ?_;obtain⟨H,b1⟩:∃ p,t[j]?=some p:=⟨_,Ayr oV⟩;obtain⟨p2,b2⟩:∃ p,t[j+1]?=some p:=⟨_,Ayr ai⟩;have a4:=ax j _ _ b1 b2;obtain⟨bq,oq,rfl,b9⟩:=Ac.at' a7 (j:=j+1) (e:=.int .i64 p2) (by simp[Ai,b2]);obtain⟨_,_,e',b8⟩:=Ac.at' a7 (j:=j) (e:=.int .i64 H) (by simp[Ai,b1]);cases e';exact G.a bq oq t.length qc (j+1) 1 ai<|G.lU none bq (oq+(j+1)*1) (.int .i64 p2) b9<|G.s (j+1:Nat) 1 j<|G.a bq oq t.length qc j 1 oV<|G.lU none bq (oq+j*1) (.int .i64 H) b8<|G.kF p2 H<|G.p (j+1:Nat) 1 (j+1+1:Nat)<|G.b (bd (j+1) _ _ _ cV l8 ⟨oV,rfl⟩ oV)
  refine G.lF (j+1:Nat) t.length<|G.i k ?_;exact G.b (hJ (k+1,L2) _ _ _ cV ((l2.trans b7).trans l8) ⟨dV,am,by
   intro r hr q Z;dsimp only at hr Z⊢;rw[b4,Ay5,Azs]at hr;rcases hr with hr|rfl
   ·exact X r hr q Z
   exact N q Z,ak⟩ dV)
 obtain rfl:i=R.length:=oV;refine G.lF R.length R.length ?_;clear hJ;rw[Azj]at a0;refine G.l (ι:=Nat) (fun i=>[(1,.p 0 0),(6,sV (some ⟨g,0,none⟩) T.length T.length),(156,sV (some ⟨g,0,none⟩) T.length T.length),(157,iV T.length),(158,iV i)])
  (fun _=>[(0,⟨30,[sV xa T.length U,sV xb R.length W,sV xe F.length xf,iV lab]⟩)])
  (fun i u' O=>i<=T.length/\O=m2) (fun i=>T.length-i) 0 ⟨oV,rfl⟩ ?_
 rintro J i hJ u3 m3 l3 ⟨bp,rfl⟩;by_cases a4:i<T.length
 ·refine G.lT i T.length ?_;have be:L[i]?=some true:=by
   obtain⟨r,hr,Z⟩:=ok.rel.all i a4;exact a0 r hr i Z
  exact G.a g 0 T.length T.length i 1 a4<|G.lM none g (0+i*1) (.bool true) (aj.el (by rw[Ayy,be];rfl))<|G.i i<|G.b (hJ (i+1) _ _ _ cV l3 ⟨oV,rfl⟩ oV)
 obtain rfl:i=T.length:=oV;refine G.lF T.length T.length ?_;clear hJ;have bm:=ac.trans l3;refine G.l (ι:=Nat) (fun i=>[(1,.p 0 0),(6,sV (some ⟨g,0,none⟩) T.length T.length),(166,sV xe F.length xf),(167,iV F.length),(168,iV i)])
  (fun _=>[(0,⟨30,[sV xa T.length U,sV xb R.length W,sV xe F.length xf,iV lab]⟩)])
  (fun i u' O=>i<=F.length/\O=m3) (fun i=>F.length-i) 0 ⟨oV,rfl⟩ ?_
 rintro J i hJ u4 m4 l4 ⟨br,rfl⟩;have ae:=bm.trans l4;by_cases ag:i<F.length
 ·refine G.lT i F.length ?_;obtain⟨f,al⟩:∃ f,F[i]?=some f:=⟨_,Ayr ag⟩;have bf:=Ay9 al;obtain⟨fn,fk,ay,a3,az⟩:=ok.feat.ok f bf;obtain⟨a9,_⟩:=Ayu.1 ay;have V:(F.map (·.1))[i]?=some f.1:=by rw[Ayy,al];rfl
  obtain⟨fb,fo,rfl,ef⟩:=Ac.at' (hF.mono ae) (j:=i) (e:=Ch f) (by simp[al]);obtain⟨ab,ao,rfl,ea⟩:=Ac.at' (hT.mono ae) (j:=f.1) (e:=Dz (fn,fk)) (by simp[ay]);obtain⟨H,p2,p3⟩:=f;simp only at a3 az a9 V ea;refine G.a fb fo F.length xf i 3 ag<|G.lU (some 3) fb (fo+i*3) (.agg #[.int .i64 H,.int .i64 p2,.int .i64 p3]) ef<|G.lF H 0<|G.hF H T.length<|G.joinF (ι:=Unit) (fun st=>Kg prog (Acz prog st [.bool false,.bool true,.bool true,undef,undef,undef,.bool true])) (fun _=>[(1,.p 0 0),(6,sV (some ⟨g,0,none⟩) T.length T.length),(15,iV i),(16,.p 50003 0),(166,sV (some ⟨fb,fo,none⟩) F.length xf),(167,iV F.length),(168,iV i)])
   (fun _=>[(0,⟨30,[sV (some ⟨ab,ao,none⟩) T.length U,sV xb R.length W,sV (some ⟨fb,fo,none⟩) F.length xf,iV lab]⟩),(50003,⟨105,[iV H,iV p2,iV p3]⟩)])
   (fun _ u' O=>u'=u4/\O=m4) (fun _=>kV) kV ?tail ?way
  case way =>
   intro Y;rcases a3 with ⟨rfl,rfl,bu⟩|⟨rfl,rfl,rfl⟩
   ·refine G.eT (1:Nat) 1 ?_;rcases (by omega:p3=0\/p3=1) with rfl|rfl
    ·refine G.eT (0:Nat) 0<|G.a ab ao T.length U H 2 a9<|G.f 162 ab (ao+H*2) 1 1<|G.lU none ab (ao+H*2+1) (.int .i64 (2:Nat)) (K8 ea)<|G.eT (2:Nat) 2<|G.eF (1:Nat) 2<|G.pastI ?_;exact Y () _ _ _ kV cV (PH.le_refl _) ⟨rfl,rfl⟩
    refine G.eF (1:Nat) 0<|G.eT (1:Nat) 1<|G.a ab ao T.length U H 2 a9<|G.f 162 ab (ao+H*2) 1 1<|G.lU none ab (ao+H*2+1) (.int .i64 (2:Nat)) (K8 ea)<|G.eT (2:Nat) 2<|G.eF (1:Nat) 2<|G.pastI ?_;exact Y () _ _ _ kV cV (PH.le_refl _) ⟨rfl,rfl⟩
   refine G.eF (2:Nat) 1<|G.eT (2:Nat) 2<|G.eT (0:Nat) 0<|G.a ab ao T.length U H 2 a9<|G.f 162 ab (ao+H*2) 1 1<|G.lU none ab (ao+H*2+1) (.int .i64 (3:Nat)) (K8 ea)<|G.eT (3:Nat) 3<|G.pastI ?_;exact Y () _ _ _ kV cV (PH.le_refl _) ⟨rfl,rfl⟩
  rintro _ u5 m5 _ ⟨rfl,rfl⟩;refine G.l (ι:=Nat) (fun k=>[(1,.p 0 0),(6,sV (some ⟨g,0,none⟩) T.length T.length),(15,iV i),(16,.p 50003 0),(19,iV k),(166,sV (some ⟨fb,fo,none⟩) F.length xf),(167,iV F.length),(168,iV i)])
   (fun _=>[(0,⟨30,[sV (some ⟨ab,ao,none⟩) T.length U,sV xb R.length W,sV (some ⟨fb,fo,none⟩) F.length xf,iV lab]⟩),(50003,⟨105,[iV H,iV p2,iV p3]⟩)])
   (fun k u' O=>k<=i/\O=m5) (fun k=>i-k) 0 ⟨oV,rfl⟩ ?_
  rintro J2 k E u6 m6 l6 ⟨hk,rfl⟩;by_cases ap:k<i
  ·refine G.lT k i ?_;obtain⟨y,aw⟩:∃ y,F[k]?=some y:=⟨_,Ayr oV⟩;have a5:(F.map (·.1))[k]?=some y.1:=by rw[Ayy,aw];rfl
   have aa:y.1≠H:=fun e=>Nat.ne_of_lt ap (Ia ok.feat.nodup a5 (by rw[V,e]));obtain⟨_,_,e',ek⟩:=Ac.at' (hF.mono (ae.trans l6)) (j:=k) (e:=Ch y) (by simp[aw]);cases e';exact G.a fb fo F.length xf k 3 oV<|G.f 105 fb (fo+k*3) 0 0<|G.lU none fb (fo+k*3+0) (.int .i64 y.1) (ek.fld rfl rfl)<|G.eF y.1 H<|G.i k<|G.b (E (k+1) _ _ _ cV l6 ⟨oV,rfl⟩ oV)
  obtain rfl:k=i:=oV;exact G.lF k k<|G.eF' H lab az<|G.i k<|G.b (hJ (k+1) _ _ _ cV (l4.trans l6) ⟨oV,rfl⟩ oV)
 obtain rfl:i=F.length:=oV;refine G.lF F.length F.length<|G.drop PH.mt kV (PH.mt_le _)<|G.lF lab (-1)<|G.hF lab T.length ?_;rcases A3z lab 0 with bn|bg
 ·exact G.hF lab 0<|G.r (.int .i64 0) ⟨rfl,rfl⟩
 refine G.hT lab 0 ?_;obtain⟨l,rfl⟩:∃ l:Nat,lab=(l:Int):=⟨lab.toNat,oV⟩;obtain⟨n,hn⟩:=ok.l2 l rfl;obtain⟨bb,ob,rfl,eb⟩:=Ac.at' (hT.mono ae) (j:=l) (e:=Dz (n,2)) (by simp[hn]);exact G.a bb ob T.length U l 2 oV<|G.f 162 bb (ob+l*2) 1 1<|G.lU none bb (ob+l*2+1) (.int .i64 (2:Nat)) (K8 eb)<|G.nF (2:Nat) 2<|G.r (.int .i64 0) ⟨rfl,rfl⟩
end
section
variable {u:PH}
def Aty {l:List Nat}{i:Nat}(h:i<l.length):l.drop i=l.getD i 0::l.drop (i+1):=by
 rw[A3l h];simp[Ays,Ayr h]
def Acq (l:List Nat):∀ k,val (l.drop k)<=val l:=by
 induction l with
 |nil=>intro k;simp
 |cons a l ih =>
  intro k;cases k with
  |zero=>simp
  |succ k =>
   have:=ih k;simp only[List.drop_succ_cons,val];omega
def Oh {z:Int}(hz:z.natAbs<1000000000000000000):Fn0 prog 191 [.string (mkS (Lib.itoa z))] u fun v _=>v=.tuple #[.int .i64 z,.bool true]:=by
 have E:=I8 hz;refine Fn0.o func191<|G.c call125 (Sx E) ?_;rintro v1 u1 l1 rfl;refine G.c call62 (Np E) ?_;intro v2 u2 l2 k2;obtain⟨b,a,n,c,rfl,N,hi⟩:=k2.opn;obtain⟨rfl,hc⟩:=hi.len;refine G.c call57 (Va (n:=4611686018427387904) oV oV) ?_;intro v3 u3 R k3;obtain⟨b',a',n',c',rfl,W,t⟩:=k3.opn;obtain⟨rfl,X⟩:=t.len;have F:nl z.natAbs<=400:=Bi E;have Q:nl (4611686018427387904:Int).natAbs<=400:=Bi jV;refine G.c call132 (Lc (hi.mono R) t oV oV) ?_;rintro v4 u4 l4 rfl;have hs:sgn (((z.natAbs:Nat):Int)-(((4611686018427387904:Int).natAbs:Nat):Int))<=0:=by
  unfold sgn;have:((4611686018427387904:Int).natAbs:Int)=4611686018427387904:=fV;split
  ·omega
  split<;>omega
 refine G.gF (sgn (((z.natAbs:Nat):Int)-(((4611686018427387904:Int).natAbs:Nat):Int))) 0 ?_;have P:(Aa z.natAbs).length<=400:=F;refine G.s ((Aa z.natAbs).length:Int) 1 ((Aa z.natAbs).length-1:Int)<|G.l (ι:=Int×Nat) (fun i=>[(4,.p 3002 0),(6,iV i.2),(7,iV i.1)]) (fun _=>[(3002,⟨50,[bV b,sV a (Aa z.natAbs).length c]⟩)])
  (fun i u' m'=>-1<=i.1/\i.1<(Aa z.natAbs).length/\i.2=val ((Aa z.natAbs).drop (i.1+1).toNat)/\m'=PH.mt) (fun i=>(i.1+1).toNat) (((Aa z.natAbs).length-1:Int),0) ⟨dV,dV,by
   dsimp only;rw[show (((Aa z.natAbs).length:Int)-1+1).toNat=(Aa z.natAbs).length by omega,List.drop_length];rfl,rfl⟩ ?_
 rintro J ⟨i,s⟩ L u5 m5 T ⟨U,V,g,rfl⟩;simp only at U V g L;have C:=Al z.natAbs;by_cases Y:0<=i
 ·obtain⟨k,rfl⟩:∃ k:Nat,i=(k:Int):=⟨i.toNat,oV⟩;have m:k<(Aa z.natAbs).length:=oV;rw[show ((k:Int)+1).toNat=k+1 by omega]at g;have j:=Aty m;have h:=Acq (Aa z.natAbs) k;rw[C,j]at h;simp only[val]at h;rw[<-g]at h;refine G.hT k 0<|G.mul (s:Int) 1000000000 ((s*1000000000:Nat):Int) kV oV oV oV ?_;obtain⟨K,off,rfl,e⟩:=(hi.mono ((R.trans l4).trans T)).at m;refine G.a K off (Aa z.natAbs).length c k 1 m<|G.lU none K (off+k*1) (.int .i64 ((Aa z.natAbs).getD k 0:Nat)) e ?_;generalize hg:(Aa z.natAbs).getD k 0=d at j h;refine G.p (s*1000000000:Nat) d (s*1000000000+d:Nat)<|G.s k 1 ((k:Int)-1) ?_;exact G.b (L ((k:Int)-1,s*1000000000+d) _ _ _ cV T ⟨dV,dV,by
   dsimp only;rw[show ((k:Int)-1+1).toNat=k by omega,j];simp only[val];rw[<-g];omega,rfl⟩ dV)
 obtain rfl:i = -1:=oV;refine G.hF (-1) 0 ?_;have H:s=z.natAbs:=by rw[g,show ((-1:Int)+1).toNat=0 by decide,A25,C]
 subst H;cases b with
 |true =>
  have O:z<0:=by simpa using N.symm
  exact G.neg ((z.natAbs:Nat):Int) z kV oV oV oV<|G.r (.tuple #[.int .i64 z,.bool true]) ⟨rfl,rfl⟩
 |false =>
  have Z:¬ z<0:=by simpa using N.symm
  have I:((z.natAbs:Nat):Int)=z:=oV;refine G.r (.tuple #[.int .i64 (z.natAbs:Nat),.bool true]) ⟨rfl,by rw[I]⟩
def Avw (z:Int):Ae (z:Rat)=Lib.itoa z:=by
 unfold Ae;simp
def Alr {x:List UInt8×Nat}{t:List UInt8}(E:1<=x.2)(F:x.2<=3)(j:Rl x.2 t):Fn0 prog 122 [Dz x,.string (mkS t)] u fun v _=>v=.bool true:=by
 obtain⟨s,k⟩:=x;simp only at E F j;refine Fn0.o func122<|G.lF k 1<|G.gF k 3 ?_;by_cases h:t = []
 ·exact G.q t [] h<|G.r (.bool true) ⟨rfl,rfl⟩
 refine G.w t [] h ?_;rcases j with e|⟨rfl,J⟩|⟨rfl,z,R,rfl⟩|⟨rfl,q,I,rfl⟩
 ·exact absurd e h
 ·refine G.eT (3:Nat) 3<|G.c call100 (Rz (Ahe J)) ?_;rintro C n m rfl;exact G.r (.bool true) ⟨rfl,rfl⟩
 ·refine G.eF (1:Nat) 3 ?_;have hp:=Sm (u:=u) (q:=(z:Rat)) ⟨I8 (by simpa using (by omega:z.natAbs<1000000000000000000)),by simp;decide +kernel⟩;rw[Avw]at hp;simp only[Rat.num_intCast,Rat.den_intCast]at hp;refine G.c call60 hp ?_;rintro C n m rfl;refine G.eT (1:Nat) 1<|G.y (Lib.itoa ((1:Nat):Int)) [49] jV<|G.c call191 (Oh (z:=z) oV) ?_;rintro O L l2 rfl;refine G.c call191 (Oh (z:=((1:Nat):Int)) oV) ?_;rintro P N K rfl;exact G.hT z (-1000000000)<|G.kT z 1000000000<|G.kT (1:Nat) 12<|G.r (.bool true) ⟨rfl,rfl⟩
 have g:=I.dat;have Q:=g.num;have H:=g.den;refine G.eF (2:Nat) 3<|G.c call60 (Sm g.tx) ?_;rintro C n m rfl;refine G.eF (2:Nat) 1<|G.c call191 (Oh (z:=q.num) oV) ?_;rintro O L l2 rfl;refine G.c call191 (Oh (z:=(q.den:Int)) oV) ?_;rintro P N K rfl;exact G.hT q.num (-1000000000)<|G.kT q.num 1000000000<|G.kT q.den 12<|G.r (.bool true) ⟨rfl,rfl⟩
def Zk {v P:Value}{T:List (List UInt8×Nat)}{R:List Bu}{F:List Am}{lab:Int}{ss:List (List UInt8)}(h:Qa u v P T R F lab ss) :
 Fn0 prog 58 [v,P] u fun r _=>r=.int .i64 0:=by
 have E:=fun (Q:PH) (l:PH.le u Q)=>R9 (h.sch.mono l) (h.ok.mono l);obtain⟨⟨xa,U,xb,xd,xe,xf,rfl,C,Y,W⟩,ok,t,hT⟩:=h;obtain⟨ya,V,rfl⟩:=t.opn;rw[Ayt]at t⊢;have N:=hT.len;have t2:=ok.t2;refine Fn0.o func58<|G.c call45 (E u (PH.le_refl _)) ?_;rintro v1 u1 Z rfl;refine G.nF 0 0<|G.nF ss.length T.length<|G.l (ι:=Nat) (fun i=>[(2,.p 0 0),(19,sV ya ss.length V),(20,iV ss.length),(21,iV i)])
  (fun _=>[(0,⟨30,[sV xa T.length U,sV xb R.length xd,sV xe F.length xf,iV lab]⟩)])
  (fun i Q m'=>i<=ss.length/\m'=PH.mt) (fun i=>ss.length-i) 0 ⟨oV,rfl⟩ ?_
 rintro J i X u2 m2 l2 ⟨hi,rfl⟩;have n:=Z.trans l2;by_cases g:i<ss.length
 ·refine G.lT i ss.length ?_;obtain⟨b,off,rfl,e⟩:=O5 (t.mono n) g;refine G.a b off ss.length V i 1 g<|G.lU none b (off+i*1) (.string (mkS (ss.getD i []))) e ?_;have m:T[i]?=some T[i]:=Ayr oV;have H:=ok.att.kind T[i] (Ay8 oV);have I:=hT.val i _ _ m (Ayr g);rw[show ss[i]=ss.getD i [] by simp[Ays,Ayr g]]at I;obtain⟨K,O,rfl,L⟩:=Ac.at' (C.mono n) (j:=i) (e:=Dz T[i]) (by simp[m]);generalize T[i]=x at m H I L;refine G.a K O T.length U i 2 oV<|G.lU (some 2) K (O+i*2) (Dz x) L<|G.c call122 (Alr H.1 H.2 I) ?_;rintro v3 u3 l3 rfl;exact G.i i<|G.b (X (i+1) _ _ _ cV (l2.trans l3) ⟨oV,rfl⟩ oV)
 obtain rfl:i=ss.length:=oV;exact G.lF ss.length ss.length<|G.r (.int .i64 0) ⟨rfl,rfl⟩
end
section
variable {F:CF}{N b sz:Nat}{es:List Value}{v:Value}
def Axr (u m:PH)(v:Value)(F:CF)(N:Nat):Prop :=
 ∃ b a n c b' a' n' c' g1 g2 o1 o2,v=.agg #[.bool b,.slice a n c,.bool b',.slice a' n' c',.map (some g1),.map (some g2)]/\QP u (.agg #[.bool b,.slice a n c,.bool b',.slice a' n' c']) F.c/\(u g1=some o1\/m g1=some o1)/\(u g2=some o2\/m g2=some o2)/\Dy Aq KT u o1 F.s N/\Dy prV KO u o2 F.t N
def J8.i {u m:PH}(h:J8 m u v F N):Axr u m v F N:=by
 obtain⟨b,a,n,c,b',g,I,j,g1,g2,J,K,e,t,C,rfl,E,H⟩:=h;exact⟨b,a,n,c,b',g,I,j,g1,g2,J,K,e,t,.inr (by rw[Ad _ _ C,Ab]),.inr (Ab _ _ _),E,H⟩
section
variable {P:Program} [A5 P] {fn:Func} {Post:By} {st:List KI×S} {u m:PH}
def G.appendMV (e:TypeId)(sz g:Nat)(z:Value)(m0:PH)(es xs:List Value)(v:Value)(a:Option Addr)(n c:Nat)(h:Aj P (adv P st)=.app (some (e,sz,g,z)) true [v,.slice a n c])(U:z.cells.toList.all Az=true)(I:z.cells.size=sz)(E:0<sz)
 (j:Af m0 m v e sz es) (C:n=xs.length) (T:xs≠[]->∃ b off,a=some ⟨b,off,none⟩/\Fz m b off sz xs) (R:Ba sz xs) (Q:(es.length+xs.length)*g<=140737488355328) (t:es.length+xs.length<=9223372036854775807)
 (k:∀ K J,Af m0 J K e sz (es++xs)->G P fn Post (nx (adv P st) K) u J):G P fn Post st u m:=by
 cases xs with
 |nil =>
  simp only[A1t]at C;subst C;obtain⟨L,O,rfl⟩:=j.shape;refine G.append0 e sz g z L a es.length O c h j.cap ?_;exact k _ _ (by rw[Azl];exact j)
 |cons x xs =>
  obtain⟨b,off,rfl,H⟩:=T mV;subst C;exact G.appendM e sz g z m0 es (x::xs) v b off _ c h U I E j H R rfl mV Q t k
end
def Af.els {m0 m:PH}{t:TypeId}{b n c:Nat}(h:Af m0 m (.slice (some ⟨b,0,none⟩) n c) t sz es):Fz m b 0 sz es:=fun j e g=>h.el g
def Fz.drop {m:PH}(h:Fz m b 0 sz es)(k:Nat):Fz m b (0+k*sz) sz (es.drop k):=fun j e g=>by
 have:=h (k+j) e (by rw[A2z]at g;exact g);rw[Azt,A0h]at this;rw[A0h];exact this
def Ali (l:List (Par×Rat)):Ba 3 (l.map As):=fun e g=>by
 obtain⟨p,_,rfl⟩:=Ayx.1 g;exact H6 p _ mV
def Amz (l:List ((Par×Par)×Rat)):Ba 5 (l.map D7):=fun e g=>by
 obtain⟨p,_,rfl⟩:=Ayx.1 g;exact Ai0 p _ mV
def Rq {q:Rat}:q.num=0↔q=0:=A4s
def Amf {u m:PH}(h:Axr u m v F N)(sF:CFS F)(hN:N<=1000000) :
 FnK prog 74 [v] u m fun r u'=>Au7 u' r F N:=by
 obtain⟨b,a,n,c,b',a',n',c',g1,g2,o1,o2,rfl,hF,bh,bi,s1,s2⟩:=h;obtain⟨l1,⟨a3,H,rfl,av,al⟩,bk,an,c2⟩:=s1.at;obtain⟨l2,⟨a4,E,rfl,aw,am⟩,bl,ao,af⟩:=s2.at;have ba:(l1.map (·.1)).Nodup:=Fo.nodup (enc:=Aq) ⟨a3,H,rfl,av,al⟩;have bb:(l2.map (·.1)).Nodup:=Fo.nodup (enc:=prV) ⟨a4,E,rfl,aw,am⟩;have ap:∀ {u' m':PH},PH.le u u'->PH.le m m'->u' g1=some (.map a3 H)\/m' g1=some (.map a3 H):=fun a b=>bh.elim (fun e=>.inl (a _ _ e)) (fun e=>.inr (b _ _ e));have aq:∀ {u' m':PH},PH.le u u'->PH.le m m'->u' g2=some (.map a4 E)\/m' g2=some (.map a4 E):=fun a b=>bi.elim (fun e=>.inl (a _ _ e)) (fun e=>.inr (b _ _ e));refine FnK.of func74 kV kV<|G.c call23 (Ln hF (SB.tx sF.c)) ?_;rintro v1 u1 be rfl;refine G.nF 0 0<|G.mapRange g1 a3 H 63 52 kV (ap be (fun _ _ h=>h)) ?_;intro it bj c1;have ac:∀ o,PH.le m (m.upd it o):=fun o=>Kx o bj;refine G.l (ι:=List MapEntry×List (Par×Value)×List (Par×Rat)×(Option Addr×Nat)) (fun i=>[(1,.p 0 0),(2,.p 1 0),(6,.p 2002 0),(33,.v (.pointer (some ⟨it,0,none⟩)))])
  (fun i=>[(0,⟨145,[bV b,sV a n c,bV b',sV a' n' c',.v (.map (some g1)),.v (.map (some g2))]⟩),(1,⟨36,[tV [],sV none 0 0,sV none 0 0]⟩),(2002,⟨36,[tV (Ae F.c),sV i.2.2.2.1 i.2.2.1.length i.2.2.2.2,sV none 0 0]⟩)])
  (fun i u' m'=>Gc Aq a3 l1 i.1 i.2.1/\Ra Bf F.s (i.2.1.map (·.1)) i.2.2.1/\i.2.2.1.length<=i.2.1.length/\Af (m.upd it (.mapIter (some g1) H (Aw i.1) H)) m' (.slice i.2.2.2.1 i.2.2.1.length i.2.2.2.2) 65 3 (i.2.2.1.map As))
  (fun i=>l1.length-i.2.1.length) ([],[],[],(none,0))
  ⟨Gc.nil _ _,Ra.nil,Ay2 _,Af.nil _ _ _⟩ ?_
 rintro J ⟨D,L,S,⟨V,R⟩⟩ hJ u2 m2 a2 ⟨hS,hI,ar,hA⟩;simp only at hS hI ar hA hJ;have Q:=be.trans a2;have au:m2 it=some (.mapIter (some g1) H (Aw D) H):=hA.see (Ab _ _ _);have ad:PH.le m m2:=fun g o hg=>hA.see (ac _ g o hg);refine G.mapNextL Bx.inj it g1 a3 H l1 D L kV kV au (ap Q ad) al av ba hS ?done1 ?next1
 case next1 =>
  rintro⟨k,xv⟩ e hp hkn he hek hev hS';simp only at hkn hek hev;have hx:=(bk _ hp).1;simp only at hx;obtain⟨yb,ya,yn,yc,bw,bz,bx,rfl,_⟩:=hx.opn;have W:=hA.base (b:=it) (o:=.mapIter (some g1) H (Aw (D++[e])) H) (by rw[Ab];simp);rw[Cw]at W;have ae:PH.le m (m2.upd it (.mapIter (some g1) H (Aw (D++[e])) H)):=fun g o hg=>W.see (ac _ g o hg);refine G.mapEntry it g1 a3 H D e kV (Ab _ _ _) (ap Q ae) al he ?_;rw[hek,hev];have a5:=hS'.len;simp only[Ay3,A0q,A1t]at a5;have ak:=sF.s k;refine G.c call86 (Xt (hx.mono Q) (by have:=(SB.sz ak).1;omega)) ?_;rintro v3 u3 l3 rfl;by_cases h0:F.s k=0
  ·rw[decide_eq_true (Rq.2 h0)];refine G.b (hJ (D++[e],L++[(k,_)],S,(V,R)) _ _ _ cV (a2.trans l3) ⟨hS',by dsimp only;rw[Aza];exact hI.skip h0,by dsimp only;simp;omega,W⟩ (by have:=hS'.len;simp at this;dsimp only;simp;omega))
  rw[decide_eq_false (fun e=>h0 (Rq.1 e))];refine G.c call23 (Ln (hx.mono (Q.trans l3)) (SB.tx ak)) ?_;rintro v4 u4 l4 rfl;refine G.nF 0 0 ?_;have I:=W;generalize bm:m2.upd it (.mapIter (some g1) H (Aw (D++[e])) H)=m3 at I ae;have b5:k∉L.map (·.1):=hkn;refine G.l (ι:=Nat) (fun n=>[(1,.p 0 0),(2,.p 1 0),(6,.p 2002 0),(7,.p 7003 0),(11,.p 12003 0),(12,iV n),(33,.v (.pointer (some ⟨it,0,none⟩)))])
   (fun _=>[(0,⟨145,[bV b,sV a n c,bV b',sV a' n' c',.v (.map (some g1)),.v (.map (some g2))]⟩),(1,⟨36,[tV [],sV none 0 0,sV none 0 0]⟩),(2002,⟨36,[tV (Ae F.c),sV V S.length R,sV none 0 0]⟩),(7003,⟨63,[iV k.1,tV k.2]⟩),(12003,⟨65,[iV k.1,tV k.2,tV (Ae (F.s k))]⟩)])
   (fun n u' m'=>n<=S.length/\(∀ j x,j<n->S[j]?=some x->Bf x.1 k<0)/\m'=m3) (fun n=>S.length-n) 0 ⟨oV,fun j x hj=>oV,rfl⟩ ?_
  rintro J2 C az u5 m5 l5 ⟨af,a0,rfl⟩;have br:=((Q.trans l3).trans l4).trans l5;refine G.joinF (ι:=Unit) (fun st=>Acz prog st [.bool false]) (fun _=>[(1,.p 0 0),(2,.p 1 0),(6,.p 2002 0),(11,.p 12003 0),(12,iV C),(33,.v (.pointer (some ⟨it,0,none⟩)))])
   (fun _=>[(0,⟨145,[bV b,sV a n c,bV b',sV a' n' c',.v (.map (some g1)),.v (.map (some g2))]⟩),(1,⟨36,[tV [],sV none 0 0,sV none 0 0]⟩),(2002,⟨36,[tV (Ae F.c),sV V S.length R,sV none 0 0]⟩),(12003,⟨65,[iV k.1,tV k.2,tV (Ae (F.s k))]⟩)])
   (fun _ u' m'=>m'=m5/\∀ x,S[C]?=some x->¬ Bf x.1 k<0) (fun _=>kV) kV ?tail ?way
  case way =>
   intro U;by_cases aa:C<S.length
   ·refine G.lT C S.length ?_;obtain⟨x,a6⟩:∃ x,S[C]?=some x:=⟨_,Ayr aa⟩;obtain⟨gs,cs,T⟩:=I.ptr (fun e=>by
     have:S.length=0:=by simpa using congrArg List.length e
     omega)
    simp only[Value.slice.injEq]at T;obtain⟨rfl,_,rfl⟩:=T;refine G.a gs 0 S.length R C 3 aa<|G.f 65 gs (0+C*3) 0 0 ?_;have b3:ElP m5 gs (0+C*3) (As x):=I.el (by rw[Ayy,a6];rfl);refine G.lM (some 2) gs (0+C*3+0) (.agg #[.int .i64 x.1.1,.string (mkS x.1.2)]) (b3.sub (k:=0) fun i y K=>by
     match i,K with
     |0,K=>simpa[As,Value.cells] using K
     |1,K=>simpa[As,Value.cells] using K
     |i+2,K=>simp[Value.cells]at K) ?_
    by_cases hc:Bf x.1 k<0
    ·refine G.c call79 (Ff x.1 k true (decide_eq_true hc)) ?_;rintro v6 u6 l6 rfl;refine G.i C ?_;exact G.b (az (C+1) _ _ _ cV (l5.trans l6) ⟨oV,fun j y hj K=>by
      rcases (by omega:j<C\/j=C) with e|rfl
      ·exact a0 j y e K
      rw[a6]at K;cases K;exact hc,rfl⟩ oV)
    refine G.c call79 (Ff x.1 k false (decide_eq_false hc)) ?_;rintro v6 u6 l6 rfl;exact U () _ _ _ kV cV l6 ⟨rfl,fun y K=>by rw[a6]at K;cases K;exact hc⟩
   refine G.lF C S.length ?_;exact U () _ _ _ kV cV (PH.le_refl _) ⟨rfl,fun y K=>by rw[Azo oV]at K;cases K⟩
  rintro _ u6 m6 l6 ⟨rfl,a7⟩;have ai:=I.cap;refine G.sliceTo 3 V S.length R C kV oV<|G.sliceFromG V S.length R C 3 kV af ai<|G.buildM 65 3 40 (.agg #[.int .i64 0,.string (mkS []),.string (mkS [])]) [.agg #[.int .i64 k.1,.string (mkS k.2),.string (mkS (Ae (F.s k)))]] kV (H6 (k,F.s k)) rfl oV mV mV ?_;intro gt m7 ag;refine G.appendMV 65 3 40 (.agg #[.int .i64 0,.string (mkS []),.string (mkS [])]) m6 [.agg #[.int .i64 k.1,.string (mkS k.2),.string (mkS (Ae (F.s k)))]] ((S.drop C).map As) (.slice (some ⟨gt,0,none⟩) 1 1) (if R=C then V else V.map (·.add (C*3))) (S.length-C) (R-C) kV rfl rfl oV ag mV (fun b6=>?_) (Ali _) gV gV ?_
  ·have aa:C<S.length:=by
    rcases Az8 C S.length with h|h
    ·exact h
    exact absurd (by rw[Az1 h];rfl) b6
   obtain⟨gs,cs,T⟩:=I.ptr (fun e=>by
    have:S.length=0:=by simpa using congrArg List.length e
    omega)
   simp only[Value.slice.injEq]at T;obtain⟨rfl,_,rfl⟩:=T;refine⟨gs,0+C*3,?_,?_⟩
   ·rw[if_neg oV];simp[D5]
   have:=I.els.drop C;rw[<-List.map_drop]at this;exact fun j e hj i y K=>by
    obtain⟨cs,t,fr,q1,q2⟩:=this j e hj i y K;exact⟨cs,t,fr,ag.le _ _ q1,q2⟩
  intro v8 m8 Y;obtain⟨a8,c8,rfl⟩:=Y.ptr mV;have ay:=I.take (k:=C) (by rw[Ayt];exact af);obtain⟨mx,bo,bn,aj⟩:=At.swap (x:=⟨.slice V C R,65,3,(S.map As).take C⟩) (y:=⟨.slice (some ⟨a8,0,none⟩) _ c8,65,3,_⟩) Y ay;refine G.appendM 65 3 40 (.agg #[.int .i64 0,.string (mkS []),.string (mkS [])]) mx ((S.map As).take C) _ (.slice V C R) a8 0 _ c8 kV rfl rfl oV bn Y.els Y.1 rfl mV gV gV ?_;intro v9 m9 ax;obtain⟨mz,an,ao⟩:=aj ⟨v9,65,3,_⟩ m9 ax;have b4:(S.map As).take C++([.agg #[.int .i64 k.1,.string (mkS k.2),.string (mkS (Ae (F.s k)))]]++(S.drop C).map As)=(S.take C++[(k,F.s k)]++S.drop C).map As:=by
   rw[Aza,Aza,A4l,Azm];rfl
  have a1:Af (m.upd it (.mapIter (some g1) H (Aw (D++[e])) H)) mz v9 65 3 ((S.take C++[(k,F.s k)]++S.drop C).map As):=by rw[<-b4];exact ao
  obtain⟨a9,c9,rfl⟩:=a1.shape;rw[Ayt]at a1⊢;have b0:(S.take C++[(k,F.s k)]++S.drop C).length=S.length+1:=gV;refine G.drop mz kV (fun g o hg=>Af.le an g o hg)<|G.b (hJ (D++[e],L++[(k,_)],S.take C++[(k,F.s k)]++S.drop C,(a9,c9)) _ _ _ cV ((((a2.trans l3).trans l4).trans l5).trans l6) ⟨hS',?_,by dsimp only;rw[b0];simp;omega,a1⟩ (by have:=hS'.len;simp at this;dsimp only;simp;omega));dsimp only;rw[Aza];exact hI.put Dl h0 b5 a0 a7
 case done1 =>
 intro ab;have ah:Can Bf F.s S:=hI.can fun k hk=>an k fun hm=>hk (by
  obtain⟨p,hp,rfl⟩:=Ayx.1 hm;exact Ayx.2 ⟨p,ab p hp,rfl⟩)
 have b8:S.length<=N:=by have:=hS.len;omega
 refine G.give _ _ _ kV hA (fun g=>?_) ?_
 ·cases hg:m g with
  |none=>exact .inl hg
  |some o=>exact .inr (by rw[ac _ g o hg];simp)
 intro u3 l3 hX;refine G.drop m kV (ac _) ?_;have bf:=Q.trans l3;clear hJ hA hI ar au ad hS ab
 revert S V R
 intro X xa xc ah b8 hX;refine G.mapRange g2 a4 E 217 52 kV (aq bf (fun _ _ h=>h)) ?_;intro O b9 c0;have Z:∀ o,PH.le m (m.upd O o):=fun o=>Kx o b9;refine G.l (ι:=List MapEntry×List ((Par×Par)×Value)×List ((Par×Par)×Rat)×(Option Addr×Nat)) (fun i=>[(1,.p 0 0),(2,.p 1 0),(6,.p 2002 0),(85,.v (.pointer (some ⟨O,0,none⟩)))])
  (fun i=>[(0,⟨145,[bV b,sV a n c,bV b',sV a' n' c',.v (.map (some g1)),.v (.map (some g2))]⟩),(1,⟨36,[tV [],sV none 0 0,sV none 0 0]⟩),(2002,⟨36,[tV (Ae F.c),sV xa X.length xc,sV i.2.2.2.1 i.2.2.1.length i.2.2.2.2]⟩)])
  (fun i u' m'=>Gc prV a4 l2 i.1 i.2.1/\Ra Ni F.t (i.2.1.map (·.1)) i.2.2.1/\i.2.2.1.length<=i.2.1.length/\Af (m.upd O (.mapIter (some g2) E (Aw i.1) E)) m' (.slice i.2.2.2.1 i.2.2.1.length i.2.2.2.2) 177 5 (i.2.2.1.map D7))
  (fun i=>l2.length-i.2.1.length) ([],[],[],(none,0))
  ⟨Gc.nil _ _,Ra.nil,Ay2 _,Af.nil _ _ _⟩ ?_
 rintro J ⟨D,L,S,⟨V,R⟩⟩ hJ u2 m2 a2 ⟨hS,hI,ar,hA⟩;simp only at hS hI ar hA hJ;have Q:=bf.trans a2;have au:m2 O=some (.mapIter (some g2) E (Aw D) E):=hA.see (Ab _ _ _);have ad:PH.le m m2:=fun g o hg=>hA.see (Z _ g o hg);refine G.mapNextL Ip.inj O g2 a4 E l2 D L kV kV au (aq Q ad) am aw bb hS ?done2 ?next2
 case next2 =>
  rintro⟨k,xv⟩ e hp hkn he hek hev hS';simp only at hkn hek hev;have hx:=(bl _ hp).1;simp only at hx;obtain⟨yb,ya,yn,yc,bw,bz,bx,rfl,_⟩:=hx.opn;have W:=hA.base (b:=O) (o:=.mapIter (some g2) E (Aw (D++[e])) E) (by rw[Ab];simp);rw[Cw]at W;have ae:PH.le m (m2.upd O (.mapIter (some g2) E (Aw (D++[e])) E)):=fun g o hg=>W.see (Z _ g o hg);refine G.mapEntry O g2 a4 E D e kV (Ab _ _ _) (aq Q ae) am he ?_;rw[hek,hev];have a5:=hS'.len;simp only[Ay3,A0q,A1t]at a5;have ak:=sF.t k;refine G.c call86 (Xt (hx.mono Q) (by have:=(SB.sz ak).1;omega)) ?_;rintro v3 u3 l3 rfl;by_cases h0:F.t k=0
  ·rw[decide_eq_true (Rq.2 h0)];refine G.b (hJ (D++[e],L++[(k,_)],S,(V,R)) _ _ _ cV (a2.trans l3) ⟨hS',by dsimp only;rw[Aza];exact hI.skip h0,by dsimp only;simp;omega,W⟩ (by have:=hS'.len;simp at this;dsimp only;simp;omega))
  rw[decide_eq_false (fun e=>h0 (Rq.1 e))];refine G.c call23 (Ln (hx.mono (Q.trans l3)) (SB.tx ak)) ?_;rintro v4 u4 l4 rfl;refine G.nF 0 0<|G.pub 19003 217 [.int .i64 k.1.1,.string (mkS k.1.2),.int .i64 k.2.1,.string (mkS k.2.2)] kV kV ?_;intro bq c3 b7;have b1:(m.upd O (.mapIter (some g2) E (Aw (D++[e])) E)) bq=none:=by
   cases hh:(m.upd O (.mapIter (some g2) E (Aw (D++[e])) E)) bq with
   |none=>rfl
   |some o=>rw[W.see hh]at b7;cases b7
  have I:=W.fresh (o:=.cells [Value.int .i64 k.1.1,.string (mkS k.1.2),.int .i64 k.2.1,.string (mkS k.2.2)].toArray 217 (0,0)) b7;obtain⟨bt,bu⟩:=Air (m:=(m2.upd O (.mapIter (some g2) E (Aw (D++[e])) E)).upd bq (.cells [Value.int .i64 k.1.1,.string (mkS k.1.2),.int .i64 k.2.1,.string (mkS k.2.2)].toArray 217 (0,0))) (Ab _ _ _);refine G.addrA 217 63 2 bq 0 0 2 kV kV kV kV oV<|G.lM (some 2) bq (0+0*2) (.agg #[.int .i64 k.1.1,.string (mkS k.1.2)]) bt<|G.addrA 217 63 2 bq 0 1 2 kV kV kV kV oV<|G.lM (some 2) bq (0+1*2) (.agg #[.int .i64 k.2.1,.string (mkS k.2.2)]) bu ?_;generalize bm:(m2.upd O (.mapIter (some g2) E (Aw (D++[e])) E)).upd bq (.cells [Value.int .i64 k.1.1,.string (mkS k.1.2),.int .i64 k.2.1,.string (mkS k.2.2)].toArray 217 (0,0))=m3 at I;have b5:k∉L.map (·.1):=hkn;refine G.l (ι:=Nat) (fun n=>[(1,.p 0 0),(2,.p 1 0),(6,.p 2002 0),(17,.p 24006 0),(18,iV n),(85,.v (.pointer (some ⟨O,0,none⟩)))])
   (fun _=>[(0,⟨145,[bV b,sV a n c,bV b',sV a' n' c',.v (.map (some g1)),.v (.map (some g2))]⟩),(1,⟨36,[tV [],sV none 0 0,sV none 0 0]⟩),(2002,⟨36,[tV (Ae F.c),sV xa X.length xc,sV V S.length R]⟩),(24006,⟨177,[iV k.1.1,tV k.1.2,iV k.2.1,tV k.2.2,tV (Ae (F.t k))]⟩)])
   (fun n u' m'=>n<=S.length/\(∀ j x,j<n->S[j]?=some x->Ni x.1 k<0)/\m'=m3) (fun n=>S.length-n) 0 ⟨oV,fun j x hj=>oV,rfl⟩ ?_
  rintro J2 C az u5 m5 l5 ⟨af,a0,rfl⟩;have br:=((Q.trans l3).trans l4).trans l5;refine G.joinF (ι:=Unit) (fun st=>Acz prog st [.bool false]) (fun _=>[(1,.p 0 0),(2,.p 1 0),(6,.p 2002 0),(17,.p 24006 0),(18,iV C),(85,.v (.pointer (some ⟨O,0,none⟩)))])
   (fun _=>[(0,⟨145,[bV b,sV a n c,bV b',sV a' n' c',.v (.map (some g1)),.v (.map (some g2))]⟩),(1,⟨36,[tV [],sV none 0 0,sV none 0 0]⟩),(2002,⟨36,[tV (Ae F.c),sV xa X.length xc,sV V S.length R]⟩),(24006,⟨177,[iV k.1.1,tV k.1.2,iV k.2.1,tV k.2.2,tV (Ae (F.t k))]⟩)])
   (fun _ u' m'=>m'=m5/\∀ x,S[C]?=some x->¬ Ni x.1 k<0) (fun _=>kV) kV ?tail2 ?way2
  case way2 =>
   intro U;by_cases aa:C<S.length
   ·refine G.lT C S.length ?_;obtain⟨x,a6⟩:∃ x,S[C]?=some x:=⟨_,Ayr aa⟩;obtain⟨gs,cs,T⟩:=I.ptr (fun e=>by
     have:S.length=0:=by simpa using congrArg List.length e
     omega)
    simp only[Value.slice.injEq]at T;obtain⟨rfl,_,rfl⟩:=T;refine G.a gs 0 S.length R C 5 aa ?_;have b3:ElP m5 gs (0+C*5) (D7 x):=I.el (by rw[Ayy,a6];rfl);refine G.lM (some 5) gs (0+C*5) (D7 x) b3 ?_;by_cases hc:Ni x.1 k<0
    ·refine G.c call102 (Po x (k,F.t k) true (decide_eq_true hc)) ?_;rintro v6 u6 l6 rfl;refine G.i C ?_;exact G.b (az (C+1) _ _ _ cV (l5.trans l6) ⟨oV,fun j y hj K=>by
      rcases (by omega:j<C\/j=C) with e|rfl
      ·exact a0 j y e K
      rw[a6]at K;cases K;exact hc,rfl⟩ oV)
    refine G.c call102 (Po x (k,F.t k) false (decide_eq_false hc)) ?_;rintro v6 u6 l6 rfl;exact U () _ _ _ kV cV l6 ⟨rfl,fun y K=>by rw[a6]at K;cases K;exact hc⟩
   refine G.lF C S.length ?_;exact U () _ _ _ kV cV (PH.le_refl _) ⟨rfl,fun y K=>by rw[Azo oV]at K;cases K⟩
  rintro _ u6 m6 l6 ⟨rfl,a7⟩;have ai:=I.cap;refine G.sliceTo 5 V S.length R C kV oV<|G.sliceFromG V S.length R C 5 kV af ai<|G.buildM 177 5 64 (.agg #[.int .i64 0,.string (mkS []),.int .i64 0,.string (mkS []),.string (mkS [])]) [.agg #[.int .i64 k.1.1,.string (mkS k.1.2),.int .i64 k.2.1,.string (mkS k.2.2),.string (mkS (Ae (F.t k)))]] kV (Ai0 (k,F.t k)) rfl oV mV mV ?_;intro gt m7 ag;refine G.appendMV 177 5 64 (.agg #[.int .i64 0,.string (mkS []),.int .i64 0,.string (mkS []),.string (mkS [])]) m6 [.agg #[.int .i64 k.1.1,.string (mkS k.1.2),.int .i64 k.2.1,.string (mkS k.2.2),.string (mkS (Ae (F.t k)))]] ((S.drop C).map D7) (.slice (some ⟨gt,0,none⟩) 1 1) (if R=C then V else V.map (·.add (C*5))) (S.length-C) (R-C) kV rfl rfl oV ag mV (fun b6=>?_) (Amz _) gV gV ?_
  ·have aa:C<S.length:=by
    rcases Az8 C S.length with h|h
    ·exact h
    exact absurd (by rw[Az1 h];rfl) b6
   obtain⟨gs,cs,T⟩:=I.ptr (fun e=>by
    have:S.length=0:=by simpa using congrArg List.length e
    omega)
   simp only[Value.slice.injEq]at T;obtain⟨rfl,_,rfl⟩:=T;refine⟨gs,0+C*5,?_,?_⟩
   ·rw[if_neg oV];simp[D5]
   have:=I.els.drop C;rw[<-List.map_drop]at this;exact fun j e hj i y K=>by
    obtain⟨cs,t,fr,q1,q2⟩:=this j e hj i y K;exact⟨cs,t,fr,ag.le _ _ q1,q2⟩
  intro v8 m8 Y;obtain⟨a8,c8,rfl⟩:=Y.ptr mV;have ay:=I.take (k:=C) (by rw[Ayt];exact af);obtain⟨mx,bo,bd,aj⟩:=At.swap (x:=⟨.slice V C R,177,5,(S.map D7).take C⟩) (y:=⟨.slice (some ⟨a8,0,none⟩) _ c8,177,5,_⟩) Y ay;refine G.appendM 177 5 64 (.agg #[.int .i64 0,.string (mkS []),.int .i64 0,.string (mkS []),.string (mkS [])]) mx ((S.map D7).take C) _ (.slice V C R) a8 0 _ c8 kV rfl rfl oV bd Y.els Y.1 rfl mV gV gV ?_;intro v9 m9 ax;obtain⟨mz,an,ao⟩:=aj ⟨v9,177,5,_⟩ m9 ax;have b4:(S.map D7).take C++([.agg #[.int .i64 k.1.1,.string (mkS k.1.2),.int .i64 k.2.1,.string (mkS k.2.2),.string (mkS (Ae (F.t k)))]]++(S.drop C).map D7)=(S.take C++[(k,F.t k)]++S.drop C).map D7:=by
   rw[Aza,Aza,A4l,Azm];rfl
  have bp:Af ((m.upd O (.mapIter (some g2) E (Aw (D++[e])) E)).upd bq (.cells [Value.int .i64 k.1.1,.string (mkS k.1.2),.int .i64 k.2.1,.string (mkS k.2.2)].toArray 217 (0,0))) mz v9 177 5 ((S.take C++[(k,F.t k)]++S.drop C).map D7):=by rw[<-b4];exact ao
  have a1:=bp.del (l:=bq) (by rw[Ab];simp);rw[Q5 b1]at a1;obtain⟨a9,c9,rfl⟩:=a1.shape;rw[Ayt]at a1⊢;have b0:(S.take C++[(k,F.t k)]++S.drop C).length=S.length+1:=gV;refine G.drop (mz.del bq) kV (fun g o hg=>Af.le an g o (Ape _ _ g o hg))<|G.b (hJ (D++[e],L++[(k,_)],S.take C++[(k,F.t k)]++S.drop C,(a9,c9)) _ _ _ cV ((((a2.trans l3).trans l4).trans l5).trans l6) ⟨hS',?_,by dsimp only;rw[b0];simp;omega,a1⟩ (by have:=hS'.len;simp at this;dsimp only;simp;omega));dsimp only;rw[Aza];exact hI.put Avj h0 b5 a0 a7
 case done2 =>
 intro ab;have b2:Can Ni F.t S:=hI.can fun k hk=>ao k fun hm=>hk (by
  obtain⟨p,hp,rfl⟩:=Ayx.1 hm;exact Ayx.2 ⟨p,ab p hp,rfl⟩)
 have bg:S.length<=N:=by have:=hS.len;omega
 refine G.give _ _ _ kV hA (fun g=>?_) ?_
 ·cases hg:m g with
  |none=>exact .inl hg
  |some o=>exact .inr (by rw[Z _ g o hg];simp)
 intro u4 l4 hY;exact G.drop m kV (Z _)<|G.r (.tuple #[.agg #[.string (mkS (Ae F.c)),.slice xa X.length xc,.slice V S.length R],.int .i64 0]) ⟨rfl,_,rfl,X,S,xa,xc,V,R,rfl,hX.mono (a2.trans l4),hY,ah,b2,b8,bg⟩
end
section
variable {F:List Am}{a i:Nat}{f:Am}{z:Int}
def Ans (F:List Am)(a:Nat)(z:Int)(i:Nat)(fe:Int)(dr ho:Bool):Prop :=
 (∃ k f,k<i/\F[k]?=some f/\f.1=a/\fe=(k:Int)/\dr=decide (f.2.2=1)/\ho=decide (f.2.1=2))\/((∀ k f,k<i->F[k]?=some f->f.1≠a)/\fe=z/\dr=true/\ho=false)
def Acx (q:Rat):q+0=q:=by grind
def Ama {u:Int}{t E:Bool}(h:Ans F a z i u t E)(I:F[i]?=some f)(n:f.1≠a):Ans F a z (i+1) u t E:=by
 rcases h with ⟨k,g,C,j,H⟩|⟨C,j⟩
 ·exact .inl ⟨k,g,oV,j,H⟩
 refine .inr ⟨fun k g J m=>?_,j⟩;rcases (by omega:k<i\/k=i) with e|rfl
 ·exact C k g e m
 rw[I]at m;cases m;exact n
def Ao5 (g:F[i]?=some f)(e:f.1=a):Ans F a z (i+1) (i:Int) (decide (f.2.2=1)) (decide (f.2.1=2)) :=
 .inl ⟨i,f,oV,g,e,rfl,rfl,rfl⟩
def Aqy {T:List (List UInt8×Nat)}{F:List Am}{lab:Int}{a:Nat}{z:Int}{x:List UInt8×Nat}{t:List UInt8}{m:Int}{Q H:Bool}(hF:C5 T F lab)(Z:-1<=lab)(l2:∀ l:Nat,lab=(l:Int)->∃ n,T[l]?=some (n,2))
 (N:T[a]?=some x) (L:Rl x.2 t) (V:((a:Int)=lab/\z = -1)\/((a:Int)≠lab/\z = -2)) (h:Ans F a z F.length m Q H) :
 (m = -2/\Gd F lab a t=some none)\/(m≠-2/\((H=true/\Gd F lab a t=some (some ((m,t),1)))\/(H=false/\t = []/\Gd F lab a t=(if Q then none else some none))\/(H=false/\t≠[]/\SmW (Fa t)/\Ae (Fa t)=t/\Gd F lab a t=some (some ((m,[]),Fa t))))):=by
 rcases h with ⟨k,f,X,u,rfl,rfl,rfl,rfl⟩|⟨K,rfl,rfl,rfl⟩
 ·obtain⟨n,Y,hT,j,J⟩:=hF.ok f (Ay9 u);rw[Zx hF.nodup u J];rw[hT]at N;cases N;simp only at L;refine .inr ⟨oV,?_⟩;unfold Jt;rcases j with ⟨I,rfl,W⟩|⟨I,rfl,W⟩
  ·rw[I,if_neg oV];by_cases g:t = []
   ·refine .inr (.inl ⟨rfl,g,?_⟩);rw[if_pos g];by_cases E:f.2.2=1
    ·rw[if_pos E,if_pos (decide_eq_true E)]
    rw[if_neg E,if_neg (by rw[decide_eq_true_eq];exact E)]
   obtain⟨O,P⟩:=Jq L g;exact .inr (.inr ⟨rfl,g,O,P,by rw[if_neg g]⟩)
  exact .inl ⟨by rw[I];rfl,by rw[if_pos I]⟩
 rcases V with ⟨C,rfl⟩|⟨C,rfl⟩
 ·refine .inr ⟨oV,.inr ?_⟩;obtain⟨n,R⟩:=l2 a C.symm;rw[N]at R;cases R;have e:Gd F lab a t=Pw t:=by unfold Gd;rw[if_pos C]
  rw[e];unfold Pw;by_cases g:t = []
  ·exact .inl ⟨rfl,g,by rw[if_pos g];rfl⟩
  obtain⟨O,P⟩:=Jq L g;exact .inr ⟨rfl,g,O,P,by rw[if_neg g]⟩
 rcases F8 (F:=F) (w:=t) C with e|⟨i,f,u,U,_⟩
 ·exact .inl ⟨rfl,e⟩
 exact absurd U (K i f (Ayu.1 u).1 u)
def Ajz {g1 g2:Nat}(g:g1≠g2)(m n h j:Obj):(((PH.mt.upd g1 m).upd g2 n).upd g1 h).upd g2 j=(PH.mt.upd g1 h).upd g2 j:=by
 rw[Ic _ _ _ (fun e=>g e.symm),Cw,Cw]
def Agl {u:PH}{v:Value}{T:List (List UInt8×Nat)}{R:List Bu}{lab:Int}{x:List UInt8×Nat}{t:List UInt8}(h:G8 u v T R F lab)(ok:Bt u T R F lab)(hx:T[a]?=some x)(hv:Rl x.2 t) :
 Ag prog 147 [v,.int .i64 a,.string (mkS t)] u PH.mt fun v' u' m'=>J8 m' u' v' (Gd F lab a t).cf 1:=by
 have af:=ok.f2;have l1:=ok.l1;have t2:=ok.t2;have ae:a<T.length:=(Ayu.1 hx).1;obtain⟨pa,ca,pb,cb,pe,ce,rfl,hT,hR,hF⟩:=h;refine Ag.o func147<|G.joinF (ι:=Int) (fun st=>Acz prog st [.bool false]) (fun z=>[(1,iV a),(2,tV t),(3,.p 0 0),(6,.p 1 0),(7,iV z),(8,bV true),(9,bV false)])
  (fun _=>[(0,⟨30,[sV pa T.length ca,sV pb R.length cb,sV pe F.length ce,iV lab]⟩),(1,⟨145,[bV false,sV none 0 0,bV false,sV none 0 0,.v (.map none),.v (.map none)]⟩)])
  (fun z u' m'=>u'=u/\m'=PH.mt/\(((a:Int)=lab/\z = -1)\/((a:Int)≠lab/\z = -2))) (fun _=>kV) kV ?tail ?way
 case way =>
  intro N;by_cases hl:(a:Int)=lab
  ·refine G.eT' a lab hl<|G.pastI ?_;exact N (-1) _ _ _ kV cV (PH.le_refl _) ⟨rfl,rfl,.inl ⟨hl,rfl⟩⟩
  refine G.eF' a lab hl ?_;exact N (-2) _ _ _ kV cV (PH.le_refl _) ⟨rfl,rfl,.inr ⟨hl,rfl⟩⟩
 rintro z _ _ _ ⟨rfl,rfl,hz⟩;refine G.l (ι:=Nat×Int×Bool×Bool) (fun i=>[(1,iV a),(2,tV t),(6,.p 1 0),(7,iV i.2.1),(8,bV i.2.2.1),(9,bV i.2.2.2),(20,sV pe F.length ce),(21,iV F.length),(22,iV i.1)])
  (fun _=>[(1,⟨145,[bV false,sV none 0 0,bV false,sV none 0 0,.v (.map none),.v (.map none)]⟩)])
  (fun i u' m'=>i.1<=F.length/\m'=PH.mt/\Ans F a z i.1 i.2.1 i.2.2.1 i.2.2.2) (fun i=>F.length-i.1) (0,z,true,false) ⟨oV,rfl,.inr ⟨fun k f hk=>by dsimp only at hk;omega,rfl,rfl,rfl⟩⟩ ?_
 rintro J ⟨i,m,dr,ho⟩ hJ u2 m2 l2 ⟨hi,rfl,hI⟩;simp only at hi hI hJ;by_cases a0:i<F.length
 ·refine G.lT i F.length ?_;obtain⟨f,U⟩:∃ f,F[i]?=some f:=⟨_,Ayr a0⟩;obtain⟨fb,fo,rfl,ef⟩:=Ac.at' (hF.mono l2) (j:=i) (e:=Ch f) (by simp[U]);obtain⟨p1,Y,p3⟩:=f;refine G.a fb fo F.length ce i 3 a0<|G.lU (some 3) fb (fo+i*3) (.agg #[.int .i64 p1,.int .i64 Y,.int .i64 p3]) ef ?_;by_cases hp:(p1:Int)=(a:Int)
  ·refine G.eT' p1 a hp ?_;have P:=Ao5 (z:=z) U (show p1=a by omega);simp only at P;by_cases h3:p3=1
   ·refine G.eT p3 1 ?_;by_cases h2:Y=2
    ·refine G.eT Y 2<|G.i i ?_;rw[decide_eq_true h3,decide_eq_true h2]at P;exact G.b (hJ (i+1,(i:Int),true,true) _ _ _ cV l2 ⟨dV,rfl,P⟩ dV)
    refine G.eF Y 2<|G.i i ?_;rw[decide_eq_true h3,decide_eq_false h2]at P;exact G.b (hJ (i+1,(i:Int),true,false) _ _ _ cV l2 ⟨dV,rfl,P⟩ dV)
   refine G.eF p3 1 ?_;by_cases h2:Y=2
   ·refine G.eT Y 2<|G.i i ?_;rw[decide_eq_false h3,decide_eq_true h2]at P;exact G.b (hJ (i+1,(i:Int),false,true) _ _ _ cV l2 ⟨dV,rfl,P⟩ dV)
   refine G.eF Y 2<|G.i i ?_;rw[decide_eq_false h3,decide_eq_false h2]at P;exact G.b (hJ (i+1,(i:Int),false,false) _ _ _ cV l2 ⟨dV,rfl,P⟩ dV)
  exact G.eF' p1 a hp<|G.i i<|G.b (hJ (i+1,m,dr,ho) _ _ _ cV l2 ⟨dV,rfl,Ama hI U (show ¬ p1=a by omega)⟩ dV)
 obtain rfl:i=F.length:=oV;refine G.lF F.length F.length ?_;have n0:(⟨((0:Int):Rat),fun _=>0,fun _=>0⟩:CF)=CF.num 0:=by rw[show ((0:Int):Rat)=0 by decide +kernel];rfl
 have n1:(⟨((1:Int):Rat),fun _=>0,fun _=>0⟩:CF)=CF.num 1:=by rw[show ((1:Int):Rat)=1 by decide +kernel];rfl
 rcases Aqy ok.feat l1 ok.l2 hx hv hz hI with ⟨rfl,e⟩|⟨a9,hc⟩
 ·rw[e];refine G.eT' (-2) (-2) rfl<|G.callO _ _ kV call71 (I5 (n:=1) oV oV) ?_;intro v3 u3 m3 l3 V _;obtain⟨b,H,n,c,b',E,L,I,g1,g2,rfl⟩:=Oa V;rw[Bw];exact G.r (.agg #[.bool b,.slice H n c,.bool b',.slice E L I,.map (some g1),.map (some g2)]) (V.congr n1 oV)
 refine G.eF' m (-2) a9<|G.callO _ _ kV call71 (I5 (n:=1) oV oV) ?_;intro v3 u3 m3 l3 V _;rw[Bw];rcases hc with ⟨rfl,e⟩|⟨rfl,ht,e⟩|⟨rfl,ht,Z,q2,e⟩
 ·rw[e];obtain⟨b,H,n,c,b',E,L,I,g1,g2,o1,o2,rfl,k1,C,rfl,s1,s2⟩:=V;have K:A2 (m,t) (m,t)=((m,t),(m,t)):=Gt (by rw[Dl.refl];omega);refine G.c call15 (Sp (z:=1) oV oV) ?_;intro v4 u4 Q O;rw[show ((1:Int):Rat)=1 by decide +kernel]at O;obtain⟨b4,a4,n4,c4,a2,aa,a7,rfl,_⟩:=O.opn;refine G.callG _ _ kV kV call144 (g:=g1) (o:=o1) (by rw[Ad _ _ C,Ab])
   (Nh (a:=(m,t)) (g2:=some g2) (y1:=b) (y2:=(H,n,c)) (y3:=b') (y4:=(E,L,I)) (s1.mono Q) O Kf.sb SB.zero (by rw[Acx];exact Kf.sb)) ?_
  intro v5 u5 ac W k5;refine G.c call15 (Sp (z:=1) oV oV) ?_;intro v6 u6 X k6;rw[show ((1:Int):Rat)=1 by decide +kernel]at k6;obtain⟨b6,a6,n6,c6,a3,ab,a8,rfl,_⟩:=k6.opn;refine G.callG _ _ kV kV call145 (g:=g2) (o:=o2) (by rw[Ad _ _ C.symm,Ab])
   (Hh (p:=(m,t)) (r:=(m,t)) (g1:=some g1) (y1:=b) (y2:=(H,n,c)) (y3:=b') (y4:=(E,L,I)) (((s2.mono Q).mono W).mono X) k6 Kf.sb (by rw[K];exact SB.zero) (by rw[K,Acx];exact Kf.sb)) ?_
  intro v7 u7 ad l7 k7;rw[Ajz C];rw[K]at k7;exact G.r (.agg #[.bool b,.slice H n c,.bool b',.slice E L I,.map (some g1),.map (some g2)]) ⟨b,H,n,c,b',E,L,I,g1,g2,_,_,rfl,(((k1.mono Q).mono W).mono X).mono l7,C,rfl,((k5.mono X).mono l7).congr fun k=>by rw[Acx];rfl,k7.congr fun k=>by
   rw[Acx];show (if k=((m,t),(m,t)) then (1:Rat) else 0)=if k=((m,t),(m,t)) then (1:Rat)*1 else 0
   rw[show (1:Rat)*1=1 by decide +kernel]⟩
 ·obtain⟨b,H,n,c,b',E,L,I,g1,g2,rfl⟩:=Oa V;refine G.q t [] ht ?_;rw[e];cases dr with
  |true =>
   refine G.drop PH.mt kV (PH.mt_le _)<|G.callO _ _ kV call71 (I5 (n:=0) oV oV) ?_;intro v4 u4 m4 Q O _;obtain⟨b,H,n,c,b',E,L,I,g1,g2,rfl⟩:=Oa O;rw[Bw];exact G.r (.agg #[.bool b,.slice H n c,.bool b',.slice E L I,.map (some g1),.map (some g2)]) (O.congr n0 oV)
  |false =>
   exact G.r (.agg #[.bool b,.slice H n c,.bool b',.slice E L I,.map (some g1),.map (some g2)]) (V.congr n1 oV)
 rw[e];obtain⟨b,H,n,c,b',E,L,I,g1,g2,o1,o2,rfl,k1,C,rfl,s1,s2⟩:=V;refine G.w t [] ht ?_;have K:A2 (m,[]) (m,[])=((m,[]),(m,[])):=Gt (by rw[Dl.refl];omega);have a1:=F0 (u:=u3) (q:=Fa t) (SB.tx Z.sb);rw[q2]at a1;refine G.c call19 a1 ?_;intro v4 u4 Q O;obtain⟨b4,a4,n4,c4,a2,aa,a7,rfl,_⟩:=O.opn;refine G.callG _ _ kV kV call144 (g:=g1) (o:=o1) (by rw[Ad _ _ C,Ab])
  (Nh (a:=(m,[])) (g2:=some g2) (y1:=b) (y2:=(H,n,c)) (y3:=b') (y4:=(E,L,I)) (s1.mono Q) O Z.sb SB.zero (by rw[Acx];exact Z.sb)) ?_
 intro v5 u5 ac W k5;refine G.c call22 (E2 (O.mono W) (O.mono W) (SB.ten Z.sb) (SB.ten Z.sb)) ?_;intro v6 u6 X k6;obtain⟨b6,a6,n6,c6,a3,ab,a8,rfl,_⟩:=k6.opn;refine G.callG _ _ kV kV call145 (g:=g2) (o:=o2) (by rw[Ad _ _ C.symm,Ab])
  (Hh (p:=(m,[])) (r:=(m,[])) (g1:=some g1) (y1:=b) (y2:=(H,n,c)) (y3:=b') (y4:=(E,L,I)) (((s2.mono Q).mono W).mono X) k6 Z.sb2 (by rw[K];exact SB.zero) (by rw[K,Acx];exact Z.sb2)) ?_
 intro v7 u7 ad l7 k7;rw[Ajz C];rw[K]at k7;exact G.r (.agg #[.bool b,.slice H n c,.bool b',.slice E L I,.map (some g1),.map (some g2)]) ⟨b,H,n,c,b',E,L,I,g1,g2,_,_,rfl,(((k1.mono Q).mono W).mono X).mono l7,C,rfl,((k5.mono X).mono l7).congr fun k=>by rw[Acx];rfl,k7.congr fun k=>by rw[Acx];rfl⟩
end
section
variable {u:PH}
def J8.all {f:FuncId}{args:List Value}{F:CF}{N:Nat}(c:Ag prog f args u PH.mt fun v e h=>J8 h e v F N):Fn0 prog f args u fun v e=>Qo e v F N:=by
 refine Fn0.weak c.giveAll ?_;rintro v e ⟨m,j,g,l2,k⟩;exact k.give g l2
def Qo.up {u:PH}{v:Value}{F:CF}{N M:Nat}(h:Qo u v F N)(g:N<=M):Qo u v F M:=by
 obtain⟨b,a,n,c,b',j,J,m,g1,g2,K,L,e,t,C,E,H,I⟩:=h;exact⟨b,a,n,c,b',j,J,m,g1,g2,K,L,e,t,C,E,H.up g,I.up g⟩
def Aqw {v tv:Value}{T:List (List UInt8×Nat)}{R:List Bu}{F:List Am}{lab:Int}{ss:List (List UInt8)}(h:Qa u v tv T R F lab ss)(ah:ss.length<=8) :
 Fn0 prog 73 [v,tv] u fun r u'=>Qo u' r (cfT F lab ss) 255/\CFS (cfT F lab ss):=by
 have hX:=h.sch;obtain⟨⟨xa,xc,xb,xd,xe,xf,rfl,ai,ag,ae⟩,ok,hS,hT⟩:=h;obtain⟨ya,yc,rfl⟩:=hS.opn;rw[Ayt]at hS⊢;have j:=N8 ok hT;have a6:=hT.len;obtain⟨L,K⟩:∃ L,L=E8 F lab ss:=⟨_,rfl⟩;have a0:cfT F lab ss=Ij (CF.num 1) L:=by rw[K];rfl
 rw[a0];rw[<-K]at j;have af:L.length=ss.length:=by rw[K];exact Gf
 refine Fn0.o func73<|G.c call71 (J8.all (I5 (n:=1) oV oV)) ?_;intro v2 u2 l2 k2;have n1:(⟨((1:Int):Rat),fun _=>0,fun _=>0⟩:CF)=CF.num 1:=by rw[show ((1:Int):Rat)=1 by decide +kernel];rfl
 rw[n1]at k2;obtain⟨b,a,n,c,b',N,n',Q,g1,g2,rfl⟩:=Q8 k2;refine G.l (ι:=Nat×(Bool×SlI)×(Bool×SlI)×Nat×Nat) (fun i=>[(2,.p 0 0),(4,.p 1 0),(5,.p 1001 0),(9,sV ya ss.length yc),(10,iV ss.length),(11,iV i.1)])
  (fun i=>[(0,⟨30,[sV xa T.length xc,sV xb R.length xd,sV xe F.length xf,iV lab]⟩),(1,⟨145,[bV false,sV none 0 0,bV false,sV none 0 0,.v (.map none),.v (.map none)]⟩),(1001,⟨145,[bV i.2.1.1,sV i.2.1.2.1 i.2.1.2.2.1 i.2.1.2.2.2,bV i.2.2.1.1,sV i.2.2.1.2.1 i.2.2.1.2.2.1 i.2.2.1.2.2.2,.v (.map (some i.2.2.2.1)),.v (.map (some i.2.2.2.2))]⟩)])
  (fun i u' m'=>i.1<=ss.length/\Qo u' (.agg #[.bool i.2.1.1,.slice i.2.1.2.1 i.2.1.2.2.1 i.2.1.2.2.2,.bool i.2.2.1.1,.slice i.2.2.1.2.1 i.2.2.1.2.2.1 i.2.2.1.2.2.2,.map (some i.2.2.2.1),.map (some i.2.2.2.2)]) (Ij (CF.num 1) (L.take i.1)) (2^i.1-1)/\m'=PH.mt)
  (fun i=>ss.length-i.1) (0,(b,a,n,c),(b',N,n',Q),g1,g2) ⟨oV,k2,rfl⟩ ?_
 rintro J ⟨i,⟨b,a,n,c⟩,⟨b',N,n',Q⟩,g1,g2⟩ hJ u3 m3 l3 ⟨hi,I,rfl⟩;simp only at hi I hJ;have t:=l2.trans l3;by_cases g:i<ss.length
 ·refine G.lT i ss.length ?_;obtain⟨bb,off,rfl,e⟩:=O5 (hS.mono t) g;refine G.a bb off ss.length yc i 1 g<|G.lU none bb (off+i*1) (.string (mkS (ss.getD i []))) e ?_;have H:ss.getD i []=ss[i]:=by simp[Ays,Ayr g]
  have E:T[i]?=some T[i]:=Ayr oV;have C:L[i]?=some (Gd F lab i (ss.getD i [])):=by rw[K,H];exact F1 (Ayr g)
  have Z:(Gd F lab i (ss.getD i [])).Small:=j _ (Ay9 C);have hv:=hT.val i _ _ E (Ayr g);rw[<-H]at hv;refine G.c call147 (J8.all (Agl (hX.mono t) (ok.mono t) E hv)) ?_;intro v4 u4 l4 k4;obtain⟨b4,a4,n4,c4,a8,a7,aj,a9,ab,ac,rfl⟩:=Q8 k4;have Y:2^i<=2^7:=Azr oV oV;have ad:1<=2^i:=Nat.one_le_two_pow;obtain⟨V,aa⟩:=Q7 j i oV;have m:Ij (CF.num 1) (L.take (i+1))=(Ij (CF.num 1) (L.take i)).mul (Gd F lab i (ss.getD i [])).cf:=by
   rw[Aze,C];exact Za _ _ _
  refine G.c call146 (J8.all (An2 (I.mono l4) k4 (Ax2 V Z.cfd oV (Axg oV) (Nat.pos_of_ne_zero mV) oV))) ?_;intro v5 u5 l5 k5;obtain⟨b5,a5,n5,c5,P,O,a3,U,W,X,rfl⟩:=Q8 k5;refine G.i i ?_;rw[<-m]at k5;exact G.b (hJ (i+1,(b5,a5,n5,c5),(P,O,a3,U),W,X) _ _ _ cV ((l3.trans l4).trans l5) ⟨dV,k5.up (by dsimp only;rw[A0d];omega),rfl⟩ dV)
 obtain rfl:i=ss.length:=oV;refine G.lF ss.length ss.length ?_;have a2:L.take ss.length=L:=by rw[Ay6 oV]
 have a1:CFS (Ij (CF.num 1) L):=by
  obtain⟨q1,_⟩:=Q7 j L.length (Ay2 _);rw[Azj]at q1;exact q1.cfs oV (Ayl oV)
 rw[a2]at I;have Y:2^ss.length<=2^8:=Azr oV oV;exact G.r (.agg #[.bool b,.slice a n c,.bool b',.slice N n' Q,.map (some g1),.map (some g2)]) ⟨rfl,I.up oV,a1⟩
end
end Go.Proofs.YtijchbjkdllolaaGreatDoor
