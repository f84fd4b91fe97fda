/- Parts of one proof, joined by a program. -/
import Derived.Test.YtnlfnomchebmcaaGreatDoorKA11
set_option linter.unusedVariables false
set_option linter.unusedSimpArgs false
set_option linter.unusedSectionVars false
set_option maxHeartbeats 16000000
namespace Go.Proofs.YtnlfnomchebmcaaGreatDoor
section
open Go.RowKit Go.MapKept
theorem Aa0 {u:PH}{T:List (List UInt8×Nat)}{R:List Bn}{F:List Am}{lab:Int}(ok:Bi u T R F lab):∀ l:Nat,lab=(l:Int)→l < T.length:=fun l hl=>by
 obtain ⟨n,hn⟩:=ok.l2 l hl;exact (List.getElem?_eq_some_iff.1 hn).1
theorem Afm {u:PH}{T:List (List UInt8×Nat)}{R:List Bn}{F:List Am}{lab:Int}{L:List E9}(ok:Bi u T R F lab)(h8:T.length≤8)(hT:∀ y∈L,Ca T y.1∧y.2.1≤7)(h6:L.length≤6):CFD 16 (10 ^ 39) (Bo F lab L):=by
 obtain ⟨d,_⟩:=Wv ok hT;refine d.to (by omega) ?_;have e:12 ^ (16 - 2*T.length)=144 ^ (8 - T.length):=by
  rw [show 16 - 2*T.length=2*(8 - T.length) by omega,Nat.pow_mul]
 have h1:144 ^ (8 - T.length)≤46656 ^ (8 - T.length):=Nat.pow_le_pow_left (by omega) _;have h2:46656 ^ T.length*46656 ^ (8 - T.length)=46656 ^ 8:=by rw [← Nat.pow_add]; congr 1; omega
 have h3:46656 ^ 8*42≤10 ^ 39:=by decide +kernel
 rw [e];have h4:L.length*(46656 ^ T.length*7)*144 ^ (8 - T.length)≤6*(46656 ^ T.length*7)*46656 ^ (8 - T.length):=Nat.mul_le_mul (Nat.mul_le_mul_right _ h6) h1;have h5:6*(46656 ^ T.length*7)*46656 ^ (8 - T.length)=(46656 ^ T.length*46656 ^ (8 - T.length))*42:=by
  generalize 46656 ^ T.length=a;generalize 46656 ^ (8 - T.length)=b;rw [Nat.mul_comm 6,Nat.mul_assoc a 7 6,Nat.mul_assoc a b 42,Nat.mul_assoc a (7*6) b,Nat.mul_comm (7*6) b]
 rw [h5,h2] at h4;exact Nat.le_trans h4 h3
theorem Ah8 {u:PH}{T:List (List UInt8×Nat)}{R:List Bn}{F:List Am}{lab:Int}{L:List E9}(ok:Bi u T R F lab)(h8:T.length≤8)(hT:∀ y∈L,Ca T y.1∧y.2.1≤7)(h6:L.length≤6):∃ k,Ht (Bo F lab L) k:=by
 obtain ⟨k,hk,hk7⟩:=Alr ok.feat ok.l1 (Aa0 ok) hT;have d:=Afm ok h8 hT h6;have e2:12 ^ 16 < 10 ^ 18:=by decide +kernel
 obtain ⟨d',_⟩:=Wv ok hT;have e1:L.length*(46656 ^ T.length*7) < 10 ^ 39:=by
  have h1:46656 ^ T.length≤46656 ^ 8:=Nat.pow_le_pow_right (by omega) h8;have h2:46656 ^ 8*42 < 10 ^ 39:=by decide +kernel
  have h3:=Nat.mul_le_mul h6 (Nat.mul_le_mul_right 7 h1);omega
 have e3:12 ^ (2*T.length) < 10 ^ 18:=Nat.lt_of_le_of_lt (Nat.pow_le_pow_right (by omega) (by omega)) e2;exact ⟨k,hk,by omega,fun p=>(d'.s p).de e1 e3,fun p=>(d'.t p).de e1 e3⟩
theorem Aco {u:PH}{T:List (List UInt8×Nat)}{R:List Bn}{F:List Am}{lab:Int}{L:List E9}{xv cv:Value}{P:List Par}(hX:D5 u xv T R F lab)(ok:Bi u T R F lab)(h8:T.length≤8)(hT:∀ y∈L,Ca T y.1∧y.2.1≤7)(h6:L.length≤6)
  (hC:Hb u cv (Bo F lab L) 1530) (hP:S2 F (Bo F lab L) P) (p24:P.length≤24) (lab0:0≤lab):∃ k,Hk u xv cv T R F lab (Bo F lab L) 1530 k P:=by
 obtain ⟨k,hk⟩:=Ah8 ok h8 hT h6;obtain ⟨sC,vC⟩:=M6 ok h8 hT (by omega);exact ⟨k,hX,ok,hC,sC,vC,by omega,Ac2,hk,hP,p24,lab0,Afm ok h8 hT h6⟩
theorem Nq.meas {u:PH}{T:List (List UInt8×Nat)}{R:List Bn}{F:List Am}{lab:Int}{L:List E9}{xv lv cv pv ev:Value}(w:Nq u T R F lab L xv lv cv pv ev) :
  ∃ P k,Ad u pv 2 (P.map Ak)∧P.length≤20∧Hk u xv cv T R F lab (Bo F lab L) 1530 k P:=by
 obtain ⟨P,_,h1,h2,h3⟩:=w.par;obtain ⟨k,hk⟩:=Aco w.sch w.ok w.t8 w.wok.tup w.l6 w.cof h3 (by omega) w.lab0;exact ⟨P,k,h1,h2,hk⟩
end
section
open Go.RowKit Go.MapKept
def Su:List (List UInt8×Nat):=[([121],2)]
def X0 (g:Nat):List Bn:=[([114],[0],(some ⟨g,0,none⟩,1))]
def Tp (g h:Nat):List E9:=[([[49]],1,(some ⟨g,0,none⟩,1)),([[51]],1,(some ⟨h,0,none⟩,1))]
theorem Anj {u:PH}{g:Nat}(h:Ad u (.slice (some ⟨g,0,none⟩) 1 1) 1 (Ai [0])):Bi u Su (X0 g) [] 0 where
 att:=⟨Oh (by decide +kernel),fun a ha=>by simp [Su] at ha; subst ha; decide⟩
 rel:=⟨Oh (by show (([[114]]:List (List UInt8)).all Gc && decide ([[114]]:List (List UInt8)).Nodup)=true; decide +kernel),fun r hr=>by simp [X0] at hr; subst hr; simp,fun r hr a ha=>by simp [X0] at hr; subst hr; simp at ha; show a < 1; omega,fun r hr=>by simp [X0] at hr; subst hr; simp,fun r hr k x y h1 h2=>by
  simp [X0] at hr; subst hr;simp at h2,fun a ha=>⟨_,List.mem_singleton.2 rfl,by
  have:a < 1:=ha;simp; omega⟩,fun r hr=>by simp [X0] at hr; subst hr; exact h⟩
 feat:=⟨fun f hf=>by simp at hf,by decide⟩
 t1:=by decide
 t2:=by decide
 r1:=by show 0 < 1; omega
 r2:=by show 1≤6; omega
 f2:=by decide
 l1:=by decide
 l2:=fun l hl=>by
  have:l=0:=by omega
  subst this; exact ⟨[121],rfl⟩
theorem Ali (t:List UInt8)(v:Rat)(h:∀ n:Fin 19,∀ d:Fin 13,d.val≠0→Ag (Rat.divInt ((n.val:Int) - 9) (d.val:Int))=t→Rat.divInt ((n.val:Int) - 9) (d.val:Int)=v){q:Rat}(hq:SmR q)(e:Ag q=t):q=v:=by
 have h1:=hq.num;have h2:=hq.le;have h3:=q.den_pos;have h4:=h ⟨(q.num+9).toNat,by omega⟩ ⟨q.den,by omega⟩ (by simpa using by omega);simp only at h4;rw [show (((q.num+9).toNat:Nat):Int) - 9=q.num by omega,Rat.num_divInt_den] at h4;exact h4 e
theorem Ajd:SmR 2:=⟨by decide +kernel,by decide +kernel⟩
theorem Ue:SmR 3:=⟨by decide +kernel,by decide +kernel⟩
theorem Aj7:G7 [49]=1:=by
 obtain ⟨h1,h2⟩:=Ls (t:=[49]) ⟨1,Jl,by decide +kernel⟩;exact Ali [49] 1 (by decide +kernel) h1 h2
theorem Ai7:G7 [51]=3:=by
 obtain ⟨h1,h2⟩:=Ls (t:=[51]) ⟨3,Ue,by decide +kernel⟩;exact Ali [51] 3 (by decide +kernel) h1 h2
theorem Ac1:Ca Su [[49]]:=⟨rfl,fun i x t hx ht=>by
 match i,hx,ht with
 | 0,hx,ht=>cases hx; cases ht; exact .inr (.inr (.inr ⟨rfl,1,Jl,by decide +kernel⟩))
 | i+1,hx,ht=>simp [Su] at hx⟩
theorem Ack:Ca Su [[51]]:=⟨rfl,fun i x t hx ht=>by
 match i,hx,ht with
 | 0,hx,ht=>cases hx; cases ht; exact .inr (.inr (.inr ⟨rfl,3,Ue,by decide +kernel⟩))
 | i+1,hx,ht=>simp [Su] at hx⟩
theorem Alf {t:List UInt8}(ht:Ca Su [t])(hc:Pk [] 0 [t]=true)(hne:t≠[]):(cfT [] 0 [t]).c=1∧(cfT [] 0 [t]).s Bh=G7 t∧(cfT [] 0 [t]).t (Ar Bh Bh)=G7 t*G7 t:=by
 have hF:Cy Su [] 0:=⟨fun f hf=>by simp at hf,by decide⟩;have hl:∀ l:Nat,(0:Int)=(l:Int)→l < [t].length:=fun l hl=>by simp; omega
 have hs:(cfT [] 0 [t]).s Bh=G7 t:=Aa8 hF ht (by omega) hl hc (a:=0) (by
  rw [Ew (w:=t) rfl];unfold Di Lx;rw [if_pos (show ((0:Nat):Int)=0 from rfl),if_neg hne]; rfl)
 rcases Ox hF ht (by omega) hl with ⟨_,h⟩ | ⟨h,_⟩
 ·exact ⟨h.c,hs,by rw [h.t,hs]⟩
 ·rw [h] at hc; cases hc
theorem Al5 (g h:Nat):(Bo [] 0 (Tp g h)).c=2∧(Bo [] 0 (Tp g h)).s Bh=4∧(Bo [] 0 (Tp g h)).t (Ar Bh Bh)=10:=by
 obtain ⟨a1,a2,a3⟩:=Alf Ac1 (by decide +kernel) (by decide);obtain ⟨b1,b2,b3⟩:=Alf Ack (by decide +kernel) (by decide);rw [Aj7] at a2 a3;rw [Ai7] at b2 b3;refine ⟨?_,?_,?_⟩
 ·show 0+(cfT [] 0 [[49]]).c*((1:Nat):Rat)+(cfT [] 0 [[51]]).c*((1:Nat):Rat)=2;rw [a1,b1]; decide +kernel
 ·show 0+(cfT [] 0 [[49]]).s Bh*((1:Nat):Rat)+(cfT [] 0 [[51]]).s Bh*((1:Nat):Rat)=4;rw [a2,b2]; decide +kernel
 ·show 0+(cfT [] 0 [[49]]).t (Ar Bh Bh)*((1:Nat):Rat)+(cfT [] 0 [[51]]).t (Ar Bh Bh)*((1:Nat):Rat)=10;rw [a3,b3]; decide +kernel
theorem Amd (C:CF):S2 [] C []:=⟨List.Pairwise.nil,fun p=>⟨fun h=>by simp at h,fun h=>by
 rcases h with ⟨i,f,_,hf,_⟩ | ⟨_,i,f,_,hf,_⟩ <;> simp at hf⟩⟩
theorem Zu:Fh [] 2 []:=⟨Ajd,fun x hx=>by simp at hx,List.Pairwise.nil,fun x hx=>by simp at hx,by simp⟩
theorem Aiz {C:CF}(h1:C.c=2)(h2:C.s Bh=4)(h3:C.t (Ar Bh Bh)=10) :
  Cr (cfE 2 []) [] C / C.c=0∧sqC (cfE 2 []) [] C / C.c=1∧Kt C Bh Bh=1:=by
 have n:Fp (cfE 2 []) [] C=8:=by
  unfold Fp Bw;show 2*C.c*2+0+0=8;rw [h1]; decide +kernel
 refine ⟨?_,?_,?_⟩
 ·unfold Cr Bw;show (C.s Bh - (2*C.c+0)) / C.c=0;rw [h1,h2]; decide +kernel
 ·unfold sqC Bw;rw [n];show (8+C.t (Ar Bh Bh) - 2*(2*C.s Bh+0)) / C.c=1;rw [h1,h2,h3]; decide +kernel
 ·unfold Kt;rw [h1,h2,h3]; decide +kernel
end
section
open Go.RowKit Go.MapKept
abbrev Aj8:Type:=List (Value×Rat×List (Par×Rat))
def Iq (u:PH)(es:List Value)(P:List Par)(Ms:Aj8):Prop:=es.length=Ms.length∧∀ (j:Nat) (x:Value×Rat×List (Par×Rat)),Ms[j]?=some x→∃ e,es[j]?=some e∧Ow u e P (cfE x.2.1 x.2.2)
theorem Iq.mono {u u':PH}{es:List Value}{P:List Par}{Ms:Aj8}(h:Iq u es P Ms)(hl:PH.le u u'):Iq u' es P Ms :=
 ⟨h.1,fun j x hx=>by obtain ⟨e,h1,h2⟩:=h.2 j x hx; exact ⟨e,h1,h2.mono hl⟩⟩
theorem Iq.snoc {u:PH}{es:List Value}{P:List Par}{Ms:Aj8}{e:Value}{x:Value×Rat×List (Par×Rat)}(h:Iq u es P Ms)(he:Ow u e P (cfE x.2.1 x.2.2)):Iq u (es++[e]) P (Ms++[x]):=by
 refine ⟨by simp [h.1],fun j y hy=>?_⟩;rcases Nat.lt_or_ge j Ms.length with hj | hj
 ·rw [List.getElem?_append_left hj] at hy;obtain ⟨e',h1,h2⟩:=h.2 j y hy;exact ⟨e',by rw [List.getElem?_append_left (by rw [h.1]; exact hj)]; exact h1,h2⟩
 ·rw [List.getElem?_append_right hj] at hy;have h0:j - Ms.length=0:=by
   have:=(List.getElem?_eq_some_iff.1 hy).1;simp at this; omega
  rw [h0] at hy;cases hy;exact ⟨e,by rw [List.getElem?_append_right (by rw [h.1]; exact hj),h.1,h0]; rfl,he⟩
theorem Agg {a a':Option Addr}{n c n' c':Nat}:A9 2 [.agg #[.slice a n c,.slice a' n' c']]:=by
 intro x hx;simp only [List.mem_cons,List.not_mem_nil,or_false] at hx;subst hx; exact ⟨rfl,List.all_eq_true.1 rfl⟩
theorem Tb {s:List UInt8}{a:Option Addr}{n c:Nat}:A9 2 [.agg #[.string (mkS s),.slice a n c]]:=by
 intro x hx;simp only [List.mem_cons,List.not_mem_nil,or_false] at hx;subst hx; exact ⟨rfl,List.all_eq_true.1 rfl⟩
theorem Hk.csgn {u:PH}{v cv:Value}{T:List (List UInt8×Nat)}{R:List Bn}{F:List Am}{lab:Int}{C:CF}{K k:Nat}{P:List Par}(h:Hk u v cv T R F lab C K k P)(h0:k≠0):¬ sgn C.c.num≤0:=by
 have h1:C.c.num=(k:Int):=by rw [h.mom.c]; exact Rat.num_natCast k
 rw [h1,Cz (by omega)]; omega
theorem R3 {u:PH}{v cv mv:Value}{T:List (List UInt8×Nat)}{R:List Bn}{F:List Am}{lab:Int}{C:CF}{K k:Nat}{P:List Par}{Ms:Aj8}(lb:Bool)(h:Hk u v cv T R F lab C K k P)(h0:k≠0)
  (hL:Ad u mv 2 (Ms.map (·.1))) (hM:∀ x∈Ms,Kg u x.1 x.2.1 x.2.2∧Fh P x.2.1 x.2.2) (hl:Ms.length≤1000) :
  Fn0 Tryz.prog 47 [v,cv,.bool lb,mv] u fun r u'=>∃ x ls es,r=.tuple #[x,ls,.int .i64 0]∧Df u' x C K∧Ad u' ls 2 es∧Iq u' es P Ms:=by
 have hK:=h.K;have hprm:=Q2 h.sch h.ok h.cof h.sC h.vC (by omega) h.bel;have hof:=fun (u':PH) (l:PH.le u u')=>Fn0.weak (Ae.giveAll (of0 (h.cof.mono l) h.sC (by omega))) fun v u' ⟨u1,m1,l1,l2,h⟩=>h.give l1 l2;have hpar:=h.par;have hX:=h.sch;have ok:=h.ok;have hS:=h.mom;have hsg:=h.csgn h0;have hlab:=h.lab0;have hP24:=h.p24;have hPL:=h.prm;obtain ⟨xa,xc,xb,xd,xe,xf,rfl,hTL,hRL,hFL⟩:=id h.sch;obtain ⟨a1,n1,c1,a2,n2,c2,rfl⟩:=h.cof.opn;obtain ⟨ma,mc,rfl⟩:=hL.opn;rw [List.length_map] at hL ⊢;refine Fn0.o Tryz.func47 ?_;refine G.c Tryz.call100 hprm ?_;rintro v1 u1 l1 (⟨rfl,Q,hQ,hQP⟩ | ⟨ps,Q,rfl,hP,_,hQP⟩)
 ·have:=hPL.eq hQP;subst this; omega
 obtain rfl:=hPL.eq hQP;obtain ⟨pa,pc,rfl⟩:=hP.opn;rw [List.length_map] at hP ⊢;refine G.nF 0 0 ?_;have hsign:∀ (u':PH),Fn0 Tryz.prog 88 [.string (mkS (Ag C.c))] u' fun v _=>v=.int .i64 (sgn C.c.num):=fun u'=>Nl hS.tx;cases lb
 case' true=>refine G.lF lab 0 ?_
 all_goals
  refine G.c Tryz.call88 (hsign u1) ?_;rintro v2 u2 l2 rfl;refine G.kF (sgn C.c.num) 0 ?_;refine G.l (ι:=Nat×(Option Addr×Nat)×List Value) (fun i=>[(4,.p 0 0),(5,.p 1 0),(8,.p 2 0),(11,.v (.slice pa P.length pc)),(13,.v (.slice i.2.1.1 i.2.2.length i.2.1.2)),(41,.v (.slice ma Ms.length mc)),(42,.v (.int .i64 (Ms.length:Int))),(43,.v (.int .i64 (i.1:Int)))])
   (fun _=>[(0,⟨30,[.v (.slice xa T.length xc),.v (.slice xb R.length xd),.v (.slice xe F.length xf),.v (.int .i64 lab)]⟩),(1,⟨36,[.v (.string (mkS (Ag C.c))),.v (.slice a1 n1 c1),.v (.slice a2 n2 c2)]⟩),(2,⟨93,[.v (.bool false),.v (.slice none 0 0),.v (.bool false),.v (.slice none 0 0),.v (.map none),.v (.map none)]⟩)])
   (fun i u' m'=>i.1≤Ms.length∧Iq u' i.2.2 P (Ms.take i.1)∧Af PH.mt m' (.slice i.2.1.1 i.2.2.length i.2.1.2) 113 2 i.2.2) (fun i=>Ms.length - i.1) (0,(none,0),[]) ⟨by omega,⟨rfl,fun j x hx=>by simp at hx⟩,Af.nil _ _ _⟩ ?_
  rintro J ⟨i,⟨oa,oc⟩,es⟩ hJ u3 m3 l3 ⟨hi,hE,hA⟩;simp only at hi hE hA hJ;have le3:=(l1.trans l2).trans l3;by_cases hlt:i < Ms.length
  ·refine G.lT (i:Int) (Ms.length:Int) ?_;obtain ⟨x,hMi⟩:∃ x,Ms[i]?=some x:=⟨_,List.getElem?_eq_getElem hlt⟩;obtain ⟨hmv,hmo⟩:=hM x (List.mem_of_getElem? hMi);have htk:=D1 hMi;obtain ⟨ba,ob,rfl,ea⟩:=Ad.at' (hL.mono le3) (j:=i) (e:=x.1) (by simp [hMi]);obtain ⟨xv,m0,M⟩:=x;simp only at hmv hmo ea;obtain ⟨na,nc,rfl,_⟩:=hmv.val;refine G.a ba ob Ms.length mc i 2 hlt ?_;refine G.lU (some 2) ba (ob+i*2) (.agg #[.string (mkS (Ag m0)),.slice na M.length nc]) ea ?_;refine G.c Tryz.call101 (Ahx (hP.mono (l2.trans l3)) hPL.1 (by omega) (hmv.mono le3) hmo) ?_;rintro v4 u4 l4 ⟨lv,rfl,hlv⟩;obtain ⟨la,lc,rfl⟩:=Ad.opn hlv;refine G.nF 0 0 ?_;refine G.c Tryz.call63 (Ve (hX.mono (le3.trans l4)) (ok.mono (le3.trans l4)) (hmv.mono (le3.trans l4)) hmo (by omega) hpar) ?_;rintro v5 u5 l5 rfl;refine G.c Tryz.call102 (Ae6 (hlv.mono l5) (fun q hq=>?_) (by rw [List.length_map,Fu]; omega)) ?_
   ·obtain ⟨e,_,rfl⟩:=List.mem_map.1 hq;cases e with
    | none=>exact hmo.tx.1
    | some p =>
     show Tx (A5 p M);by_cases hp:p∈M.map (·.1)
     ·obtain ⟨y,hy,rfl⟩:=List.mem_map.1 hp;rw [Gj (hmo.srt.nodup Dd) hy]; exact hmo.tx.2 y hy
     ·rw [Gn hp]; exact Yr.tx
   intro v6 u6 l6 k6;obtain ⟨es6,hL6,hF6⟩:=id k6;obtain ⟨fa,fc,rfl⟩:=hL6.opn;have hel:es6.length=P.length+1:=by rw [hF6.1,List.length_map,Fu]
   rw [hel] at k6 ⊢;have hesl:es.length≤1000:=by
    have:=hE.1;rw [List.length_take] at this; omega
   refine G.B 113 2 48 (.agg #[.slice none 0 0,.slice none 0 0]) [.agg #[.slice pa P.length pc,.slice fa (P.length+1) fc]] Agg ?_;intro g7 u7 l7 e7;refine G.append 113 2 48 (.agg #[.slice none 0 0,.slice none 0 0]) PH.mt es [.agg #[.slice pa P.length pc,.slice fa (P.length+1) fc]] _ g7 0 1 1 (by kernel_rfl) rfl rfl (by omega) hA e7 Agg rfl (by omega) (by show (es.length+1)*48≤140737488355328; omega) (by show es.length+1≤9223372036854775807; omega) ?_;intro v8 m8 hA8;obtain ⟨a8,c8,rfl⟩:=hA8.shape;have l37:=((l4.trans l5).trans l6).trans l7;have hE8:Iq u7 (es++[.agg #[.slice pa P.length pc,.slice fa (P.length+1) fc]]) P (Ms.take (i+1)):=by
    rw [htk]; exact (hE.mono l37).snoc ⟨_,_,_,_,rfl,hP.mono (((l2.trans l3).trans l37)),k6.mono l7⟩
   refine G.i i ?_;exact G.b (hJ (i+1,(a8,c8),es++[.agg #[.slice pa P.length pc,.slice fa (P.length+1) fc]]) _ _ _ cv (l3.trans l37) ⟨by dsimp only; omega,hE8,hA8⟩ (by dsimp only; omega))
  ·obtain rfl:i=Ms.length:=by omega
   refine G.lF (Ms.length:Int) (Ms.length:Int) ?_;rw [List.take_length] at hE;refine G.give _ _ _ (by kernel_rfl) hA (fun g=>.inl rfl) ?_;intro u10 l10 hLs;refine G.c Tryz.call68 (hof u10 (le3.trans l10)) ?_;intro v11 u11 l11 k11;obtain ⟨b,a,n,c,b',a',n',c',g1,g2,rfl⟩:=B7 k11;exact G.r (.tuple #[.agg #[.bool b,.slice a n c,.bool b',.slice a' n' c',.map (some g1),.map (some g2)],.slice oa es.length oc,.int .i64 0]) ⟨rfl,_,_,es,rfl,k11,hLs.mono l11,hE.mono (l10.trans l11)⟩
theorem Uq {u:PH}{v cv mv:Value}{T:List (List UInt8×Nat)}{R:List Bn}{F:List Am}{lab:Int}{C:CF}{K k:Nat}{P:List Par}(h:Hk u v cv T R F lab C K k P)(h0:k=0) :
  Fn0 Tryz.prog 47 [v,cv,.bool true,mv] u fun r u'=>r=.tuple #[.agg #[.bool false,.slice none 0 0,.bool false,.slice none 0 0,.map none,.map none],.slice none 0 0,.int .i64 12]:=by
 have hK:=h.K;have hprm:=Q2 h.sch h.ok h.cof h.sC h.vC (by omega) h.bel;have hS:=h.mom;have hlab:=h.lab0;have hP24:=h.p24;have hPL:=h.prm;obtain ⟨xa,xc,xb,xd,xe,xf,rfl,hTL,hRL,hFL⟩:=id h.sch;obtain ⟨a1,n1,c1,a2,n2,c2,rfl⟩:=h.cof.opn;refine Fn0.o Tryz.func47 ?_;refine G.c Tryz.call100 hprm ?_;rintro v1 u1 l1 (⟨rfl,Q,hQ,hQP⟩ | ⟨ps,Q,rfl,hP,_,hQP⟩)
 ·have:=hPL.eq hQP;subst this; omega
 obtain ⟨pa,pc,rfl⟩:=hP.opn;refine G.nF 0 0 ?_;refine G.lF lab 0 ?_;refine G.c Tryz.call88 (Nl hS.tx) ?_;rintro v2 u2 l2 rfl;refine G.leqT (sgn C.c.num) 0 (by kernel_rfl) (by
  have:C.c=0:=by rw [hS.c,h0]; rfl
  rw [Pc.2 this]; exact Int.le_refl _) ?_
 exact G.r (.tuple #[.agg #[.bool false,.slice none 0 0,.bool false,.slice none 0 0,.map none,.map none],.slice none 0 0,.int .i64 12]) ⟨rfl,rfl⟩
end
section
open Go.RowKit Go.MapKept
section
variable {u:PH} {v cv mv:Value} {T:List (List UInt8×Nat)} {R:List Bn} {F:List Am} {lab:Int} {C:CF} {K k:Nat} {P:List Par} {m0:Rat} {M:List (Par×Rat)}
theorem Hk.lt (h:Hk u v cv T R F lab C K k P):k < 10 ^ 2:=by have:=h.mom.lt; omega
theorem Hk.biasE (h:Hk u v cv T R F lab C K k P)(h0:k≠0)(hm:Fh P m0 M):De 47 22 (Cr (cfE m0 M) P C / C.c):=by
 rw [h.mom.c];exact (((h.qok hm).biasD (by have:=h.p24; omega)).de (a:=47) (b:=20) (by decide +kernel) (by decide +kernel)).divn (by omega) h.lt
theorem Hk.sqE (h:Hk u v cv T R F lab C K k P)(h0:k≠0)(hm:Fh P m0 M):De 49 22 (sqC (cfE m0 M) P C / C.c):=by
 rw [h.mom.c];exact (((h.qok hm).sqD (by have:=h.p24; omega)).de (a:=49) (b:=20) (by decide +kernel) (by decide +kernel)).divn (by omega) h.lt
theorem Ro {u:PH}{P:List Par}{x:Value×Rat×List (Par×Rat)}{es:List Value}(h:Iq u es P [x]):∃ e,es = [e]∧Ow u e P (cfE x.2.1 x.2.2):=by
 obtain ⟨h1,h2⟩:=h;obtain ⟨e,he,hl⟩:=h2 0 x rfl
 match es,h1,he with
 | [y],_,he=>cases he; exact ⟨e,rfl,hl⟩
theorem Ys (ht:Ib u)(h:Hk u v cv T R F lab C K k P)(h0:k≠0)(hmv:Kg u mv m0 M)(hm:Fh P m0 M) :
  Fn0 Tryz.prog 30 [v,cv,mv] u fun r _=>r=.tuple #[.string (mkS (Ag (Cr (cfE m0 M) P C / C.c))),.int .i64 0]:=by
 have hop:=fun (u':PH) (l:PH.le u u') (mv':Value) (hL:Ad u' mv' 2 ([(mv,m0,M)].map (·.1)))=>R3 true (h.mono l) h0 hL (fun x hx=>by
  simp only [List.mem_cons,List.not_mem_nil,or_false] at hx;subst hx; exact ⟨hmv.mono l,hm⟩) (by simp)
 have hP24:=h.p24;obtain ⟨xa,xc,xb,xd,xe,xf,rfl,_⟩:=id h.sch;obtain ⟨a1,n1,c1,a2,n2,c2,rfl⟩:=h.cof.opn;obtain ⟨na,nc,rfl,_⟩:=id hmv.val;refine Fn0.o Tryz.func30 ?_;refine G.B 52 2 40 (.agg #[.string (mkS []),.slice none 0 0]) [.agg #[.string (mkS (Ag m0)),.slice na M.length nc]] Tb ?_;intro g1 u1 l1 e1;refine G.c Tryz.call47 (hop u1 l1 _ e1.listP) ?_;rintro v2 u2 l2 ⟨x,ls,es,rfl,k2,hls,hla⟩;obtain ⟨e,rfl,he⟩:=Ro hla;obtain ⟨b,a,n,c,b',a',n',c',g1',g2,rfl,hcn⟩:=Kx k2;obtain ⟨la,lc,rfl⟩:=hls.opn;obtain ⟨bb,ob,rfl,eb⟩:=Ad.at' hls (j:=0) (e:=e) rfl;obtain ⟨pa,pc,fa,fc,rfl,_⟩:=id he.val;refine G.nF 0 0 ?_;refine G.a bb ob 1 lc 0 2 (by omega) ?_;refine G.lU (some 2) bb (ob+0*2) (.agg #[.slice pa P.length pc,.slice fa (P.length+1) fc]) eb ?_;refine G.c Tryz.call71 (Alh he k2 (by omega) (h.qok hm)) ?_;intro v3 u3 l3 k3;obtain ⟨b3,a3,n3,c3,b3',a3',n3',c3',rfl⟩:=k3.opn;refine G.c Tryz.call39 (Gy k3 (hcn.mono l3) (((h.qok hm).biasD (by omega)).szb (by omega) (by decide +kernel)) (h.mom.csz.mono (by omega)) (h.mom.cne h0)) ?_;intro v4 u4 l4 k4;obtain ⟨b4,a4,n4,c4,b4',a4',n4',c4',rfl⟩:=k4.opn;refine G.c Tryz.call40 (Gs (ht.mono (((l1.trans l2).trans l3).trans l4)) k4 ((h.biasE h0 hm).tx (by omega) (by omega) (by omega) (by omega))) ?_;rintro v5 u5 l5 rfl;exact G.r (.tuple #[.string (mkS (Ag (Cr (cfE m0 M) P C / C.c))),.int .i64 0]) ⟨rfl,rfl⟩
theorem Ael (h:Hk u v cv T R F lab C K k P)(h0:k=0)(hmv:Kg u mv m0 M) :
  Fn0 Tryz.prog 30 [v,cv,mv] u fun r _=>r=.tuple #[.string (mkS []),.int .i64 12]:=by
 have hop:=fun (u':PH) (l:PH.le u u') (mv':Value)=>Uq (mv:=mv') (h.mono l) h0;obtain ⟨xa,xc,xb,xd,xe,xf,rfl,_⟩:=id h.sch;obtain ⟨a1,n1,c1,a2,n2,c2,rfl⟩:=h.cof.opn;obtain ⟨na,nc,rfl,_⟩:=id hmv.val;refine Fn0.o Tryz.func30 ?_;refine G.B 52 2 40 (.agg #[.string (mkS []),.slice none 0 0]) [.agg #[.string (mkS (Ag m0)),.slice na M.length nc]] Tb ?_;intro g1 u1 l1 e1;refine G.c Tryz.call47 (hop u1 l1 (.slice (some ⟨g1,0,none⟩) 1 1)) ?_;rintro v2 u2 l2 rfl;refine G.nT 12 0 ?_;exact G.r (.tuple #[.string (mkS []),.int .i64 12]) ⟨rfl,rfl⟩
theorem Uf (ht:Ib u)(h:Hk u v cv T R F lab C K k P)(h0:k≠0)(hmv:Kg u mv m0 M)(hm:Fh P m0 M) :
  Fn0 Tryz.prog 31 [v,cv,mv] u fun r _=>r=.tuple #[.string (mkS (Ag (sqC (cfE m0 M) P C / C.c))),.int .i64 0]:=by
 have hop:=fun (u':PH) (l:PH.le u u') (mv':Value) (hL:Ad u' mv' 2 ([(mv,m0,M)].map (·.1)))=>R3 true (h.mono l) h0 hL (fun x hx=>by
  simp only [List.mem_cons,List.not_mem_nil,or_false] at hx;subst hx; exact ⟨hmv.mono l,hm⟩) (by simp)
 have hP24:=h.p24;obtain ⟨xa,xc,xb,xd,xe,xf,rfl,_⟩:=id h.sch;obtain ⟨a1,n1,c1,a2,n2,c2,rfl⟩:=h.cof.opn;obtain ⟨na,nc,rfl,_⟩:=id hmv.val;refine Fn0.o Tryz.func31 ?_;refine G.B 52 2 40 (.agg #[.string (mkS []),.slice none 0 0]) [.agg #[.string (mkS (Ag m0)),.slice na M.length nc]] Tb ?_;intro g1 u1 l1 e1;refine G.c Tryz.call47 (hop u1 l1 _ e1.listP) ?_;rintro v2 u2 l2 ⟨x,ls,es,rfl,k2,hls,hla⟩;obtain ⟨e,rfl,he⟩:=Ro hla;obtain ⟨b,a,n,c,b',a',n',c',g1',g2,rfl,hcn⟩:=Kx k2;obtain ⟨la,lc,rfl⟩:=hls.opn;obtain ⟨bb,ob,rfl,eb⟩:=Ad.at' hls (j:=0) (e:=e) rfl;obtain ⟨pa,pc,fa,fc,rfl,_⟩:=id he.val;refine G.nF 0 0 ?_;refine G.a bb ob 1 lc 0 2 (by omega) ?_;refine G.lU (some 2) bb (ob+0*2) (.agg #[.slice pa P.length pc,.slice fa (P.length+1) fc]) eb ?_;refine G.c Tryz.call72 (sq0 he k2 (by omega) (h.qok hm)) ?_;intro v3 u3 l3 k3;obtain ⟨b3,a3,n3,c3,b3',a3',n3',c3',rfl⟩:=k3.opn;refine G.c Tryz.call39 (Gy k3 (hcn.mono l3) (((h.qok hm).sqD (by omega)).szb (by omega) (by decide +kernel)) (h.mom.csz.mono (by omega)) (h.mom.cne h0)) ?_;intro v4 u4 l4 k4;obtain ⟨b4,a4,n4,c4,b4',a4',n4',c4',rfl⟩:=k4.opn;refine G.c Tryz.call40 (Gs (ht.mono (((l1.trans l2).trans l3).trans l4)) k4 ((h.sqE h0 hm).tx (by omega) (by omega) (by omega) (by omega))) ?_;rintro v5 u5 l5 rfl;exact G.r (.tuple #[.string (mkS (Ag (sqC (cfE m0 M) P C / C.c))),.int .i64 0]) ⟨rfl,rfl⟩
theorem Aav (h:Hk u v cv T R F lab C K k P)(h0:k=0)(hmv:Kg u mv m0 M) :
  Fn0 Tryz.prog 31 [v,cv,mv] u fun r _=>r=.tuple #[.string (mkS []),.int .i64 12]:=by
 have hop:=fun (u':PH) (l:PH.le u u') (mv':Value)=>Uq (mv:=mv') (h.mono l) h0;obtain ⟨xa,xc,xb,xd,xe,xf,rfl,_⟩:=id h.sch;obtain ⟨a1,n1,c1,a2,n2,c2,rfl⟩:=h.cof.opn;obtain ⟨na,nc,rfl,_⟩:=id hmv.val;refine Fn0.o Tryz.func31 ?_;refine G.B 52 2 40 (.agg #[.string (mkS []),.slice none 0 0]) [.agg #[.string (mkS (Ag m0)),.slice na M.length nc]] Tb ?_;intro g1 u1 l1 e1;refine G.c Tryz.call47 (hop u1 l1 (.slice (some ⟨g1,0,none⟩) 1 1)) ?_;rintro v2 u2 l2 rfl;refine G.nT 12 0 ?_;exact G.r (.tuple #[.string (mkS []),.int .i64 12]) ⟨rfl,rfl⟩
theorem Aee (ht:Ib u)(h:Hk u v cv T R F lab C K k P)(h0:k≠0)(hmv:Kg u mv m0 M)(hm:Fh P m0 M)(hv:Kt C Bh Bh≠0) :
  Fn0 Tryz.prog 33 [v,cv,mv] u fun r _=>r=.tuple #[.string (mkS (Ag (1 - sqC (cfE m0 M) P C / C.c / Kt C Bh Bh))),.int .i64 0]:=by
 have hop:=fun (u':PH) (l:PH.le u u') (mv':Value) (hL:Ad u' mv' 2 ([(mv,m0,M)].map (·.1)))=>R3 true (h.mono l) h0 hL (fun x hx=>by
  simp only [List.mem_cons,List.not_mem_nil,or_false] at hx;subst hx; exact ⟨hmv.mono l,hm⟩) (by simp)
 have hP24:=h.p24;have hcov:=h.mom.cov h0 Bh Bh;have hq1:=(h.sqE h0 hm).divq hcov hv;have hq2:De 123 122 (1 - sqC (cfE m0 M) P C / C.c / Kt C Bh Bh):=(De.nat (n:=1) (a:=1) (by omega)).sub hq1 (f:=122) (by omega) (by omega);have c1':((1:Int):Rat)=1:=by decide +kernel
 obtain ⟨xa,xc,xb,xd,xe,xf,rfl,_⟩:=id h.sch;obtain ⟨a1,n1,c1,a2,n2,c2,rfl⟩:=h.cof.opn;obtain ⟨na,nc,rfl,_⟩:=id hmv.val;refine Fn0.o Tryz.func33 ?_;refine G.B 52 2 40 (.agg #[.string (mkS []),.slice none 0 0]) [.agg #[.string (mkS (Ag m0)),.slice na M.length nc]] Tb ?_;intro g1 u1 l1 e1;refine G.c Tryz.call47 (hop u1 l1 _ e1.listP) ?_;rintro v2 u2 l2 ⟨x,ls,es,rfl,k2,hls,hla⟩;obtain ⟨e,rfl,he⟩:=Ro hla;obtain ⟨b,a,n,c,b',a',n',c',g1',g2,rfl,hcn⟩:=Kx k2;obtain ⟨la,lc,rfl⟩:=hls.opn;obtain ⟨bb,ob,rfl,eb⟩:=Ad.at' hls (j:=0) (e:=e) rfl;obtain ⟨pa,pc,fa,fc,rfl,_⟩:=id he.val;refine G.nF 0 0 ?_;refine G.c Tryz.call79 Mp ?_;rintro v3 u3 l3 rfl;refine G.c Tryz.call79 Mp ?_;rintro v4 u4 l4 rfl;refine G.c Tryz.call41 (Ac6 Bh Bh (k2.mono (l3.trans l4)) h.mom h0) ?_;intro v5 u5 l5 k5;obtain ⟨b5,a5,n5,c5,b5',a5',n5',c5',rfl⟩:=k5.opn;refine G.c Tryz.call80 (Gh k5 (Nat.le_trans (hcov.szn (by omega) (by omega) (by omega) (by omega)).1 (by omega))) ?_;rintro v6 u6 l6 rfl;refine G.eF' (sgn (Kt C Bh Bh).num) 0 (fun e=>hv (Pc.1 e)) ?_;have le6:=((l3.trans l4).trans l5).trans l6;refine G.a bb ob 1 lc 0 2 (by omega) ?_;refine G.lU (some 2) bb (ob+0*2) (.agg #[.slice pa P.length pc,.slice fa (P.length+1) fc]) (eb.mono le6) ?_;refine G.c Tryz.call64 (D8 (z:=1) (by omega) (by omega)) ?_;intro v7 u7 l7 k7;rw [c1'] at k7;obtain ⟨b7,a7,n7,c7,b7',a7',n7',c7',rfl⟩:=k7.opn;have le7:=le6.trans l7;refine G.c Tryz.call72 (sq0 (he.mono le7) (k2.mono le7) (by omega) (h.qok hm)) ?_;intro v8 u8 l8 k8;obtain ⟨b8,a8,n8,c8,b8',a8',n8',c8',rfl⟩:=k8.opn;refine G.c Tryz.call39 (Gy k8 (hcn.mono (le7.trans l8)) (((h.qok hm).sqD (by omega)).szb (by omega) (by decide +kernel)) (h.mom.csz.mono (by omega)) (h.mom.cne h0)) ?_;intro v9 u9 l9 k9;obtain ⟨b9,a9,n9,c9,b9',a9',n9',c9',rfl⟩:=k9.opn;refine G.c Tryz.call39 (Gy k9 (k5.mono (((l6.trans l7).trans l8).trans l9)) ((h.sqE h0 hm).s1000 (by omega) (by omega) (by omega) (by omega)) (hcov.s1000 (by omega) (by omega) (by omega) (by omega)) hv) ?_;intro v10 u10 l10 k10;obtain ⟨b10,a10,n10,c10,b10',a10',n10',c10',rfl⟩:=k10.opn;refine G.c Tryz.call48 (Ns (k7.mono ((l8.trans l9).trans l10)) k10 ((De.nat (n:=1) (a:=1) (by omega)).s1000 (by omega) (by omega) (by omega) (by omega)) (hq1.s1000 (by omega) (by omega) (by omega) (by omega))) ?_;intro v11 u11 l11 k11;obtain ⟨b11,a11,n11,c11,b11',a11',n11',c11',rfl⟩:=k11.opn;have le11:=((((l1.trans l2).trans le7).trans l8).trans l9).trans (l10.trans l11);refine G.c Tryz.call40 (Gs (ht.mono le11) k11 (hq2.tx (by omega) (by omega) (by omega) (by omega))) ?_;rintro v12 u12 l12 rfl;exact G.r (.tuple #[.string (mkS (Ag (1 - sqC (cfE m0 M) P C / C.c / Kt C Bh Bh))),.int .i64 0]) ⟨rfl,rfl⟩
end
end
section
open Go.RowKit Go.MapKept
theorem Zw {u:PH}(ht:Ib u):Fn0 Tryz.prog 6 [] u fun r _=>r=.bool true:=by
 refine Fn0.o Tryz.func6 ?_;refine G.buildU 73 2 24 (.agg #[.string (mkS []),.int .i64 0]) [.agg #[.string (mkS [121]),.int .i64 ((2:Nat):Int)]] (by kernel_rfl) (fun x hx=>by
  simp only [List.mem_cons,List.not_mem_nil,or_false] at hx;subst hx; exact ⟨rfl,List.all_eq_true.1 rfl⟩) rfl (by omega) (by simp) (by simp) ?_
 intro g1 u1 l1 e1;refine G.B 3 1 8 (.int .i64 0) [.int .i64 ((0:Nat):Int)] (Az [0]) ?_;intro g2 u2 l2 e2;refine G.buildU 75 2 40 (.agg #[.string (mkS []),.slice none 0 0]) [.agg #[.string (mkS [114]),.slice (some ⟨g2,0,none⟩) 1 1]] (by kernel_rfl) (fun x hx=>by
  simp only [List.mem_cons,List.not_mem_nil,or_false] at hx;subst hx; exact ⟨rfl,List.all_eq_true.1 rfl⟩) rfl (by omega) (by simp) (by simp) ?_
 intro g3 u3 l3 e3;have hsch:D5 u3 (.agg #[.slice (some ⟨g1,0,none⟩) 1 1,.slice (some ⟨g3,0,none⟩) 1 1,.slice none 0 0,.int .i64 0]) Su (X0 g2) [] 0 :=
  ⟨_,_,_,_,_,_,rfl,e1.listP.mono (l2.trans l3),e3.listP,Ad.nil _ _ _ _⟩
 have hok:Bi u3 Su (X0 g2) [] 0:=Anj (e2.listP.mono l3);refine G.B 9 1 16 (.string (mkS [])) [.string (mkS [49])] (Hz [[49]]) ?_;intro g4 u4 l4 e4;refine G.B 9 1 16 (.string (mkS [])) [.string (mkS [51])] (Hz [[51]]) ?_;intro g5 u5 l5 e5;refine G.buildU 62 2 32 (.agg #[.slice none 0 0,.int .i64 0]) [.agg #[.slice (some ⟨g4,0,none⟩) 1 1,.int .i64 1],.agg #[.slice (some ⟨g5,0,none⟩) 1 1,.int .i64 1]] (by kernel_rfl) (fun x hx=>by
  simp only [List.mem_cons,List.not_mem_nil,or_false] at hx;rcases hx with rfl | rfl <;> exact ⟨rfl,List.all_eq_true.1 rfl⟩) rfl (by omega) (by simp) (by simp) ?_
 intro g6 u6 l6 e6;have l36:=(l4.trans l5).trans l6;have hrows:Ad u6 (.slice (some ⟨g6,0,none⟩) (Tp g4 g5).length 2) 2 ((Tp g4 g5).map Ga):=e6.listP;have hW:WOK u6 Su (Tp g4 g5):=fun y hy=>by
  simp only [Tp,List.mem_cons,List.not_mem_nil,or_false] at hy;rcases hy with rfl | rfl
  ·exact ⟨e4.listP.mono (l5.trans l6),Ac1,Nat.le_refl 1,by show 1≤7; omega⟩
  ·exact ⟨e5.listP.mono l6,Ack,Nat.le_refl 1,by show 1≤7; omega⟩
 refine G.c Tryz.call32 (M4 (hsch.mono l36) (hok.mono l36) (by decide) hrows hW (by simp [Tp])) ?_;rintro v7 u7 l7 ⟨x,rfl,k7⟩;have l37:=l36.trans l7;obtain ⟨h1,h2,h3⟩:=Al5 g4 g5;obtain ⟨hb0,hq1,hv1⟩:=Aiz h1 h2 h3;obtain ⟨k,hMe⟩:=Aco (P:=[]) (hsch.mono l37) (hok.mono l37) (by decide) hW.tup (by simp [Tp]) k7 (Amd _) (by simp) (by omega);generalize Bo [] 0 (Tp g4 g5)=C at hMe h1 hb0 hq1 hv1 k7;have h0:k≠0:=by
  rintro rfl;have:=hMe.mom.c;rw [h1] at this;exact absurd this (by decide +kernel)
 obtain ⟨a1,n1,c1,a2,n2,c2,rfl⟩:=k7.opn;have hmv:Kg u7 (.agg #[.string (mkS [50]),.slice none 0 0]) 2 []:=⟨none,0,by rw [Afn]; rfl,Ad.nil _ _ _ _⟩;have ht7:=ht.mono (((l1.trans l2).trans l3).trans l37);have hvar:Kt C Bh Bh≠0:=by rw [hv1]; decide
 have hB:=Ys ht7 hMe h0 hmv Zu;rw [hb0,Fd] at hB;refine G.c Tryz.call30 hB ?_;rintro v8 u8 l8 rfl;have hE:=Uf (ht7.mono l8) (hMe.mono l8) h0 (hmv.mono l8) Zu;rw [hq1,Yl] at hE;refine G.c Tryz.call31 hE ?_;rintro v9 u9 l9 rfl;have le9:=l8.trans l9;have hS:=Aee (ht7.mono le9) (hMe.mono le9) h0 (hmv.mono le9) Zu hvar;rw [hq1,hv1,show (1:Rat) - 1 / 1=0 by decide +kernel,Fd] at hS;refine G.c Tryz.call33 hS ?_;rintro v10 u10 l10 rfl;have le10:=le9.trans l10;have hV:=V7 Bh (ht7.mono le10) (k7.mono le10) hMe.sC hMe.vC (by omega) hMe.mom h0;rw [hv1,Yl] at hV;refine G.c Tryz.call10 hV ?_;rintro v11 u11 l11 rfl;refine G.eT' 0 0 rfl ?_;refine G.eT' 0 0 rfl ?_;refine G.eT' 0 0 rfl ?_;refine G.eT' 0 0 rfl ?_;refine G.q [48] [48] rfl ?_;refine G.q [49] [49] rfl ?_;refine G.q [48] [48] rfl ?_;refine G.q [49] [49] rfl ?_;exact G.r (.bool true) ⟨rfl,rfl⟩
end
section
open Go.RowKit Go.MapKept
theorem Ao8 {p:Am→Bool}{F:List Am}{i:Nat}{f:Am}(h:F[i]?=some f):(F.take (i+1)).any p=((F.take i).any p || p f):=by
 rw [List.take_add_one,h,List.any_append]; simp
theorem Apb {l:List UInt8}(h:l≠[]):l.isEmpty=false:=by cases l with | nil=>exact absurd rfl h | cons _ _=>rfl
theorem Aov {b0 x d b:Bool}(h:b=(b0 && !x)):(b && !d)=(b0 && !(x || d)):=by subst h; cases b0 <;> cases x <;> cases d <;> rfl
theorem Ao0 {u:PH}{v tv:Value}{T:List (List UInt8×Nat)}{R:List Bn}{F:List Am}{lab:Int}{ss:List (List UInt8)}(h:Pq u v tv T R F lab ss) :
  Fn0 Tryz.prog 21 [v,tv] u fun r _=>r=.bool (Pk F lab ss):=by
 have htu:=Adv h;have hlt:=h.lt;obtain ⟨⟨xa,xc,xb,xd,xe,xf,rfl,hTL,hRL,hFL⟩,ok,hS,hT⟩:=h;obtain ⟨ya,yc,rfl⟩:=hS.opn;rw [List.length_map] at hS htu ⊢;have f2:=ok.f2;refine Fn0.o Tryz.func21 ?_;refine G.c Tryz.call51 htu ?_;rintro v1 u1 l1 rfl;refine G.nF 0 0 ?_;unfold Pk;refine dite (lab < 0) (fun hneg=>?A) (fun hneg=>?B)
 case' A =>
  refine G.lT' lab 0 hneg ?_;rw [decide_eq_false (by omega),Bool.false_and];obtain ⟨b0,hb0⟩:∃ b0,true=b0:=⟨_,rfl⟩;rw [show (!false)=b0 from hb0]
 case' B =>
  obtain ⟨l,rfl⟩:∃ l:Nat,lab=(l:Int):=⟨lab.toNat,by omega⟩;have hll:=hlt l rfl;rw [decide_eq_true (by omega),Int.toNat_natCast,Bool.true_and];refine G.lF (l:Int) 0 ?_;obtain ⟨bb,off,hya,e⟩:=Lq (hS.mono l1) hll;subst hya;refine G.a bb off ss.length yc l 1 hll ?_;refine G.lU none bb (off+l*1) (.string (mkS (ss.getD l []))) e ?_;refine dite (ss.getD l [] = []) (fun h0=>?C) (fun h0=>?D)
 case' C =>
  refine G.y (ss.getD l []) [] h0 ?_;rw [h0,show ([]:List UInt8).isEmpty=true from rfl];obtain ⟨b0,hb0⟩:∃ b0,false=b0:=⟨_,rfl⟩;rw [show (!true)=b0 from hb0]
 case' D =>
  refine G.x (ss.getD l []) [] h0 ?_;rw [Apb h0];obtain ⟨b0,hb0⟩:∃ b0,true=b0:=⟨_,rfl⟩;rw [show (!false)=b0 from hb0]
 case' C | D=>generalize (some ⟨bb,off,none⟩:Option Addr)=ya at hS ⊢
 case A | C | D =>
  refine G.loop (ι:=Nat×Bool) (fun i=>[(1,.v (.slice ya ss.length yc)),(5,.v (.bool i.2)),(24,.v (.slice xe F.length xf)),(25,.v (.int .i64 (F.length:Int))),(26,.v (.int .i64 (i.1:Int)))]) (fun _=>[])
   (fun i u' m'=>i.1≤F.length∧i.2=(b0 && !(F.take i.1).any (L1 ss))∧m'=PH.mt) (fun i=>F.length - i.1) (0,b0) (by kernel_rfl) (fun _=>by kernel_rfl) (by subst hb0; exact cv) ⟨by omega,by simp,rfl⟩ ?_
  clear hb0;rintro J ⟨i,b⟩ hJ u2 m2 l2 ⟨hi,hb,rfl⟩;simp only at hi hb hJ;by_cases hif:i < F.length
  ·refine G.lT (i:Int) (F.length:Int) ?_;obtain ⟨f,hf⟩:∃ f,F[i]?=some f:=⟨_,List.getElem?_eq_getElem hif⟩;obtain ⟨ba,oa,rfl,ea⟩:=Ad.at' (hFL.mono (l1.trans l2)) (j:=i) (e:=Bt f) (by simp [hf]);refine G.a ba oa F.length xf i 3 hif ?_;have hfl:=W9 ok.feat hT (List.mem_of_getElem? hf);have hsn:=Ao8 (p:=L1 ss) hf;obtain ⟨f1,k1,m1⟩:=f;simp only at hfl;refine G.lU (some 3) ba (oa+i*3) (.agg #[.int .i64 (f1:Int),.int .i64 (k1:Int),.int .i64 (m1:Int)]) ea ?_;cases b with
   | false =>
    refine G.i i ?_;exact G.b (hJ (i+1,false) _ _ _ cv l2 ⟨by dsimp only; omega,by rw [hsn,← Aov hb]; rfl,rfl⟩ (by dsimp only; omega))
   | true =>
    by_cases h1:k1=1
    ·refine G.nF (k1:Int) 1 ?_;by_cases h2:m1=1
     ·refine G.nF (m1:Int) 1 ?_;obtain ⟨bt,ot,hyt,et⟩:=Lq (hS.mono (l1.trans l2)) hfl;subst hyt;refine G.a bt ot ss.length yc f1 1 hfl ?_;refine G.lU none bt (ot+f1*1) (.string (mkS (ss.getD f1 []))) et ?_;by_cases h0:ss.getD f1 [] = []
      ·refine G.y (ss.getD f1 []) [] h0 ?_;have hd:L1 ss (f1,k1,m1)=true:=by unfold L1; simp only; rw [h1,h2,h0]; rfl
       refine G.i i ?_;exact G.b (hJ (i+1,false) _ _ _ cv l2 ⟨by dsimp only; omega,by rw [hsn,← Aov hb,hd]; rfl,rfl⟩ (by dsimp only; omega))
      ·refine G.x (ss.getD f1 []) [] h0 ?_;have hd:L1 ss (f1,k1,m1)=false:=by unfold L1; simp only; rw [h1,h2,Apb h0]; rfl
       refine G.i i ?_;exact G.b (hJ (i+1,true) _ _ _ cv l2 ⟨by dsimp only; omega,by rw [hsn,← Aov hb,hd]; rfl,rfl⟩ (by dsimp only; omega))
     ·refine G.nT (m1:Int) 1 ?_;have hd:L1 ss (f1,k1,m1)=false:=by simp [L1,h2]
      refine G.i i ?_;exact G.b (hJ (i+1,true) _ _ _ cv l2 ⟨by dsimp only; omega,by rw [hsn,← Aov hb,hd]; rfl,rfl⟩ (by dsimp only; omega))
    ·refine G.nT (k1:Int) 1 ?_;have hd:L1 ss (f1,k1,m1)=false:=by simp [L1,h1]
     refine G.i i ?_;exact G.b (hJ (i+1,true) _ _ _ cv l2 ⟨by dsimp only; omega,by rw [hsn,← Aov hb,hd]; rfl,rfl⟩ (by dsimp only; omega))
  ·obtain rfl:i=F.length:=by omega
   refine G.lF (F.length:Int) (F.length:Int) ?_;rw [List.take_length] at hb;exact G.r (.bool b) ⟨rfl,by rw [hb]⟩
theorem Aow (z:Int)(s w:List UInt8):A9 3 [.agg #[.int .i64 z,.string (mkS s),.string (mkS w)]]:=fun e he=>by
 obtain rfl:=List.mem_singleton.1 he;exact ⟨rfl,List.all_eq_true.1 rfl⟩
theorem Ao3 {u:PH}{v tv:Value}{T:List (List UInt8×Nat)}{R:List Bn}{F:List Am}{lab:Int}{ss:List (List UInt8)}(h:Pq u v tv T R F lab ss) :
  Fn0 Tryz.prog 52 [v,tv] u fun r u'=>∃ lv,r=.tuple #[lv,.int .i64 0]∧Ad u' lv 3 ((Qe F ss F.length).map A3):=by
 have htu:=Adv h;obtain ⟨⟨xa,xc,xb,xd,xe,xf,rfl,hTL,hRL,hFL⟩,ok,hS,hT⟩:=h;obtain ⟨ya,yc,rfl⟩:=hS.opn;rw [List.length_map] at hS htu ⊢;have f2:=ok.f2;refine Fn0.o Tryz.func52 ?_;refine G.c Tryz.call51 htu ?_;rintro v1 u1 l1 rfl;refine G.nF 0 0 ?_;refine G.l (ι:=Nat×Option Addr×Nat) (fun i=>[(1,.v (.slice ya ss.length yc)),(7,.v (.slice i.2.1 (Qe F ss i.1).length i.2.2)),(18,.v (.slice xe F.length xf)),(19,.v (.int .i64 (F.length:Int))),(20,.v (.int .i64 (i.1:Int)))]) (fun _=>[])
  (fun i u' m'=>i.1≤F.length∧Af PH.mt m' (.slice i.2.1 (Qe F ss i.1).length i.2.2) 107 3 ((Qe F ss i.1).map A3)) (fun i=>F.length - i.1) (0,none,0) ⟨by omega,Af.nil _ _ _⟩ ?_
 rintro J ⟨i,a,c⟩ hJ u2 m2 l2 ⟨hi,hA⟩;simp only at hi hA hJ;have le2:=l1.trans l2;by_cases hif:i < F.length
 ·refine G.lT (i:Int) (F.length:Int) ?_;obtain ⟨f,hf⟩:∃ f,F[i]?=some f:=⟨_,List.getElem?_eq_getElem hif⟩;have hfm:=List.mem_of_getElem? hf;have hfl:=W9 ok.feat hT hfm;have hnt:=fun h2 h0=>X3 ok.feat hT hfm h2 h0;have hsucc:=Ae1 (ss:=ss) hf;have hlen:=Ani F ss i;obtain ⟨ba,oa,rfl,ea⟩:=Ad.at' (hFL.mono le2) (j:=i) (e:=Bt f) (by simp [hf]);refine G.a ba oa F.length xf i 3 hif ?_;obtain ⟨f1,k1,m1⟩:=f;simp only at hfl hnt;refine G.lU (some 3) ba (oa+i*3) (.agg #[.int .i64 (f1:Int),.int .i64 (k1:Int),.int .i64 (m1:Int)]) ea ?_;obtain ⟨bt,ot,rfl,et⟩:=Lq (hS.mono le2) hfl;refine G.a bt ot ss.length yc f1 1 hfl ?_;refine G.lU none bt (ot+f1*1) (.string (mkS (ss.getD f1 []))) et ?_;have keep:Ti ss i (f1,k1,m1)=none→Qe F ss (i+1)=Qe F ss i:=fun e=>by rw [hsucc,e]; simp
  have gain:∀ x,Ti ss i (f1,k1,m1)=some x→Qe F ss (i+1)=Qe F ss i++[x]:=fun x e=>by rw [hsucc,e]; simp
  refine dite (k1=2) (fun h2=>?A) (fun h2=>?B)
  case' A =>
   refine G.eT (k1:Int) 2 ?_;have hv:Ti ss i (f1,k1,m1)=some (((i:Int),ss.getD f1 []),1):=by unfold Ti; rw [if_pos h2]
   refine G.B 107 3 40 (.agg #[.int .i64 0,.string (mkS []),.string (mkS [])]) [.agg #[.int .i64 (i:Int),.string (mkS (ss.getD f1 [])),.string (mkS [49])]] (Aow _ _ _) ?_;rw [← Yl];obtain ⟨x,hx⟩:∃ x:Par×Rat,x=(((i:Int),ss.getD f1 []),1):=⟨_,rfl⟩;rw [← hx] at hv
  case' B =>
   refine G.eF (k1:Int) 2 ?_;have hvd:Ti ss i (f1,k1,m1)=if ss.getD f1 [] = []∨ss.getD f1 [] = [48] then none else some (((i:Int),[]),G7 (ss.getD f1 [])):=by unfold Ti; rw [if_neg h2]
   have hnt:=hnt h2;generalize ss.getD f1 []=w at hvd hnt et ⊢;refine dite (w = []) (fun h3=>?C) (fun h3=>?D)
  case' C =>
   refine G.y w [] h3 ?_;rw [if_pos (.inl h3)] at hvd
  case' D =>
   refine G.x w [] h3 ?_;refine dite (w = [48]) (fun h4=>?E) (fun h4=>?H)
  case' E =>
   refine G.y w [48] h4 ?_;rw [if_pos (.inr h4)] at hvd
  case' H =>
   refine G.x w [48] h4 ?_;have hv:=hvd;rw [if_neg (fun e=>e.elim h3 h4)] at hv;refine G.B 107 3 40 (.agg #[.int .i64 0,.string (mkS []),.string (mkS [])]) [.agg #[.int .i64 (i:Int),.string (mkS []),.string (mkS w)]] (Aow _ _ _) ?_;obtain ⟨x,hx⟩:∃ x:Par×Rat,x=(((i:Int),[]),G7 w):=⟨_,rfl⟩;rw [← hx] at hv;have hw:=(hnt h3).2
  case C | E =>
   rw [← keep hvd] at hA ⊢;refine G.i i ?_;exact G.b (hJ (i+1,a,c) _ _ _ cv l2 ⟨by dsimp only; omega,hA⟩ (by dsimp only; omega))
  case A | H =>
   intro g u3 l3 e3;have hg:=gain _ hv;have e3:Ez u3 g 0 3 [A3 x]:=by subst hx; first | exact e3 | (unfold A3; simp only; rw [hw]; exact e3)
   refine G.k 107 3 40 (.agg #[.int .i64 0,.string (mkS []),.string (mkS [])]) PH.mt ((Qe F ss i).map A3) [A3 x] _ g 0 1 1 hA e3 (Ji _) ?_;intro v4 m4 hA4;rw [← List.map_singleton (f:=A3),← List.map_append,← hg] at hA4;obtain ⟨a4,c4,rfl⟩:=hA4.shape;rw [List.length_map] at hA4 ⊢;refine G.i i ?_;exact G.b (hJ (i+1,a4,c4) _ _ _ cv (l2.trans l3) ⟨by dsimp only; omega,hA4⟩ (by dsimp only; omega))
 ·obtain rfl:i=F.length:=by omega
  refine G.lF (F.length:Int) (F.length:Int) ?_;refine G.give _ _ _ (by kernel_rfl) hA (fun g=>.inl rfl) ?_;intro u6 l6 hF;exact G.r (.tuple #[.slice a (Qe F ss F.length).length c,.int .i64 0]) ⟨rfl,_,rfl,hF⟩
end
section
open Go.RowKit Go.MapKept
theorem Apd {u:PH}{b off:Nat}{z:Int}{s w:List UInt8}(h:ElP u b off (.agg #[.int .i64 z,.string (mkS s),.string (mkS w)])):ElP u b (off+0) (.agg #[.int .i64 z,.string (mkS s)]):=h.sub fun i y hy=>by
 match i,hy with
 | 0,hy=>exact hy
 | 1,hy=>exact hy
 | i+2,hy=>simp [Value.cells] at hy
theorem Aoz {u:PH}{v mv:Value}{T:List (List UInt8×Nat)}{R:List Bn}{F:List Am}{lab:Int}{P:List Par}{m0:Rat}{M:List (Par×Rat)}(hX:D5 u v T R F lab)(ok:Bi u T R F lab)(h:Kg u mv m0 M)(hm:Fh P m0 M)(hP:P.length≤10000)(hpar:∀ p∈P,Yy F p) :
  Fn0 Tryz.prog 53 [v,mv] u fun r _=>r=.bool true:=by
 have hck:=Pi hX ok;obtain ⟨xa,xc,xb,xd,xe,xf,rfl,hTL,hRL,hFL⟩:=hX;obtain ⟨a,c,rfl,hM⟩:=h.val;have hml:=hm.len;refine Fn0.o Tryz.func53 ?_;refine G.c Tryz.call74 hck ?_;rintro v1 u1 l1 rfl;refine G.nF 0 0 ?_;refine G.c Tryz.call42 (C7 hm.c.tx) ?_;rintro v2 u2 l2 rfl;refine G.l (ι:=Nat) (fun i=>[(2,.p 0 0),(3,.p 1 0),(18,.v (.slice a M.length c)),(19,.v (.int .i64 (M.length:Int))),(20,.v (.int .i64 (i:Int)))])
  (fun _=>[(0,⟨30,[.v (.slice xa T.length xc),.v (.slice xb R.length xd),.v (.slice xe F.length xf),.v (.int .i64 lab)]⟩),(1,⟨52,[.v (.string (mkS (Ag m0))),.v (.slice a M.length c)]⟩)])
  (fun i u' m'=>i≤M.length∧m'=PH.mt) (fun i=>M.length - i) 0 ⟨by omega,rfl⟩ ?_
 rintro J i hJ u3 m3 l3 ⟨hi,rfl⟩;by_cases hlt:i < M.length
 ·refine G.lT (i:Int) (M.length:Int) ?_;have le3:=(l1.trans l2).trans l3;have hMi:M[i]?=some M[i]:=List.getElem?_eq_getElem hlt;have hMm:=List.getElem_mem hlt;have hpr:i > 0→A4 (M[i - 1]'(by omega)).1 M[i].1 < 0:=fun hp=>by
   have:=List.pairwise_iff_getElem.1 hm.srt (i - 1) i (by simp; omega) (by simpa using hlt) (by omega);simpa using this
  have hMp:i > 0→M[i - 1]?=some (M[i - 1]'(by omega)):=fun hp=>List.getElem?_eq_getElem (by omega);generalize hpe:M[i - 1]'(by omega)=pe at hpr hMp;have ht:=hm.t _ hMm;obtain ⟨k,f,hk,hf,h3⟩:=hpar _ (hm.sub _ hMm);obtain ⟨ba,oa,rfl,ea⟩:=Ad.at' (hM.mono le3) (j:=i) (e:=A3 M[i]) (by simp [hMi]);have hMd:=hM.mono le3;clear hpe;generalize M[i]=x at hMi hMm hpr ht hk h3 ea;obtain ⟨⟨x1,x2⟩,q⟩:=x;simp only at hk h3;subst hk;obtain ⟨hkF,_⟩:=List.getElem?_eq_some_iff.1 hf;refine G.a ba oa M.length c i 3 hlt ?_;refine G.lU (some 3) ba (oa+i*3) (.agg #[.int .i64 (k:Int),.string (mkS x2),.string (mkS (Ag q))]) ea ?_;refine G.lF (k:Int) 0 ?_;refine G.hF (k:Int) (F.length:Int) ?_;refine G.c Tryz.call42 (C7 ht.tx) ?_;rintro v4 u4 l4 rfl;refine dite (i > 0) (fun hp=>?A) (fun hp=>?B)
  case' A =>
   refine G.gT (i:Int) 0 ?_;obtain ⟨⟨y1,y2⟩,yq⟩:=pe;refine G.s (i:Int) 1 ((i - 1:Nat):Int) ?_;refine G.a ba oa M.length c (i - 1) 3 (by omega) ?_;obtain ⟨bb,ob,e0,eb⟩:=Ad.at' (hMd.mono l4) (j:=i - 1) (e:=A3 ((y1,y2),yq)) (by simp [hMp hp]);cases e0;refine G.f 107 ba (oa+(i - 1)*3) 0 0 ?_;refine G.lU (some 2) ba (oa+(i - 1)*3+0) (.agg #[.int .i64 y1,.string (mkS y2)]) (Apd eb) ?_;refine G.c Tryz.call44 (Eg (y1,y2) ((k:Int),x2) true (decide_eq_true (hpr hp))) ?_;rintro v5 u5 l5 rfl
  case' B =>
   refine G.gF (i:Int) 0 ?_;have l5:=PH.le_refl u4
  case A | B =>
   refine dite (x2 = []) (fun h0=>?C) (fun h0=>?D)
   case' C=>refine G.y x2 [] h0 ?_
   case' D =>
    refine G.x x2 [] h0 ?_;obtain ⟨h2,hw⟩:=h3.resolve_left h0;obtain ⟨bf,off,rfl,ef⟩:=Ad.at' (hFL.mono ((le3.trans l4).trans l5)) (j:=k) (e:=Bt f) (by simp [hf]);obtain ⟨f1,f2,f3⟩:=f;simp only at h2;refine G.a bf off F.length xf k 3 hkF ?_;refine G.f 118 bf (off+k*3) 1 1 ?_;refine G.lU none bf (off+k*3+1) (.int .i64 (f2:Int)) (ef.fld (j:=1) (xs:=#[.int .i64 (f1:Int),.int .i64 (f2:Int),.int .i64 (f3:Int)]) rfl rfl) ?_;refine G.eF (f2:Int) 1 ?_;refine G.c Tryz.call105 (Nd hw) ?_;rintro v6 u6 l6 rfl;have l5:=l5.trans l6
   case C | D =>
    refine G.i i ?_;exact G.b (hJ (i+1) _ _ _ cv ((l3.trans l4).trans l5) ⟨by omega,rfl⟩ (by omega))
 ·obtain rfl:i=M.length:=by omega
  refine G.lF (M.length:Int) (M.length:Int) ?_;exact G.r (.bool true) ⟨rfl,rfl⟩
abbrev FV:Type:=Bool×(Option Addr×Nat×Nat)×(Option Addr×Nat×Nat)
def fvV (x:FV):Value:=.agg #[.bool x.1,.slice x.2.1.1 x.2.1.2.1 x.2.1.2.2,.bool false,.slice x.2.2.1 x.2.2.2.1 x.2.2.2.2]
theorem QP.fv {u:PH}{v:Value}{q:Rat}(h:QP u v q):∃ x:FV,v=fvV x:=by
 obtain ⟨b,a,n,c,a',n',c',e,_⟩:=h.opn;exact ⟨(b,(a,n,c),(a',n',c')),e⟩
def Aos (V M:List (Par×Rat))(m0:Rat)(i:Nat):Rat:=m0+Bd (fun t=>t.2*A5 t.1 M) (V.take i)
theorem Ao2 {V M:List (Par×Rat)}{m0:Rat}(h0:SmR m0)(hV:∀ x∈V,SmR x.2)(hM:∀ x∈M,SmR x.2)(i:Nat)(h8:V.length≤8):Dn 2 (100000) (Aos V M m0 i):=by
 have h1:Dn 2 1296 m0:=(Dn.smr h0).to (by omega) (by omega);have h2:Dn 2 ((V.take i).length*11664) (Bd (fun t=>t.2*A5 t.1 M) (V.take i)):=M5 fun t ht=>An1 (p:=(t.2,A5 t.1 M)) (Dn.smr (hV t (List.mem_of_mem_take ht))) (by
  rcases V9 t.1 M with e | ⟨q,hq,e⟩
  ·show Dn 1 108 (A5 t.1 M); rw [e]; exact Dn.zero _ _
  ·show Dn 1 108 (A5 t.1 M); rw [e]; exact Dn.smr (hM _ hq))
 refine (h1.add h2).mono ?_;have:(V.take i).length≤8:=Nat.le_trans (by rw [List.length_take]; omega) h8;omega
theorem Dn.s10 {d N:Nat}{q:Rat}(h:Dn d N q)(hd:d≤4)(hN:N < 10 ^ 20):Sz q 10000000000:=((h.de (a:=20) (b:=6) hN (Nat.lt_of_le_of_lt (Nat.pow_le_pow_right (by omega) hd) (by omega))).szn (by omega) (by omega) (by omega) (by omega)).mono (by omega)
theorem Ao7 {V:List (Par×Rat)}(hV:(V.map (·.1)).Nodup){j:Nat}{x:Par×Rat}(hj:V[j]?=some x)(p:Par):A5 p (V.take (j+1))=if x.1=p then x.2 else A5 p (V.take j):=by
 have e:V.take (j+1)=V.take j++[x]:=by rw [List.take_add_one,hj]; rfl
 have hnew:x.1∉(V.take j).map (·.1):=by
  intro hm;obtain ⟨y,hy,hye⟩:=List.mem_map.1 hm;obtain ⟨i,hi,rfl⟩:=List.getElem_of_mem hy;rw [List.length_take] at hi;have:=Nm hV (i:=i) (j:=j) (x:=x.1) (by rw [List.getElem?_map,List.getElem?_eq_getElem (by omega)]; simp only [Option.map_some]; rw [← hye,List.getElem_take]) (by rw [List.getElem?_map,hj]; rfl);omega
 rw [e,Sg hnew];by_cases h:p=x.1
 ·rw [if_pos h,if_pos h.symm]
 ·rw [if_neg h,if_neg (fun e=>h e.symm)]
theorem Aoy {u:PH}{mv vv:Value}{m0:Rat}{M V:List (Par×Rat)}(h:Kg u mv m0 M)(hv:Ad u vv 3 (V.map A3))(h0:SmR m0)(hMs:∀ x∈M,SmR x.2)(hVs:∀ x∈V,SmR x.2)(hn:(M.map (·.1)).Nodup)(h8:V.length≤8)(hM8:M.length≤10000) :
  Fn0 Tryz.prog 54 [mv,vv] u fun r u'=>QP u' r (Aol m0 M V):=by
 obtain ⟨a,c,rfl,hM⟩:=h.val;obtain ⟨va,vc,rfl⟩:=hv.opn;rw [List.length_map] at hv ⊢;refine Fn0.o Tryz.func54 ?_;refine G.c Tryz.call23 (Ex h0.tx) ?_;intro v1 u1 l1 k1;obtain ⟨y,rfl⟩:=k1.fv;refine G.l (ι:=Nat×FV) (fun i=>[(1,.v (.slice va V.length vc)),(2,.p 0 0),(4,.p 1 0),(5,.p 1003 0),(13,.v (.slice va V.length vc)),(14,.v (.int .i64 (V.length:Int))),(15,.v (.int .i64 (i.1:Int)))])
  (fun i=>[(0,⟨52,[.v (.string (mkS (Ag m0))),.v (.slice a M.length c)]⟩),(1,⟨58,[.v (.bool false),.v (.slice none 0 0),.v (.bool false),.v (.slice none 0 0)]⟩),
   (1003,⟨58,[.v (.bool i.2.1),.v (.slice i.2.2.1.1 i.2.2.1.2.1 i.2.2.1.2.2),.v (.bool false),.v (.slice i.2.2.2.1 i.2.2.2.2.1 i.2.2.2.2.2)]⟩)])
  (fun i u' m'=>i.1≤V.length∧QP u' (fvV i.2) (Aos V M m0 i.1)∧m'=PH.mt) (fun i=>V.length - i.1) (0,y) ⟨by omega,by unfold Aos; simpa [Bd,Rat.add_zero] using k1,rfl⟩ ?_
 rintro J ⟨i,z⟩ hJ u2 m2 l2 ⟨hi,hz,rfl⟩;simp only at hi hz hJ;by_cases hlt:i < V.length
 ·refine G.lT (i:Int) (V.length:Int) ?_;obtain ⟨t,ht⟩:∃ t,V[i]?=some t:=⟨_,List.getElem?_eq_getElem hlt⟩;have htk:=D1 ht;have hts:=hVs t (List.mem_of_getElem? ht);obtain ⟨ba,oa,rfl,ea⟩:=Ad.at' (hv.mono (l1.trans l2)) (j:=i) (e:=A3 t) (by simp [ht]);refine G.a ba oa V.length vc i 3 hlt ?_;obtain ⟨⟨t1,t2⟩,q⟩:=t;refine G.lU (some 3) ba (oa+i*3) (.agg #[.int .i64 t1,.string (mkS t2),.string (mkS (Ag q))]) ea ?_;refine G.l (ι:=Nat×FV) (fun j=>[(1,.v (.slice (some ⟨ba,oa,none⟩) V.length vc)),(2,.p 0 0),(4,.p 1 0),(5,.p 1003 0),(7,.p 4002 0),(13,.v (.slice (some ⟨ba,oa,none⟩) V.length vc)),(14,.v (.int .i64 (V.length:Int))),(15,.v (.int .i64 (i:Int))),(20,.v (.slice a M.length c)),(21,.v (.int .i64 (M.length:Int))),(22,.v (.int .i64 (j.1:Int)))])
   (fun j=>[(0,⟨52,[.v (.string (mkS (Ag m0))),.v (.slice a M.length c)]⟩),(1,⟨58,[.v (.bool false),.v (.slice none 0 0),.v (.bool false),.v (.slice none 0 0)]⟩),
    (1003,⟨58,[.v (.bool j.2.1),.v (.slice j.2.2.1.1 j.2.2.1.2.1 j.2.2.1.2.2),.v (.bool false),.v (.slice j.2.2.2.1 j.2.2.2.2.1 j.2.2.2.2.2)]⟩),
    (4002,⟨107,[.v (.int .i64 t1),.v (.string (mkS t2)),.v (.string (mkS (Ag q)))]⟩)])
   (fun j u' m'=>j.1≤M.length∧QP u' (fvV j.2) (Aos V M m0 i+q*A5 (t1,t2) (M.take j.1))∧m'=PH.mt) (fun j=>M.length - j.1) (0,z)
   ⟨by omega,by simpa [A5,Rat.mul_zero,Rat.add_zero] using hz,rfl⟩ ?_
  rintro J2 ⟨j,w⟩ hJ2 u3 m3 l3 ⟨hj,hw,rfl⟩;simp only at hj hw hJ2;by_cases hjl:j < M.length
  ·refine G.lT (j:Int) (M.length:Int) ?_;obtain ⟨x,hx⟩:∃ x,M[j]?=some x:=⟨_,List.getElem?_eq_getElem hjl⟩;have hxs:=hMs x (List.mem_of_getElem? hx);have hat:=Ao7 hn hx (t1,t2);obtain ⟨bm,om,rfl,em⟩:=Ad.at' (hM.mono ((l1.trans l2).trans l3)) (j:=j) (e:=A3 x) (by simp [hx]);refine G.a bm om M.length c j 3 hjl ?_;obtain ⟨⟨x1,x2⟩,r⟩:=x;refine G.lU (some 3) bm (om+j*3) (.agg #[.int .i64 x1,.string (mkS x2),.string (mkS (Ag r))]) em ?_;simp only at hat hxs hts;by_cases he:((x1,x2):Par)=(t1,t2)
   ·refine G.eqAgg 44 #[.int .i64 x1,.string (mkS x2)] #[.int .i64 t1,.string (mkS t2)] true (by kernel_rfl) (by kernel_rfl) (by kernel_rfl) (fun w=>by rw [← decide_eq_true he]; exact Ba.eq (x1,x2) (t1,t2) w) ?_;rw [if_pos he] at hat;have hno:A5 (t1,t2) (M.take j)=0:=Gn fun hm=>by
     obtain ⟨y,hy,hye⟩:=List.mem_map.1 hm;obtain ⟨jj,hjj,hyj⟩:=List.getElem_of_mem hy;have h1:jj < j:=by rw [List.length_take] at hjj; omega
     have h2:(M.map (·.1))[jj]?=some (t1,t2):=by
      rw [List.getElem_take] at hyj;simp [List.getElem?_eq_getElem (show jj < M.length by omega),hyj,hye]
     have h3:(M.map (·.1))[j]?=some (t1,t2):=by simp [hx,he]
     have:=Nm hn h2 h3;omega
    rw [hno,Rat.mul_zero,Rat.add_zero] at hw;refine G.c Tryz.call23 (Ex hxs.tx) ?_;intro v4 u4 l4 k4;obtain ⟨y4,rfl⟩:=k4.fv;refine G.c Tryz.call23 (Ex hts.tx) ?_;intro v5 u5 l5 k5;obtain ⟨y5,rfl⟩:=k5.fv;refine G.c Tryz.call26 (F2 (k4.mono l5) k5 (hxs.sz.mono (by omega)) (hts.sz.mono (by omega))) ?_;intro v6 u6 l6 k6;obtain ⟨y6,rfl⟩:=k6.fv;have hpd:=Ao2 h0 hVs hMs i h8;refine G.c Tryz.call25 (Nv (hw.mono ((l4.trans l5).trans l6)) k6 (hpd.s10 (by omega) (by omega)) ((An1 (p:=(r,q)) (Dn.smr hxs) (Dn.smr hts)).s10 (by omega) (by omega))) ?_;intro v7 u7 l7 k7;obtain ⟨y7,rfl⟩:=k7.fv;refine G.i j ?_;exact G.b (hJ2 (j+1,y7) _ _ _ cv (l3.trans (((l4.trans l5).trans l6).trans l7)) ⟨by dsimp only; omega,by dsimp only; rw [hat,Rat.mul_comm q r]; exact k7,rfl⟩ (by dsimp only; omega))
   ·refine G.eqAgg 44 #[.int .i64 x1,.string (mkS x2)] #[.int .i64 t1,.string (mkS t2)] false (by kernel_rfl) (by kernel_rfl) (by kernel_rfl) (fun w=>by rw [← decide_eq_false he]; exact Ba.eq (x1,x2) (t1,t2) w) ?_;rw [if_neg he] at hat;refine G.i j ?_;exact G.b (hJ2 (j+1,w) _ _ _ cv l3 ⟨by dsimp only; omega,by dsimp only; rw [hat]; exact hw,rfl⟩ (by dsimp only; omega))
  ·obtain rfl:j=M.length:=by omega
   refine G.lF (M.length:Int) (M.length:Int) ?_;rw [List.take_length] at hw;refine G.i i ?_;refine G.b (hJ (i+1,w) _ _ _ cv (l2.trans l3) ⟨by dsimp only; omega,?_,rfl⟩ (by dsimp only; omega));have:Aos V M m0 (i+1)=Aos V M m0 i+q*A5 (t1,t2) M:=by unfold Aos; rw [htk,Lh,Rat.add_assoc]
   dsimp only; rw [this]; exact hw
 ·obtain rfl:i=V.length:=by omega
  refine G.lF (V.length:Int) (V.length:Int) ?_;have e:Aos V M m0 V.length=Aol m0 M V:=by unfold Aos Aol; rw [List.take_length]
  rw [e] at hz;exact G.r (fvV z) ⟨rfl,hz⟩
theorem Ao4 {T:List (List UInt8×Nat)}{F:List Am}{lab:Int}{ss:List (List UInt8)}(hF:Cy T F lab)(ht:Ca T ss):∀ x∈Qe F ss F.length,SmR x.2:=fun x hx=>by
 obtain ⟨j,f,hj,hf,hv⟩:=Sb.1 hx;unfold Ti at hv;split at hv
 ·cases hv; exact Jl
 ·rename_i h2;split at hv
  ·cases hv
  ·rename_i h0; cases hv; exact (X3 hF ht (List.mem_of_getElem? hf) h2 (fun e=>h0 (.inl e))).1
theorem Aot {u:PH}{v tv mv:Value}{T:List (List UInt8×Nat)}{R:List Bn}{F:List Am}{lab:Int}{ss:List (List UInt8)}{P:List Par}{m0:Rat}{M:List (Par×Rat)}(h:Pq u v tv T R F lab ss)(hM:Kg u mv m0 M)(hm:Fh P m0 M)(hP:P.length≤10000)(hpar:∀ p∈P,Yy F p) :
  Fn0 Tryz.prog 22 [v,mv,tv] u fun r _=>r=.tuple #[.string (mkS (Ag (Aol m0 M (Qe F ss F.length)))),.int .i64 0]:=by
 have hvc:=Ao3 h;have hvl:=fun (u':PH) (l:PH.le u u')=>Aoz (h.sch.mono l) (h.ok.mono l) (hM.mono l) hm hP hpar;have f2:=h.ok.f2;have hfeat:=h.ok.feat;have hfit:=h.fit;have hl:=Ani F ss F.length;have hVs:∀ x∈Qe F ss F.length,SmR x.2:=Ao4 hfeat hfit;obtain ⟨⟨xa,xc,xb,xd,xe,xf,rfl,hTL,hRL,hFL⟩,ok,hS,hT⟩:=h;obtain ⟨ya,yc,rfl⟩:=hS.opn;obtain ⟨a,c,rfl,hMl⟩:=id hM.val;rw [List.length_map] at hvc ⊢;refine Fn0.o Tryz.func22 ?_;refine G.c Tryz.call52 hvc ?_;rintro _ u1 l1 ⟨lv,rfl,hv⟩;obtain ⟨la,lc,rfl⟩:=Ad.opn hv;rw [List.length_map] at hv ⊢;refine G.nF 0 0 ?_;refine G.c Tryz.call53 (hvl u1 l1) ?_;rintro v2 u2 l2 rfl;have hml:=hm.len;refine G.c Tryz.call54 (Aoy (hM.mono (l1.trans l2)) (hv.mono l2) hm.c hm.t hVs (hm.srt.nodup Dd) (by omega) (by omega)) ?_;intro v3 u3 l3 k3;obtain ⟨y3,rfl⟩:=k3.fv;have hd:Dn 2 100000 (Aol m0 M (Qe F ss F.length)):=by
  have:=Ao2 (V:=Qe F ss F.length) hm.c hVs hm.t (Qe F ss F.length).length (by omega);unfold Aos at this; rw [List.take_length] at this; exact this
 refine G.c Tryz.call28 (H7 k3 ((hd.de (a:=20) (b:=6) (by omega) (by omega)).tx (by omega) (by omega) (by omega) (by omega))) ?_;rintro v4 u4 l4 rfl;exact G.r (.tuple #[.string (mkS (Ag (Aol m0 M (Qe F ss F.length)))),.int .i64 0]) ⟨rfl,rfl⟩
end
section
open Go.RowKit Go.MapKept
structure Zs (L:List Par)(m0:Rat)(M:List (Par×Rat)):Prop where
 c:SmR m0
 t:∀ x∈M,SmR x.2
 sub:(M.map (·.1)).Sublist L
theorem Zs.ok {P:List Par}{m0:Rat}{M:List (Par×Rat)}(h:Zs P m0 M)(hP:Dx A4 P):Fh P m0 M where
 c:=h.c
 t:=h.t
 srt:=List.Pairwise.sublist h.sub hP
 sub:=fun x hx=>h.sub.subset (List.mem_map.2 ⟨x,hx,rfl⟩)
 len:=by have:=h.sub.length_le; rwa [List.length_map] at this
theorem Adt {u:PH}{s:Src}{ts:List Int}{k:Nat}{v:Value}{L:List Par}(h:Hv u s ts)(hk:k≤s.n)(hL:Ad u v 2 (L.map Ak))(hl:L.length≤1000) :
  Ae Tryz.prog 18 [s.ptr,v] u (s.M k) fun r u' m'=>∃ (m0:Rat) (M:List (Par×Rat)) (k':Nat),Kg u' r m0 M∧Zs L m0 M∧k'≤s.n∧m'=s.M k':=by
 obtain ⟨la,lc,rfl⟩:=hL.opn;rw [List.length_map] at hL ⊢;refine Ae.o Tryz.func18 ?_;refine G.A Tryz.call45 (Acr h hk) ?_;rintro v1 u1 m1 l1 ⟨m0,k1,rfl,hm0,hk1,rfl⟩ _;rw [Ci];refine G.l (ι:=Nat×Nat×List (Par×Rat)×(Option Addr×Nat)) (fun i=>[(0,.v s.ptr),(4,.p 0 0),(5,.p 1003 0),(11,.v (.slice la L.length lc)),(12,.v (.int .i64 (L.length:Int))),(13,.v (.int .i64 (i.1:Int)))])
  (fun i=>[(0,⟨52,[.v (.string (mkS [])),.v (.slice none 0 0)]⟩),(1003,⟨52,[.v (.string (mkS (Ag m0))),.v (.slice i.2.2.2.1 i.2.2.1.length i.2.2.2.2)]⟩)])
  (fun i u' m'=>i.1≤L.length∧i.2.1≤s.n∧(i.2.2.1.map (·.1)).Sublist (L.take i.1)∧(∀ x∈i.2.2.1,SmR x.2)∧Bag m' [s.arr i.2.1,Amj i.2.2.2.1 i.2.2.2.2 i.2.2.1])
  (fun i=>L.length - i.1) (0,k1,[],(none,0))
  ⟨Nat.zero_le _,hk1,List.Sublist.refl _,fun q hq=>by simp at hq,s.bag0 k1 ⟨PH.mt,Af.nil _ _ _,trivial⟩⟩ ?_
 rintro J ⟨i,k2,M,⟨ma,mc⟩⟩ hJ u2 m2 l2 ⟨hi,hk2,hsub,hsm,hbag⟩;simp only at hi hk2 hsub hsm hbag hJ;have le2:=l1.trans l2;have hMl:M.length≤1000:=by
  have:=hsub.length_le;rw [List.length_map,List.length_take] at this; omega
 obtain ⟨mx,hsrc,hM⟩:=hbag;obtain ⟨rfl,hg0⟩:=Src.split hsrc;by_cases hlt:i < L.length
 ·refine G.lT (i:Int) (L.length:Int) ?_;obtain ⟨p,hLi⟩:∃ p,L[i]?=some p:=⟨_,List.getElem?_eq_getElem hlt⟩;have htk:=D1 hLi;obtain ⟨ba,oa,rfl,ea⟩:=Ad.at' (hL.mono le2) (j:=i) (e:=Ak p) (by simp [hLi]);refine G.a ba oa L.length lc i 2 hlt ?_;refine G.lU (some 2) ba (oa+i*2) (.agg #[.int .i64 p.1,.string (mkS p.2)]) ea ?_;refine G.D Tryz.call46 (Src.apart hg0) (Im (n:=5) (h.mono le2) hk2 (by omega) (by omega)) ?_;rintro v3 u3 m3 l3 ⟨r,k3,rfl,hr,hk3,rfl⟩ _;by_cases hr0:0 < r
  ·refine G.gT (r:Int) 0 ?_;refine G.D Tryz.call45 (Src.apart hg0) (Acr ((h.mono le2).mono l3) hk3) ?_;rintro v4 u4 m4 l4 ⟨q,k4,rfl,hq,hk4,rfl⟩ _;refine G.B 107 3 40 (.agg #[.int .i64 0,.string (mkS []),.string (mkS [])]) [.agg #[.int .i64 p.1,.string (mkS p.2),.string (mkS (Ag q))]] (Ji (p,q)) ?_;intro g5 u5 l5 e5;have hbag2:Bag (mx.or (s.M k4)) [s.arr k4,Amj ma mc M]:=⟨mx,Src.at hg0,hM⟩;obtain ⟨mm,hx0,hput⟩:=hbag2.focus 1 rfl;refine G.k 107 3 40 (.agg #[.int .i64 0,.string (mkS []),.string (mkS [])]) mm (M.map A3) [A3 (p,q)] _ g5 0 1 1 hx0 e5 (Ji (p,q)) ?_;intro v6 m6 hA6;rw [show M.map A3++[A3 (p,q)]=(M++[(p,q)]).map A3 by rw [List.map_append]; rfl] at hA6;obtain ⟨a6,c6,rfl⟩:=hA6.shape;rw [List.length_map] at hA6 ⊢;have hbag3:=hput (Amj a6 c6 (M++[(p,q)])) m6 hA6;refine G.i i ?_;refine G.b (hJ (i+1,k4,M++[(p,q)],(a6,c6)) _ _ _ cv (((l2.trans l3).trans l4).trans l5) ⟨by dsimp only; omega,hk4,?_,?_,hbag3⟩ (by dsimp only; omega))
   ·show ((M++[(p,q)]).map (·.1)).Sublist _;rw [htk,List.map_append];exact hsub.append (List.Sublist.refl _)
   ·intro x hx;rcases List.mem_append.1 hx with hx | hx
    ·exact hsm x hx
    ·simp only [List.mem_singleton] at hx; subst hx; exact hq
  ·refine G.gF (r:Int) 0 ?_;refine G.i i ?_;refine G.b (hJ (i+1,k3,M,(ma,mc)) _ _ _ cv (l2.trans l3) ⟨by dsimp only; omega,hk3,?_,hsm,⟨mx,Src.at hg0,hM⟩⟩ (by dsimp only; omega));show (M.map (·.1)).Sublist _;rw [htk];exact hsub.trans (List.sublist_append_left _ _)
 ·obtain rfl:i=L.length:=by omega
  refine G.lF (L.length:Int) (L.length:Int) ?_;rw [List.take_length] at hsub;refine G.giveP (ma:=mx) (sm:=s.M k2) (by kernel_rfl) rfl (Src.apart hg0) (s.h0 k k2) ?_;intro u3 l3 hm;exact G.r (.agg #[.string (mkS (Ag m0)),.slice ma M.length mc]) ⟨m0,M,k2,⟨ma,mc,rfl,hM.list hm 0 rfl⟩,⟨hm0,hsm,hsub⟩,hk2,rfl⟩
end
section
open Go.RowKit Go.MapKept
def Aor (a0:Rat)(A:List (Par×Rat))(b0:Rat)(B:List (Par×Rat))(e:Option Par):Rat:=cfE a0 A e - cfE b0 B e
theorem Apa {u:PH}{P:List Par}{x y:Value×Rat×List (Par×Rat)}{es:List Value}(h:Iq u es P [x,y]):∃ e f,es = [e,f]∧Ow u e P (cfE x.2.1 x.2.2)∧Ow u f P (cfE y.2.1 y.2.2):=by
 obtain ⟨h1,h2⟩:=h;obtain ⟨e,he,hl⟩:=h2 0 x rfl;obtain ⟨f,hf,hl2⟩:=h2 1 y rfl
 match es,h1,he,hf with
 | [p,q],_,he,hf=>cases he; cases hf; exact ⟨e,f,rfl,hl,hl2⟩
theorem Apc {s s':List UInt8}{a a':Option Addr}{n c n' c':Nat}:A9 2 [.agg #[.string (mkS s),.slice a n c],.agg #[.string (mkS s'),.slice a' n' c']]:=by
 intro x hx;simp only [List.mem_cons,List.not_mem_nil,or_false] at hx;rcases hx with rfl | rfl <;> exact ⟨rfl,List.all_eq_true.1 rfl⟩
section
variable {u:PH} {v cv av bv:Value} {T:List (List UInt8×Nat)} {R:List Bn} {F:List Am} {lab:Int} {C:CF} {K k:Nat} {P:List Par} {a0 b0:Rat} {A B:List (Par×Rat)}
theorem Hk.dok (h:Hk u v cv T R F lab C K k P)(ha:Fh P a0 A)(hb:Fh P b0 B):QOK (Aor a0 A b0 B) C :=
 ⟨fun e=>(Sm (T9 ha e) (T9 hb e)).mono (by omega),h.d⟩
theorem Hk.difD (h:Hk u v cv T R F lab C K k P)(h0:k≠0)(ha:Fh P a0 A)(hb:Fh P b0 B):De 49 22 (Fp (Aor a0 A b0 B) P C / C.c):=by
 rw [h.mom.c];exact (((h.dok ha hb).nm (by have:=h.p24; omega)).de (a:=49) (b:=20) (by decide +kernel) (by decide +kernel)).divn (by omega) h.lt
theorem Aou (ht:Ib u)(h:Hk u v cv T R F lab C K k P)(h0:k≠0)(hav:Kg u av a0 A)(ha:Fh P a0 A)(hbv:Kg u bv b0 B)(hb:Fh P b0 B) :
  Fn0 Tryz.prog 19 [v,cv,av,bv] u fun r _=>r=.tuple #[.string (mkS (Ag (Fp (Aor a0 A b0 B) P C / C.c))),.int .i64 0]:=by
 have hop:=fun (u':PH) (l:PH.le u u') (mv':Value) (hL:Ad u' mv' 2 ([(av,a0,A),(bv,b0,B)].map (·.1)))=>R3 false (h.mono l) h0 hL (fun x hx=>by
  simp only [List.mem_cons,List.not_mem_nil,or_false] at hx;rcases hx with rfl | rfl
  ·exact ⟨hav.mono l,ha⟩
  ·exact ⟨hbv.mono l,hb⟩) (by simp)
 have hP24:=h.p24;have hEl:=Fu P;obtain ⟨xa,xc,xb,xd,xe,xf,rfl,_⟩:=id h.sch;obtain ⟨a1,n1,c1,a2,n2,c2,rfl⟩:=h.cof.opn;obtain ⟨na,nc,rfl,_⟩:=id hav.val;obtain ⟨oa,oc,rfl,_⟩:=id hbv.val;refine Fn0.o Tryz.func19 ?_;refine G.B 52 2 40 (.agg #[.string (mkS []),.slice none 0 0]) [.agg #[.string (mkS (Ag a0)),.slice na A.length nc],.agg #[.string (mkS (Ag b0)),.slice oa B.length oc]] Apc ?_;intro g1 u1 l1 e1;refine G.c Tryz.call47 (hop u1 l1 _ e1.listP) ?_;rintro v2 u2 l2 ⟨x,ls,es,rfl,k2,hls,hla⟩;obtain ⟨e,f,rfl,he,hf⟩:=Apa hla;obtain ⟨mb,ma,mn,mc,mb',ma',mn',mc',g1',g2,rfl,hcn⟩:=Kx k2;obtain ⟨la,lc,rfl⟩:=hls.opn;obtain ⟨bb,ob,rfl,eb⟩:=Ad.at' hls (j:=0) (e:=e) rfl;obtain ⟨bb',ob',eqb,eb2⟩:=Ad.at' hls (j:=1) (e:=f) rfl;cases eqb;obtain ⟨pa,pc,fa,fc,rfl,hpl,es1,hL1,hF1⟩:=id he.val;obtain ⟨pa2,pc2,fa2,fc2,rfl,_,es2,hL2,hF2⟩:=id hf.val;refine G.nF 0 0 ?_;refine G.a bb ob 2 lc 0 2 (by omega) ?_;refine G.f 113 bb (ob+0*2) 0 0 ?_;refine G.lU none bb (ob+0*2+0) (.slice pa P.length pc) (eb.fld (j:=0) (xs:=#[.slice pa P.length pc,.slice fa (P.length+1) fc]) rfl rfl) ?_;refine G.a bb ob 2 lc 0 2 (by omega) ?_;refine G.f 113 bb (ob+0*2) 1 1 ?_;refine G.lU none bb (ob+0*2+1) (.slice fa (P.length+1) fc) (eb.fld (j:=1) (xs:=#[.slice pa P.length pc,.slice fa (P.length+1) fc]) rfl rfl) ?_;refine G.l (ι:=Nat×(Option Addr×Nat)×List Value) (fun i=>[(10,.p 1010 0),(11,.v (.slice (some ⟨bb,ob,none⟩) 2 lc)),(13,.p 4005 0),(37,.v (.slice fa (P.length+1) fc)),(38,.v (.int .i64 ((P.length+1:Nat):Int))),(39,.v (.int .i64 (i.1:Int)))])
  (fun i=>[(1010,⟨93,[.v (.bool mb),.v (.slice ma mn mc),.v (.bool mb'),.v (.slice ma' mn' mc'),.v (.map (some g1')),.v (.map (some g2))]⟩),(4005,⟨113,[.v (.slice pa P.length pc),.v (.slice i.2.1.1 i.2.2.length i.2.1.2)]⟩)])
  (fun i u' m'=>i.1≤P.length+1∧Gw u' i.2.2 (((Bw P).take i.1).map (Aor a0 A b0 B))∧Af PH.mt m' (.slice i.2.1.1 i.2.2.length i.2.1.2) 89 4 i.2.2) (fun i=>P.length+1 - i.1) (0,(none,0),[]) ⟨by omega,⟨rfl,fun j x hx=>by simp at hx⟩,Af.nil _ _ _⟩ ?_
 rintro J ⟨i,⟨da,dc⟩,ds⟩ hJ u3 m3 l3 ⟨hi,hD,hA⟩;simp only at hi hD hA hJ;have hdl:ds.length=i:=by rw [hD.1,List.length_map,List.length_take]; omega
 by_cases hlt:i < P.length+1
 ·refine G.lT (i:Int) ((P.length+1:Nat):Int) ?_;obtain ⟨o,hEi⟩:∃ o,(Bw P)[i]?=some o:=⟨_,List.getElem?_eq_getElem (by omega)⟩;have htk:=D1 hEi;obtain ⟨y1,hy1,hfy1⟩:=hF1.2 i (cfE a0 A o) (by rw [List.getElem?_map,hEi]; rfl);obtain ⟨y2,hy2,hfy2⟩:=hF2.2 i (cfE b0 B o) (by rw [List.getElem?_map,hEi]; rfl);obtain ⟨fb,fo,rfl,ef⟩:=Ad.at' (hL1.mono l3) (j:=i) (e:=y1) hy1;obtain ⟨fb2,fo2,rfl,ef2⟩:=Ad.at' (hL2.mono l3) (j:=i) (e:=y2) hy2;have hfy1:=hfy1.mono l3;have hfy2:=hfy2.mono l3;obtain ⟨b4,a4,n4,c4,b4',a4',n4',c4',rfl⟩:=hfy1.opn;obtain ⟨b5,a5,n5,c5,b5',a5',n5',c5',rfl⟩:=hfy2.opn;refine G.a fb fo (P.length+1) fc i 4 hlt ?_;refine G.lU (some 4) fb (fo+i*4) (.agg #[.bool b4,.slice a4 n4 c4,.bool b4',.slice a4' n4' c4']) ef ?_;refine G.a bb ob 2 lc 1 2 (by omega) ?_;refine G.f 113 bb (ob+1*2) 1 1 ?_;refine G.lU none bb (ob+1*2+1) (.slice (some ⟨fb2,fo2,none⟩) (P.length+1) fc2) ((eb2.mono l3).fld (j:=1) (xs:=#[.slice pa2 P.length pc2,.slice (some ⟨fb2,fo2,none⟩) (P.length+1) fc2]) rfl rfl) ?_;refine G.a fb2 fo2 (P.length+1) fc2 i 4 hlt ?_;refine G.lU (some 4) fb2 (fo2+i*4) (.agg #[.bool b5,.slice a5 n5 c5,.bool b5',.slice a5' n5' c5']) ef2 ?_;refine G.c Tryz.call48 (Ns hfy1 hfy2 ((T9 ha o).szb (by omega) (by omega)) ((T9 hb o).szb (by omega) (by omega))) ?_;intro v6 u6 l6 k6;have k6o:=k6.ok;obtain ⟨b6,a6,n6,c6,b6',a6',n6',c6',rfl⟩:=k6.opn;refine G.B 89 4 64 (.agg #[.bool false,.slice none 0 0,.bool false,.slice none 0 0]) [.agg #[.bool b6,.slice a6 n6 c6,.bool b6',.slice a6' n6' c6']] k6o ?_;intro g7 u7 l7 e7;refine G.append 89 4 64 (.agg #[.bool false,.slice none 0 0,.bool false,.slice none 0 0]) PH.mt ds [.agg #[.bool b6,.slice a6 n6 c6,.bool b6',.slice a6' n6' c6']] _ g7 0 1 1 (by kernel_rfl) rfl rfl (by omega) hA e7 k6o rfl (by omega) (by show (ds.length+1)*64≤140737488355328; omega) (by show ds.length+1≤9223372036854775807; omega) ?_;intro v8 m8 hA8;obtain ⟨a8,c8,rfl⟩:=hA8.shape;have hD8:Gw u7 (ds++[.agg #[.bool b6,.slice a6 n6 c6,.bool b6',.slice a6' n6' c6']]) (((Bw P).take (i+1)).map (Aor a0 A b0 B)):=by
   rw [htk,List.map_append];exact (hD.mono (l6.trans l7)).snoc (k6.mono l7)
  refine G.i i ?_;exact G.b (hJ (i+1,(a8,c8),ds++[.agg #[.bool b6,.slice a6 n6 c6,.bool b6',.slice a6' n6' c6']]) _ _ _ cv ((l3.trans l6).trans l7) ⟨by dsimp only; omega,hD8,hA8⟩ (by dsimp only; omega))
 ·obtain rfl:i=P.length+1:=by omega
  refine G.lF ((P.length+1:Nat):Int) ((P.length+1:Nat):Int) ?_;rw [List.take_of_length_le (by omega)] at hD;refine G.give _ _ _ (by kernel_rfl) hA (fun g=>.inl rfl) ?_;intro u10 l10 hLs;have hlin:Ow u10 (.agg #[.slice pa P.length pc,.slice da ds.length dc]) P (Aor a0 A b0 B):=by
   refine ⟨pa,pc,da,dc,by rw [hdl],hpl.mono (l3.trans l10),ds,?_,hD.mono l10⟩;rw [← hdl]; exact hLs
  have hnz:=(h.dok ha hb).nm (P:=P) (by omega);refine G.c Tryz.call49 (Anp hlin (k2.mono (l3.trans l10)) (by omega) (h.dok ha hb)) ?_;intro v11 u11 l11 k11;obtain ⟨b11,a11,n11,c11,b11',a11',n11',c11',rfl⟩:=k11.opn;refine G.c Tryz.call39 (Gy k11 (hcn.mono ((l3.trans l10).trans l11)) (hnz.szb (by omega) (by decide +kernel)) (h.mom.csz.mono (by omega)) (h.mom.cne h0)) ?_;intro v12 u12 l12 k12;obtain ⟨b12,a12,n12,c12,b12',a12',n12',c12',rfl⟩:=k12.opn;refine G.c Tryz.call40 (Gs (ht.mono (((l1.trans l2).trans ((l3.trans l10).trans l11)).trans l12)) k12 ((h.difD h0 ha hb).tx (by omega) (by omega) (by omega) (by omega))) ?_;rintro v13 u13 l13 rfl;exact G.r (.tuple #[.string (mkS (Ag (Fp (Aor a0 A b0 B) P C / C.c))),.int .i64 0]) ⟨rfl,rfl⟩
end
end
section
open Go.RowKit Go.MapKept
theorem Ao6 {M V:List (Par×Rat)}(hM:(M.map (·.1)).Nodup)(hV:(V.map (·.1)).Nodup):Bd (fun m=>m.2*A5 m.1 V) M=Bd (fun t=>t.2*A5 t.1 M) V:=by
 have hU:(M.map (·.1)++(V.map (·.1)).filter fun p=>decide (p∉M.map (·.1))).Nodup:=by
  refine List.nodup_append.2 ⟨hM,hV.filter _,fun a ha b hb e=>?_⟩;subst e;simpa [ha] using (List.mem_filter.1 hb).2
 rw [← Vf hU hM (fun x hx=>List.mem_append_left _ (List.mem_map.2 ⟨x,hx,rfl⟩)) (fun p=>A5 p V),
  ← Vf hU hV (fun x hx=>?_) (fun p=>A5 p M)]
 ·exact Bz fun p _=>Rat.mul_comm _ _
 ·by_cases h:x.1∈M.map (·.1)
  ·exact List.mem_append_left _ h
  ·exact List.mem_append_right _ (List.mem_filter.2 ⟨List.mem_map.2 ⟨x,hx,rfl⟩,by simpa using h⟩)
theorem Aox {P:List Par}(hP:P.Nodup){m0:Rat}{M V:List (Par×Rat)}(hm:Fh P m0 M)(hV:(V.map (·.1)).Nodup){s:Par→Rat}(hs:∀ p∈P,s p=A5 p V):Ki (cfE m0 M) P s=Aol m0 M V:=by
 have hn:=hm.srt.nodup Dd;show m0+Bd (fun p=>A5 p M*s p) P=m0+Bd (fun t=>t.2*A5 t.1 M) V;rw [Vf hP hn hm.sub,← Ao6 hn hV,Bz (g:=fun m=>m.2*A5 m.1 V) fun m h=>by rw [hs m.1 (hm.sub m h)]]
theorem Ao9 {T:List (List UInt8×Nat)}{F:List Am}{lab:Int}{P:List Par}{a0 b0:Rat}{A B:List (Par×Rat)}(hF:Cy T F lab)(h1:-1≤lab)(h2:∀ l:Nat,lab=(l:Int)→l < T.length)(hP:P.Nodup)(hp:∀ p∈P,Yy F p)(ha:Fh P a0 A)(hb:Fh P b0 B)(L:List E9){y:E9}(hy:Ca T y.1) :
  Fp (Aor a0 A b0 B) P (Bo F lab (L++[y]))=Fp (Aor a0 A b0 B) P (Bo F lab L)+if Pk F lab y.1=true then (Aol a0 A (Qe F y.1 F.length) - Aol b0 B (Qe F y.1 F.length))*(Aol a0 A (Qe F y.1 F.length) - Aol b0 B (Qe F y.1 F.length))*(y.2.1:Rat) else 0:=by
 have hl:∀ l:Nat,lab=(l:Int)→l < y.1.length:=fun l e=>by have:=h2 l e; have:=hy.len; omega
 rw [Fk,Ad6];rcases Ox hF hy h1 hl with ⟨hc,o⟩ | ⟨hc,o⟩
 ·rw [if_pos hc,o.norm];have hs:∀ p∈P,(cfT F lab y.1).s p=A5 p (Qe F y.1 F.length):=fun p hpp=>An0 hF hy h1 hl hc (by obtain ⟨k,_,e,_⟩:=hp p hpp; omega);have hV:=Rh F y.1 F.length (Nat.le_refl _);have e:Ki (Aor a0 A b0 B) P (cfT F lab y.1).s=Aol a0 A (Qe F y.1 F.length) - Aol b0 B (Qe F y.1 F.length):=by
   rw [← Aox hP ha hV hs,← Aox hP hb hV hs]; exact Anf _ _ _ _
  rw [e]
 ·rw [if_neg (by rw [hc]; simp),o.norm,Rat.zero_mul]
theorem Ao5 {P:List Par}{F:List Am}{T:List (List UInt8×Nat)}{lab:Int}{ss:List (List UInt8)}{m0:Rat}{M:List (Par×Rat)}(hF:Cy T F lab)(ht:Ca T ss)(hm:Fh P m0 M)(h8:F.length≤8):Dn 2 100000 (Aol m0 M (Qe F ss F.length)):=by
 have hl:=Ani F ss F.length;have:=Ao2 (V:=Qe F ss F.length) hm.c (Ao4 hF ht) hm.t (Qe F ss F.length).length (by omega);unfold Aos at this; rw [List.take_length] at this; exact this
theorem QP.fv' {u:PH}{v:Value}{q:Rat}(h:QP u v q):∃ x:FV,v=fvV x∧QP u (fvV x) q:=by
 obtain ⟨x,rfl⟩:=h.fv; exact ⟨x,rfl,h⟩
theorem Ao1 {u:PH}{v:Value}{ts:List Int}(ht:Ib u)(hv:Ad u v 1 (Dg ts))(hlo:∀ t∈ts,-9223372036854775808≤t)(hhi:∀ t∈ts,t≤9223372036854775807) :
  Fn0 Tryz.prog 4 [v] u fun v' _=>v'=.bool true:=by
 obtain ⟨a,c,rfl⟩:=hv.opn;rw [By] at hv ⊢;refine Fn0.o Tryz.func4 ?_;by_cases h400:400 < ts.length
 ·refine G.gT (ts.length:Int) 400 ?_;refine G.c Tryz.call6 (Zw ht) ?_;rintro v1 u1 l1 rfl;exact G.r (.bool true) ⟨rfl,rfl⟩
 refine G.gF (ts.length:Int) 400 ?_;refine G.callO _ _ (by kernel_rfl) Tryz.call7 (Aiy hv (by omega) hlo hhi) ?_;rintro v1 u1 m1 l1 ⟨s,rfl,rfl,hs⟩ _;rw [Ci];refine G.A Tryz.call8 (Al4 hs (Nat.zero_le _)) ?_;rintro v2 u2 m2 l2 ⟨T,R,F,lab,L,xv,lv,cv,pv,ev,k2,rfl,w,hk2,rfl⟩ _;rw [Ci];obtain ⟨P,k,hP,hP20,hMe⟩:=w.meas;have ht2:=ht.mono (l1.trans l2);have hPs:=hMe.prm.1;have hpar:=hMe.par;have hfeat:=w.ok.feat;have hl1:=w.ok.l1;have hlt:=Aa0 w.ok;have hf8:=w.ok.f2;have hwok:=w.wok;have hrows:=w.rows;have hl6:=w.l6;obtain ⟨la,lc,rfl⟩:=hrows.opn;rw [List.length_map] at hrows ⊢;have htup:∀ (u':PH) (l:PH.le u2 u') {y:E9} (hy:y∈L),Pq u' xv (.slice y.2.2.1 y.1.length y.2.2.2) T R F lab y.1:=fun u' l {y} hy=>⟨w.sch.mono l,w.ok.mono l,((hwok y hy).1).mono l,(hwok y hy).2.1⟩;obtain ⟨xa,xc,xb,xd,xe,xf,rfl,_⟩:=id w.sch;have hC:=w.cof;clear w;obtain ⟨C,hCe⟩:∃ C,Bo F lab L=C:=⟨_,rfl⟩;rw [hCe] at hMe hC;have hS:=hMe.mom;obtain ⟨a1,n1,c1,a2,n2,c2,rfl⟩:=id hC.opn;obtain ⟨pa,pc,rfl⟩:=hP.opn;rw [List.length_map] at hP ⊢;by_cases h0:k=0
 ·have hc0:C.c=0:=by rw [hS.c,h0]; rfl
  refine G.q (Ag C.c) [48] (by rw [hc0,Fd]) ?_;refine G.drop PH.mt (by kernel_rfl) (PH.mt_le _) ?_;refine G.c Tryz.call6 (Zw ht2) ?_;rintro v7 u7 l7 rfl;exact G.r (.bool true) ⟨rfl,rfl⟩
 have hcn:=hS.cne h0;refine G.w (Ag C.c) [48] (I6 hcn) ?_;refine G.A Tryz.call18 (Adt (hs.mono l2) hk2 hP (by omega)) ?_;rintro v3 u3 m3 l3 ⟨a0,A,k3,hav,haf,hk3,rfl⟩ _;rw [Ci];have ha:=haf.ok hPs;obtain ⟨aa,ac,rfl,_⟩:=id hav.val;refine G.A Tryz.call18 (Adt ((hs.mono l2).mono l3) hk3 (hP.mono l3) (by omega)) ?_;rintro v4 u4 m4 l4 ⟨b0,B,k4,hbv,hbf,hk4,rfl⟩ _;rw [Ci];have hb:=hbf.ok hPs;obtain ⟨ba,bc,rfl,_⟩:=id hbv.val;refine G.drop PH.mt (by kernel_rfl) (PH.mt_le _) ?_;have le4:=l3.trans l4;have hM4:=hMe.mono le4;have ht4:=ht2.mono le4;have hav4:=hav.mono l4;refine G.c Tryz.call19 (Aou ht4 hM4 h0 hav4 ha hbv hb) ?_;rintro v5 u5 l5 rfl;have hsw:Fp (Aor b0 B a0 A) P C=Fp (Aor a0 A b0 B) P C:=by
  rw [← Am9 (Aor a0 A b0 B) P C]; congr 1; funext e; unfold Aor; grind
 have hzz:Fp (Aor a0 A a0 A) P C=0:=Amc P C fun e=>by unfold Aor; grind
 have hd5:=Aou (ht4.mono l5) (hM4.mono l5) h0 (hbv.mono l5) hb (hav4.mono l5) ha;rw [hsw] at hd5;refine G.c Tryz.call19 hd5 ?_;rintro v6 u6 l6 rfl;have hd6:=Aou ((ht4.mono l5).mono l6) ((hM4.mono l5).mono l6) h0 ((hav4.mono l5).mono l6) ha ((hav4.mono l5).mono l6) ha;rw [hzz,Rat.div_def,Rat.zero_mul] at hd6;refine G.c Tryz.call19 hd6 ?_;rintro v7 u7 l7 rfl;refine G.nF 0 0 ?_;refine G.nF 0 0 ?_;refine G.nF 0 0 ?_;have hdT:Tx (Fp (Aor a0 A b0 B) P C / C.c):=(hMe.difD h0 ha hb).tx (by omega) (by omega) (by omega) (by omega);obtain ⟨N,hN⟩:∃ N,Fp (Aor a0 A b0 B) P C / C.c=N:=⟨_,rfl⟩;rw [hN] at hdT ⊢;refine G.y (Ag N) (Ag N) rfl ?_;refine G.y (Ag 0) [48] Fd ?_;refine G.c Tryz.call20 (Wu (z:=0) (by omega) (by omega)) ?_;intro v8 u8 l8 k8;obtain ⟨y8,rfl,k8⟩:=k8.fv';have le8:=le4.trans (((l5.trans l6).trans l7).trans l8);refine G.l (ι:=Nat×FV) (fun i=>[(4,.p 4007 0),(6,.p 4008 0),(8,.p 7006 0),(9,.p 7007 0),(10,.v (.string (mkS (Ag N)))),(16,.p 13001 0),(93,.v (.slice la L.length lc)),(94,.v (.int .i64 (L.length:Int))),(95,.v (.int .i64 (i.1:Int)))])
  (fun i=>[(4007,⟨30,[.v (.slice xa T.length xc),.v (.slice xb R.length xd),.v (.slice xe F.length xf),.v (.int .i64 lab)]⟩),(4008,⟨36,[.v (.string (mkS (Ag C.c))),.v (.slice a1 n1 c1),.v (.slice a2 n2 c2)]⟩),
   (7006,⟨52,[.v (.string (mkS (Ag a0))),.v (.slice aa A.length ac)]⟩),(7007,⟨52,[.v (.string (mkS (Ag b0))),.v (.slice ba B.length bc)]⟩),
   (13001,⟨58,[.v (.bool i.2.1),.v (.slice i.2.2.1.1 i.2.2.1.2.1 i.2.2.1.2.2),.v (.bool false),.v (.slice i.2.2.2.1 i.2.2.2.2.1 i.2.2.2.2.2)]⟩)])
  (fun i u' m'=>i.1≤L.length∧QP u' (fvV i.2) (Fp (Aor a0 A b0 B) P (Bo F lab (L.take i.1)))∧Dn 4 (i.1*280000000000) (Fp (Aor a0 A b0 B) P (Bo F lab (L.take i.1)))∧m'=PH.mt) (fun i=>L.length - i.1) (0,y8)
  ⟨by omega,?_,?_,rfl⟩ ?_
 ·have e:Fp (Aor a0 A b0 B) P (Bo F lab (L.take 0))=((0:Int):Rat):=Aei.norm _ _;dsimp only; rw [e]; exact k8
 ·have e:Fp (Aor a0 A b0 B) P (Bo F lab (L.take 0))=0:=Aei.norm _ _;dsimp only; rw [e]; exact Dn.zero _ _
 rintro J ⟨i,z⟩ hJ u9 m9 l9 ⟨hi,hz,hzd,rfl⟩;simp only at hi hz hzd hJ;have le9:=le8.trans l9;by_cases hil:i < L.length
 ·refine G.lT (i:Int) (L.length:Int) ?_;obtain ⟨y,hy⟩:∃ y,L[i]?=some y:=⟨_,List.getElem?_eq_getElem hil⟩;have hym:=List.mem_of_getElem? hy;have htk:=D1 hy;have hyo:=hwok y hym;have hst:=Ao9 hfeat hl1 hlt (hPs.nodup Dd) hpar ha hb (L.take i) hyo.2.1;rw [← htk] at hst;have dA:=Ao5 hfeat hyo.2.1 ha hf8;have dB:=Ao5 hfeat hyo.2.1 hb hf8;have htp:=fun (u':PH) (l:PH.le u2 u')=>htup u' l hym;obtain ⟨bb,ob,rfl,eb⟩:=Ad.at' (hrows.mono le9) (j:=i) (e:=Ga y) (by simp [hy]);refine G.a bb ob L.length lc i 2 hil ?_;obtain ⟨ss,wt,sa,sc⟩:=y;simp only at hst dA dB htp hyo;refine G.lU (some 2) bb (ob+i*2) (.agg #[.slice sa ss.length sc,.int .i64 (wt:Int)]) eb ?_;refine G.c Tryz.call21 (Ao0 (htp u9 le9)) ?_;rintro v10 u10 l10 rfl;cases hc:Pk F lab ss with
  | false =>
   rw [if_neg (by rw [hc]; simp),Rat.add_zero] at hst;refine G.i i ?_;exact G.b (hJ (i+1,z) _ _ _ cv (l9.trans l10) ⟨by dsimp only; omega,by dsimp only; rw [hst]; exact hz.mono l10,by dsimp only; rw [hst]; exact hzd.mono (by omega),rfl⟩ (by dsimp only; omega))
  | true =>
   rw [if_pos hc] at hst;have le10:=le9.trans l10;have hP24:=hMe.p24;refine G.c Tryz.call22 (Aot (htp u10 le10) (hav.mono (PH.le.trans (l4.trans (((l5.trans l6).trans l7).trans l8)) (l9.trans l10))) ha (by omega) hpar) ?_;rintro v11 u11 l11 rfl;refine G.c Tryz.call22 (Aot (htp u11 (le10.trans l11)) (hbv.mono (PH.le.trans (((l5.trans l6).trans l7).trans l8) ((l9.trans l10).trans l11))) hb (by omega) hpar) ?_;rintro v12 u12 l12 rfl;generalize Aol a0 A (Qe F ss F.length)=pA at hst dA;generalize Aol b0 B (Qe F ss F.length)=pB at hst dB;refine G.nF 0 0 ?_;refine G.nF 0 0 ?_;have tA:Tx pA:=(dA.de (a:=20) (b:=6) (by omega) (by omega)).tx (by omega) (by omega) (by omega) (by omega);have tB:Tx pB:=(dB.de (a:=20) (b:=6) (by omega) (by omega)).tx (by omega) (by omega) (by omega) (by omega);refine G.c Tryz.call23 (Ex tA) ?_;intro v13 u13 l13 k13;obtain ⟨y13,rfl,k13⟩:=k13.fv';refine G.c Tryz.call23 (Ex tB) ?_;intro v14 u14 l14 k14;obtain ⟨y14,rfl,k14⟩:=k14.fv';refine G.c Tryz.call24 (Ab3 (k13.mono l14) k14 (dA.s10 (by omega) (by omega)) (dB.s10 (by omega) (by omega))) ?_;intro v15 u15 l15 k15;obtain ⟨y15,rfl,k15⟩:=k15.fv';have dd:=Sm dA dB;have d2:=dd.mul dd;have hw:=hyo.2.2.2;have d3:=d2.mul (Aeg hw);refine G.c Tryz.call26 (F2 k15 k15 (dd.s10 (by omega) (by omega)) (dd.s10 (by omega) (by omega))) ?_;intro v16 u16 l16 k16;obtain ⟨y16,rfl,k16⟩:=k16.fv';refine G.c Tryz.call20 (Wu (z:=(wt:Int)) (by omega) (by omega)) ?_;intro v17 u17 l17 k17;obtain ⟨y17,rfl,k17⟩:=k17.fv';rw [Rat.intCast_natCast] at k17;refine G.c Tryz.call26 (F2 (k16.mono l17) k17 (d2.s10 (by omega) (by omega)) ((Aeg hw).s10 (by omega) (by omega))) ?_;intro v18 u18 l18 k18;obtain ⟨y18,rfl,k18⟩:=k18.fv';have lz:=((((((((l10.trans l11).trans l12).trans l13).trans l14).trans l15).trans l16).trans l17).trans l18);refine G.c Tryz.call25 (Nv (hz.mono lz) k18 (hzd.s10 (by omega) (by omega)) (d3.s10 (by omega) (by omega))) ?_;intro v19 u19 l19 k19;obtain ⟨y19,rfl,k19⟩:=k19.fv';refine G.i i ?_;exact G.b (hJ (i+1,y19) _ _ _ cv (l9.trans (lz.trans l19)) ⟨by dsimp only; omega,by dsimp only; rw [hst]; exact k19,by dsimp only; rw [hst]; exact (hzd.add d3).mono (by omega),rfl⟩ (by dsimp only; omega))
 ·obtain rfl:i=L.length:=by omega
  refine G.lF (L.length:Int) (L.length:Int) ?_;rw [List.take_length,hCe] at hz hzd;refine G.c Tryz.call23 (Ex hS.tx) ?_;intro v10 u10 l10 k10;obtain ⟨y10,rfl,k10⟩:=k10.fv';refine G.c Tryz.call27 (Ajr (hz.mono l10) k10 (hzd.s10 (by omega) (by omega)) (hS.csz.mono (by omega)) hcn) ?_;intro v11 u11 l11 k11;obtain ⟨y11,rfl,k11⟩:=k11.fv';rw [hN] at k11;refine G.c Tryz.call28 (H7 k11 hdT) ?_;rintro v12 u12 l12 rfl;refine G.q (Ag N) (Ag N) rfl ?_;refine G.c Tryz.call6 (Zw (ht2.mono (((le9.trans l10).trans l11).trans l12))) ?_;rintro v13 u13 l13 rfl;exact G.r (.bool true) ⟨rfl,rfl⟩
end
end Go.Proofs.YtnlfnomchebmcaaGreatDoor
