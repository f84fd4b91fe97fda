/- Parts of one proof, joined by a program. -/
import Derived.Test.YtnlfnomchebmcaaGreatDoorKA11
set_option linter.unusedVariables false
set_option linter.unusedSimpArgs false
set_option linter.unusedSectionVars false
set_option maxHeartbeats 16000000
namespace Go.Proofs.YtnlfnomchebmcaaGreatDoor
section
open Go.RowKit Go.MapKept
theorem Aa0 {u:PH}{T:List (List UInt8×Nat)}{R:List Bn}{F:List Am}{lab:Int}(ok:Bi u T R F lab):∀ l:Nat,lab=(l:Int)→l < T.length:=fun l hl=>by
 obtain ⟨n,hn⟩:=ok.l2 l hl;exact (List.getElem?_eq_some_iff.1 hn).1
theorem Afm {u:PH}{T:List (List UInt8×Nat)}{R:List Bn}{F:List Am}{lab:Int}{L:List E9}(ok:Bi u T R F lab)(h8:T.length≤8)(hT:∀ y∈L,Ca T y.1∧y.2.1≤7)(h6:L.length≤6):CFD 16 (10 ^ 39) (Bo F lab L):=by
 obtain ⟨d,_⟩:=Wv ok hT;refine d.to (by omega) ?_;have e:12 ^ (16 - 2*T.length)=144 ^ (8 - T.length):=by
  rw [show 16 - 2*T.length=2*(8 - T.length) by omega,Nat.pow_mul]
 have h1:144 ^ (8 - T.length)≤46656 ^ (8 - T.length):=Nat.pow_le_pow_left (by omega) _;have h2:46656 ^ T.length*46656 ^ (8 - T.length)=46656 ^ 8:=by rw [← Nat.pow_add]; congr 1; omega
 have h3:46656 ^ 8*42≤10 ^ 39:=by decide +kernel
 rw [e];have h4:L.length*(46656 ^ T.length*7)*144 ^ (8 - T.length)≤6*(46656 ^ T.length*7)*46656 ^ (8 - T.length):=Nat.mul_le_mul (Nat.mul_le_mul_right _ h6) h1;have h5:6*(46656 ^ T.length*7)*46656 ^ (8 - T.length)=(46656 ^ T.length*46656 ^ (8 - T.length))*42:=by
  generalize 46656 ^ T.length=a;generalize 46656 ^ (8 - T.length)=b;rw [Nat.mul_comm 6,Nat.mul_assoc a 7 6,Nat.mul_assoc a b 42,Nat.mul_assoc a (7*6) b,Nat.mul_comm (7*6) b]
 rw [h5,h2] at h4;exact Nat.le_trans h4 h3
theorem Ah8 {u:PH}{T:List (List UInt8×Nat)}{R:List Bn}{F:List Am}{lab:Int}{L:List E9}(ok:Bi u T R F lab)(h8:T.length≤8)(hT:∀ y∈L,Ca T y.1∧y.2.1≤7)(h6:L.length≤6):∃ k,Ht (Bo F lab L) k:=by
 obtain ⟨k,hk,hk7⟩:=Alr ok.feat ok.l1 (Aa0 ok) hT;have d:=Afm ok h8 hT h6;have e2:12 ^ 16 < 10 ^ 18:=by decide +kernel
 obtain ⟨d',_⟩:=Wv ok hT;have e1:L.length*(46656 ^ T.length*7) < 10 ^ 39:=by
  have h1:46656 ^ T.length≤46656 ^ 8:=Nat.pow_le_pow_right (by omega) h8;have h2:46656 ^ 8*42 < 10 ^ 39:=by decide +kernel
  have h3:=Nat.mul_le_mul h6 (Nat.mul_le_mul_right 7 h1);omega
 have e3:12 ^ (2*T.length) < 10 ^ 18:=Nat.lt_of_le_of_lt (Nat.pow_le_pow_right (by omega) (by omega)) e2;exact ⟨k,hk,by omega,fun p=>(d'.s p).de e1 e3,fun p=>(d'.t p).de e1 e3⟩
theorem Aco {u:PH}{T:List (List UInt8×Nat)}{R:List Bn}{F:List Am}{lab:Int}{L:List E9}{xv cv:Value}{P:List Par}(hX:D5 u xv T R F lab)(ok:Bi u T R F lab)(h8:T.length≤8)(hT:∀ y∈L,Ca T y.1∧y.2.1≤7)(h6:L.length≤6)
  (hC:Hb u cv (Bo F lab L) 1530) (hP:S2 F (Bo F lab L) P) (p24:P.length≤24) (lab0:0≤lab):∃ k,Hk u xv cv T R F lab (Bo F lab L) 1530 k P:=by
 obtain ⟨k,hk⟩:=Ah8 ok h8 hT h6;obtain ⟨sC,vC⟩:=M6 ok h8 hT (by omega);exact ⟨k,hX,ok,hC,sC,vC,by omega,Ac2,hk,hP,p24,lab0,Afm ok h8 hT h6⟩
theorem Nq.meas {u:PH}{T:List (List UInt8×Nat)}{R:List Bn}{F:List Am}{lab:Int}{L:List E9}{xv lv cv pv ev:Value}(w:Nq u T R F lab L xv lv cv pv ev) :
  ∃ P k,Ad u pv 2 (P.map Ak)∧P.length≤20∧Hk u xv cv T R F lab (Bo F lab L) 1530 k P:=by
 obtain ⟨P,_,h1,h2,h3⟩:=w.par;obtain ⟨k,hk⟩:=Aco w.sch w.ok w.t8 w.wok.tup w.l6 w.cof h3 (by omega) w.lab0;exact ⟨P,k,h1,h2,hk⟩
end
section
open Go.RowKit Go.MapKept
def Su:List (List UInt8×Nat):=[([121],2)]
def X0 (g:Nat):List Bn:=[([114],[0],(some ⟨g,0,none⟩,1))]
def Tp (g h:Nat):List E9:=[([[49]],1,(some ⟨g,0,none⟩,1)),([[51]],1,(some ⟨h,0,none⟩,1))]
theorem Anj {u:PH}{g:Nat}(h:Ad u (.slice (some ⟨g,0,none⟩) 1 1) 1 (Ai [0])):Bi u Su (X0 g) [] 0 where
 att:=⟨Oh (by decide +kernel),fun a ha=>by simp [Su] at ha; subst ha; decide⟩
 rel:=⟨Oh (by show (([[114]]:List (List UInt8)).all Gc && decide ([[114]]:List (List UInt8)).Nodup)=true; decide +kernel),fun r hr=>by simp [X0] at hr; subst hr; simp,fun r hr a ha=>by simp [X0] at hr; subst hr; simp at ha; show a < 1; omega,fun r hr=>by simp [X0] at hr; subst hr; simp,fun r hr k x y h1 h2=>by
  simp [X0] at hr; subst hr;simp at h2,fun a ha=>⟨_,List.mem_singleton.2 rfl,by
  have:a < 1:=ha;simp; omega⟩,fun r hr=>by simp [X0] at hr; subst hr; exact h⟩
 feat:=⟨fun f hf=>by simp at hf,by decide⟩
 t1:=by decide
 t2:=by decide
 r1:=by show 0 < 1; omega
 r2:=by show 1≤6; omega
 f2:=by decide
 l1:=by decide
 l2:=fun l hl=>by
  have:l=0:=by omega
  subst this; exact ⟨[121],rfl⟩
theorem Ali (t:List UInt8)(v:Rat)(h:∀ n:Fin 19,∀ d:Fin 13,d.val≠0→Ag (Rat.divInt ((n.val:Int) - 9) (d.val:Int))=t→Rat.divInt ((n.val:Int) - 9) (d.val:Int)=v){q:Rat}(hq:SmR q)(e:Ag q=t):q=v:=by
 have h1:=hq.num;have h2:=hq.le;have h3:=q.den_pos;have h4:=h ⟨(q.num+9).toNat,by omega⟩ ⟨q.den,by omega⟩ (by simpa using by omega);simp only at h4;rw [show (((q.num+9).toNat:Nat):Int) - 9=q.num by omega,Rat.num_divInt_den] at h4;exact h4 e
theorem Ajd:SmR 2:=⟨by decide +kernel,by decide +kernel⟩
theorem Ue:SmR 3:=⟨by decide +kernel,by decide +kernel⟩
theorem Aj7:G7 [49]=1:=by
 obtain ⟨h1,h2⟩:=Ls (t:=[49]) ⟨1,Jl,by decide +kernel⟩;exact Ali [49] 1 (by decide +kernel) h1 h2
theorem Ai7:G7 [51]=3:=by
 obtain ⟨h1,h2⟩:=Ls (t:=[51]) ⟨3,Ue,by decide +kernel⟩;exact Ali [51] 3 (by decide +kernel) h1 h2
theorem Ac1:Ca Su [[49]]:=⟨rfl,fun i x t hx ht=>by
 match i,hx,ht with
 | 0,hx,ht=>cases hx; cases ht; exact .inr (.inr (.inr ⟨rfl,1,Jl,by decide +kernel⟩))
 | i+1,hx,ht=>simp [Su] at hx⟩
theorem Ack:Ca Su [[51]]:=⟨rfl,fun i x t hx ht=>by
 match i,hx,ht with
 | 0,hx,ht=>cases hx; cases ht; exact .inr (.inr (.inr ⟨rfl,3,Ue,by decide +kernel⟩))
 | i+1,hx,ht=>simp [Su] at hx⟩
theorem Alf {t:List UInt8}(ht:Ca Su [t])(hc:Pk [] 0 [t]=true)(hne:t≠[]):(cfT [] 0 [t]).c=1∧(cfT [] 0 [t]).s Bh=G7 t∧(cfT [] 0 [t]).t (Ar Bh Bh)=G7 t*G7 t:=by
 have hF:Cy Su [] 0:=⟨fun f hf=>by simp at hf,by decide⟩;have hl:∀ l:Nat,(0:Int)=(l:Int)→l < [t].length:=fun l hl=>by simp; omega
 have hs:(cfT [] 0 [t]).s Bh=G7 t:=Aa8 hF ht (by omega) hl hc (a:=0) (by
  rw [Ew (w:=t) rfl];unfold Di Lx;rw [if_pos (show ((0:Nat):Int)=0 from rfl),if_neg hne]; rfl)
 rcases Ox hF ht (by omega) hl with ⟨_,h⟩ | ⟨h,_⟩
 ·exact ⟨h.c,hs,by rw [h.t,hs]⟩
 ·rw [h] at hc; cases hc
theorem Al5 (g h:Nat):(Bo [] 0 (Tp g h)).c=2∧(Bo [] 0 (Tp g h)).s Bh=4∧(Bo [] 0 (Tp g h)).t (Ar Bh Bh)=10:=by
 obtain ⟨a1,a2,a3⟩:=Alf Ac1 (by decide +kernel) (by decide);obtain ⟨b1,b2,b3⟩:=Alf Ack (by decide +kernel) (by decide);rw [Aj7] at a2 a3;rw [Ai7] at b2 b3;refine ⟨?_,?_,?_⟩
 ·show 0+(cfT [] 0 [[49]]).c*((1:Nat):Rat)+(cfT [] 0 [[51]]).c*((1:Nat):Rat)=2;rw [a1,b1]; decide +kernel
 ·show 0+(cfT [] 0 [[49]]).s Bh*((1:Nat):Rat)+(cfT [] 0 [[51]]).s Bh*((1:Nat):Rat)=4;rw [a2,b2]; decide +kernel
 ·show 0+(cfT [] 0 [[49]]).t (Ar Bh Bh)*((1:Nat):Rat)+(cfT [] 0 [[51]]).t (Ar Bh Bh)*((1:Nat):Rat)=10;rw [a3,b3]; decide +kernel
theorem Amd (C:CF):S2 [] C []:=⟨List.Pairwise.nil,fun p=>⟨fun h=>by simp at h,fun h=>by
 rcases h with ⟨i,f,_,hf,_⟩ | ⟨_,i,f,_,hf,_⟩ <;> simp at hf⟩⟩
theorem Zu:Fh [] 2 []:=⟨Ajd,fun x hx=>by simp at hx,List.Pairwise.nil,fun x hx=>by simp at hx,by simp⟩
theorem Aiz {C:CF}(h1:C.c=2)(h2:C.s Bh=4)(h3:C.t (Ar Bh Bh)=10) :
  Cr (cfE 2 []) [] C / C.c=0∧sqC (cfE 2 []) [] C / C.c=1∧Kt C Bh Bh=1:=by
 have n:Fp (cfE 2 []) [] C=8:=by
  unfold Fp Bw;show 2*C.c*2+0+0=8;rw [h1]; decide +kernel
 refine ⟨?_,?_,?_⟩
 ·unfold Cr Bw;show (C.s Bh - (2*C.c+0)) / C.c=0;rw [h1,h2]; decide +kernel
 ·unfold sqC Bw;rw [n];show (8+C.t (Ar Bh Bh) - 2*(2*C.s Bh+0)) / C.c=1;rw [h1,h2,h3]; decide +kernel
 ·unfold Kt;rw [h1,h2,h3]; decide +kernel
end
section
open Go.RowKit Go.MapKept
abbrev Aj8:Type:=List (Value×Rat×List (Par×Rat))
def Iq (u:PH)(es:List Value)(P:List Par)(Ms:Aj8):Prop:=es.length=Ms.length∧∀ (j:Nat) (x:Value×Rat×List (Par×Rat)),Ms[j]?=some x→∃ e,es[j]?=some e∧Ow u e P (cfE x.2.1 x.2.2)
theorem Iq.mono {u u':PH}{es:List Value}{P:List Par}{Ms:Aj8}(h:Iq u es P Ms)(hl:PH.le u u'):Iq u' es P Ms :=
 ⟨h.1,fun j x hx=>by obtain ⟨e,h1,h2⟩:=h.2 j x hx; exact ⟨e,h1,h2.mono hl⟩⟩
theorem Iq.snoc {u:PH}{es:List Value}{P:List Par}{Ms:Aj8}{e:Value}{x:Value×Rat×List (Par×Rat)}(h:Iq u es P Ms)(he:Ow u e P (cfE x.2.1 x.2.2)):Iq u (es++[e]) P (Ms++[x]):=by
 refine ⟨by simp [h.1],fun j y hy=>?_⟩;rcases Nat.lt_or_ge j Ms.length with hj | hj
 ·rw [List.getElem?_append_left hj] at hy;obtain ⟨e',h1,h2⟩:=h.2 j y hy;exact ⟨e',by rw [List.getElem?_append_left (by rw [h.1]; exact hj)]; exact h1,h2⟩
 ·rw [List.getElem?_append_right hj] at hy;have h0:j - Ms.length=0:=by
   have:=(List.getElem?_eq_some_iff.1 hy).1;simp at this; omega
  rw [h0] at hy;cases hy;exact ⟨e,by rw [List.getElem?_append_right (by rw [h.1]; exact hj),h.1,h0]; rfl,he⟩
theorem Agg {a a':Option Addr}{n c n' c':Nat}:A9 2 [.agg #[.slice a n c,.slice a' n' c']]:=by
 intro x hx;simp only [List.mem_cons,List.not_mem_nil,or_false] at hx;subst hx; exact ⟨rfl,List.all_eq_true.1 rfl⟩
theorem Tb {s:List UInt8}{a:Option Addr}{n c:Nat}:A9 2 [.agg #[.string (mkS s),.slice a n c]]:=by
 intro x hx;simp only [List.mem_cons,List.not_mem_nil,or_false] at hx;subst hx; exact ⟨rfl,List.all_eq_true.1 rfl⟩
theorem Hk.csgn {u:PH}{v cv:Value}{T:List (List UInt8×Nat)}{R:List Bn}{F:List Am}{lab:Int}{C:CF}{K k:Nat}{P:List Par}(h:Hk u v cv T R F lab C K k P)(h0:k≠0):¬ sgn C.c.num≤0:=by
 have h1:C.c.num=(k:Int):=by rw [h.mom.c]; exact Rat.num_natCast k
 rw [h1,Cz (by omega)]; omega
theorem R3 {u:PH}{v cv mv:Value}{T:List (List UInt8×Nat)}{R:List Bn}{F:List Am}{lab:Int}{C:CF}{K k:Nat}{P:List Par}{Ms:Aj8}(lb:Bool)(h:Hk u v cv T R F lab C K k P)(h0:k≠0)
  (hL:Ad u mv 2 (Ms.map (·.1))) (hM:∀ x∈Ms,Kg u x.1 x.2.1 x.2.2∧Fh P x.2.1 x.2.2) (hl:Ms.length≤1000) :
  Fn0 Tryz.prog 47 [v,cv,.bool lb,mv] u fun r u'=>∃ x ls es,r=.tuple #[x,ls,.int .i64 0]∧Df u' x C K∧Ad u' ls 2 es∧Iq u' es P Ms:=by
 have hK:=h.K;have hprm:=Q2 h.sch h.ok h.cof h.sC h.vC (by omega) h.bel;have hof:=fun (u':PH) (l:PH.le u u')=>Fn0.weak (Ae.giveAll (of0 (h.cof.mono l) h.sC (by omega))) fun v u' ⟨u1,m1,l1,l2,h⟩=>h.give l1 l2;have hpar:=h.par;have hX:=h.sch;have ok:=h.ok;have hS:=h.mom;have hsg:=h.csgn h0;have hlab:=h.lab0;have hP24:=h.p24;have hPL:=h.prm;obtain ⟨xa,xc,xb,xd,xe,xf,rfl,hTL,hRL,hFL⟩:=id h.sch;obtain ⟨a1,n1,c1,a2,n2,c2,rfl⟩:=h.cof.opn;obtain ⟨ma,mc,rfl⟩:=hL.opn;rw [List.length_map] at hL ⊢;refine Fn0.o Tryz.func47 ?_;refine G.c Tryz.call100 hprm ?_;rintro v1 u1 l1 (⟨rfl,Q,hQ,hQP⟩ | ⟨ps,Q,rfl,hP,_,hQP⟩)
 ·have:=hPL.eq hQP;subst this; omega
 obtain rfl:=hPL.eq hQP;obtain ⟨pa,pc,rfl⟩:=hP.opn;rw [List.length_map] at hP ⊢;refine G.nF 0 0 ?_;have hsign:∀ (u':PH),Fn0 Tryz.prog 88 [.string (mkS (Ag C.c))] u' fun v _=>v=.int .i64 (sgn C.c.num):=fun u'=>Nl hS.tx;cases lb
 case' true=>refine G.lF lab 0 ?_
 all_goals
  refine G.c Tryz.call88 (hsign u1) ?_;rintro v2 u2 l2 rfl;refine G.kF (sgn C.c.num) 0 ?_;refine G.l (ι:=Nat×(Option Addr×Nat)×List Value) (fun i=>[(4,.p 0 0),(5,.p 1 0),(8,.p 2 0),(11,.v (.slice pa P.length pc)),(13,.v (.slice i.2.1.1 i.2.2.length i.2.1.2)),(41,.v (.slice ma Ms.length mc)),(42,.v (.int .i64 (Ms.length:Int))),(43,.v (.int .i64 (i.1:Int)))])
   (fun _=>[(0,⟨30,[.v (.slice xa T.length xc),.v (.slice xb R.length xd),.v (.slice xe F.length xf),.v (.int .i64 lab)]⟩),(1,⟨36,[.v (.string (mkS (Ag C.c))),.v (.slice a1 n1 c1),.v (.slice a2 n2 c2)]⟩),(2,⟨93,[.v (.bool false),.v (.slice none 0 0),.v (.bool false),.v (.slice none 0 0),.v (.map none),.v (.map none)]⟩)])
   (fun i u' m'=>i.1≤Ms.length∧Iq u' i.2.2 P (Ms.take i.1)∧Af PH.mt m' (.slice i.2.1.1 i.2.2.length i.2.1.2) 113 2 i.2.2) (fun i=>Ms.length - i.1) (0,(none,0),[]) ⟨by omega,⟨rfl,fun j x hx=>by simp at hx⟩,Af.nil _ _ _⟩ ?_
  rintro J ⟨i,⟨oa,oc⟩,es⟩ hJ u3 m3 l3 ⟨hi,hE,hA⟩;simp only at hi hE hA hJ;have le3:=(l1.trans l2).trans l3;by_cases hlt:i < Ms.length
  ·refine G.lT (i:Int) (Ms.length:Int) ?_;obtain ⟨x,hMi⟩:∃ x,Ms[i]?=some x:=⟨_,List.getElem?_eq_getElem hlt⟩;obtain ⟨hmv,hmo⟩:=hM x (List.mem_of_getElem? hMi);have htk:=D1 hMi;obtain ⟨ba,ob,rfl,ea⟩:=Ad.at' (hL.mono le3) (j:=i) (e:=x.1) (by simp [hMi]);obtain ⟨xv,m0,M⟩:=x;simp only at hmv hmo ea;obtain ⟨na,nc,rfl,_⟩:=hmv.val;refine G.a ba ob Ms.length mc i 2 hlt ?_;refine G.lU (some 2) ba (ob+i*2) (.agg #[.string (mkS (Ag m0)),.slice na M.length nc]) ea ?_;refine G.c Tryz.call101 (Ahx (hP.mono (l2.trans l3)) hPL.1 (by omega) (hmv.mono le3) hmo) ?_;rintro v4 u4 l4 ⟨lv,rfl,hlv⟩;obtain ⟨la,lc,rfl⟩:=Ad.opn hlv;refine G.nF 0 0 ?_;refine G.c Tryz.call63 (Ve (hX.mono (le3.trans l4)) (ok.mono (le3.trans l4)) (hmv.mono (le3.trans l4)) hmo (by omega) hpar) ?_;rintro v5 u5 l5 rfl;refine G.c Tryz.call102 (Ae6 (hlv.mono l5) (fun q hq=>?_) (by rw [List.length_map,Fu]; omega)) ?_
   ·obtain ⟨e,_,rfl⟩:=List.mem_map.1 hq;cases e with
    | none=>exact hmo.tx.1
    | some p =>
     show Tx (A5 p M);by_cases hp:p∈M.map (·.1)
     ·obtain ⟨y,hy,rfl⟩:=List.mem_map.1 hp;rw [Gj (hmo.srt.nodup Dd) hy]; exact hmo.tx.2 y hy
     ·rw [Gn hp]; exact Yr.tx
   intro v6 u6 l6 k6;obtain ⟨es6,hL6,hF6⟩:=id k6;obtain ⟨fa,fc,rfl⟩:=hL6.opn;have hel:es6.length=P.length+1:=by rw [hF6.1,List.length_map,Fu]
   rw [hel] at k6 ⊢;have hesl:es.length≤1000:=by
    have:=hE.1;rw [List.length_take] at this; omega
   refine G.B 113 2 48 (.agg #[.slice none 0 0,.slice none 0 0]) [.agg #[.slice pa P.length pc,.slice fa (P.length+1) fc]] Agg ?_;intro g7 u7 l7 e7;refine G.append 113 2 48 (.agg #[.slice none 0 0,.slice none 0 0]) PH.mt es [.agg #[.slice pa P.length pc,.slice fa (P.length+1) fc]] _ g7 0 1 1 (by kernel_rfl) rfl rfl (by omega) hA e7 Agg rfl (by omega) (by show (es.length+1)*48≤140737488355328; omega) (by show es.length+1≤9223372036854775807; omega) ?_;intro v8 m8 hA8;obtain ⟨a8,c8,rfl⟩:=hA8.shape;have l37:=((l4.trans l5).trans l6).trans l7;have hE8:Iq u7 (es++[.agg #[.slice pa P.length pc,.slice fa (P.length+1) fc]]) P (Ms.take (i+1)):=by
    rw [htk]; exact (hE.mono l37).snoc ⟨_,_,_,_,rfl,hP.mono (((l2.trans l3).trans l37)),k6.mono l7⟩
   refine G.i i ?_;exact G.b (hJ (i+1,(a8,c8),es++[.agg #[.slice pa P.length pc,.slice fa (P.length+1) fc]]) _ _ _ cv (l3.trans l37) ⟨by dsimp only; omega,hE8,hA8⟩ (by dsimp only; omega))
  ·obtain rfl:i=Ms.length:=by omega
   refine G.lF (Ms.length:Int) (Ms.length:Int) ?_;rw [List.take_length] at hE;refine G.give _ _ _ (by kernel_rfl) hA (fun g=>.inl rfl) ?_;intro u10 l10 hLs;refine G.c Tryz.call68 (hof u10 (le3.trans l10)) ?_;intro v11 u11 l11 k11;obtain ⟨b,a,n,c,b',a',n',c',g1,g2,rfl⟩:=B7 k11;exact G.r (.tuple #[.agg #[.bool b,.slice a n c,.bool b',.slice a' n' c',.map (some g1),.map (some g2)],.slice oa es.length oc,.int .i64 0]) ⟨rfl,_,_,es,rfl,k11,hLs.mono l11,hE.mono (l10.trans l11)⟩
theorem Uq {u:PH}{v cv mv:Value}{T:List (List UInt8×Nat)}{R:List Bn}{F:List Am}{lab:Int}{C:CF}{K k:Nat}{P:List Par}(h:Hk u v cv T R F lab C K k P)(h0:k=0) :
  Fn0 Tryz.prog 47 [v,cv,.bool true,mv] u fun r u'=>r=.tuple #[.agg #[.bool false,.slice none 0 0,.bool false,.slice none 0 0,.map none,.map none],.slice none 0 0,.int .i64 12]:=by
 have hK:=h.K;have hprm:=Q2 h.sch h.ok h.cof h.sC h.vC (by omega) h.bel;have hS:=h.mom;have hlab:=h.lab0;have hP24:=h.p24;have hPL:=h.prm;obtain ⟨xa,xc,xb,xd,xe,xf,rfl,hTL,hRL,hFL⟩:=id h.sch;obtain ⟨a1,n1,c1,a2,n2,c2,rfl⟩:=h.cof.opn;refine Fn0.o Tryz.func47 ?_;refine G.c Tryz.call100 hprm ?_;rintro v1 u1 l1 (⟨rfl,Q,hQ,hQP⟩ | ⟨ps,Q,rfl,hP,_,hQP⟩)
 ·have:=hPL.eq hQP;subst this; omega
 obtain ⟨pa,pc,rfl⟩:=hP.opn;refine G.nF 0 0 ?_;refine G.lF lab 0 ?_;refine G.c Tryz.call88 (Nl hS.tx) ?_;rintro v2 u2 l2 rfl;refine G.leqT (sgn C.c.num) 0 (by kernel_rfl) (by
  have:C.c=0:=by rw [hS.c,h0]; rfl
  rw [Pc.2 this]; exact Int.le_refl _) ?_
 exact G.r (.tuple #[.agg #[.bool false,.slice none 0 0,.bool false,.slice none 0 0,.map none,.map none],.slice none 0 0,.int .i64 12]) ⟨rfl,rfl⟩
end
section
open Go.RowKit Go.MapKept
section
variable {u:PH} {v cv mv:Value} {T:List (List UInt8×Nat)} {R:List Bn} {F:List Am} {lab:Int} {C:CF} {K k:Nat} {P:List Par} {m0:Rat} {M:List (Par×Rat)}
theorem Hk.lt (h:Hk u v cv T R F lab C K k P):k < 10 ^ 2:=by have:=h.mom.lt; omega
theorem Hk.biasE (h:Hk u v cv T R F lab C K k P)(h0:k≠0)(hm:Fh P m0 M):De 47 22 (Cr (cfE m0 M) P C / C.c):=by
 rw [h.mom.c];exact (((h.qok hm).biasD (by have:=h.p24; omega)).de (a:=47) (b:=20) (by decide +kernel) (by decide +kernel)).divn (by omega) h.lt
theorem Hk.sqE (h:Hk u v cv T R F lab C K k P)(h0:k≠0)(hm:Fh P m0 M):De 49 22 (sqC (cfE m0 M) P C / C.c):=by
 rw [h.mom.c];exact (((h.qok hm).sqD (by have:=h.p24; omega)).de (a:=49) (b:=20) (by decide +kernel) (by decide +kernel)).divn (by omega) h.lt
theorem Ro {u:PH}{P:List Par}{x:Value×Rat×List (Par×Rat)}{es:List Value}(h:Iq u es P [x]):∃ e,es = [e]∧Ow u e P (cfE x.2.1 x.2.2):=by
 obtain ⟨h1,h2⟩:=h;obtain ⟨e,he,hl⟩:=h2 0 x rfl
 match es,h1,he with
 | [y],_,he=>cases he; exact ⟨e,rfl,hl⟩
theorem Ys (ht:Ib u)(h:Hk u v cv T R F lab C K k P)(h0:k≠0)(hmv:Kg u mv m0 M)(hm:Fh P m0 M) :
  Fn0 Tryz.prog 30 [v,cv,mv] u fun r _=>r=.tuple #[.string (mkS (Ag (Cr (cfE m0 M) P C / C.c))),.int .i64 0]:=by
 have hop:=fun (u':PH) (l:PH.le u u') (mv':Value) (hL:Ad u' mv' 2 ([(mv,m0,M)].map (·.1)))=>R3 true (h.mono l) h0 hL (fun x hx=>by
  simp only [List.mem_cons,List.not_mem_nil,or_false] at hx;subst hx; exact ⟨hmv.mono l,hm⟩) (by simp)
 have hP24:=h.p24;obtain ⟨xa,xc,xb,xd,xe,xf,rfl,_⟩:=id h.sch;obtain ⟨a1,n1,c1,a2,n2,c2,rfl⟩:=h.cof.opn;obtain ⟨na,nc,rfl,_⟩:=id hmv.val;refine Fn0.o Tryz.func30 ?_;refine G.B 52 2 40 (.agg #[.string (mkS []),.slice none 0 0]) [.agg #[.string (mkS (Ag m0)),.slice na M.length nc]] Tb ?_;intro g1 u1 l1 e1;refine G.c Tryz.call47 (hop u1 l1 _ e1.listP) ?_;rintro v2 u2 l2 ⟨x,ls,es,rfl,k2,hls,hla⟩;obtain ⟨e,rfl,he⟩:=Ro hla;obtain ⟨b,a,n,c,b',a',n',c',g1',g2,rfl,hcn⟩:=Kx k2;obtain ⟨la,lc,rfl⟩:=hls.opn;obtain ⟨bb,ob,rfl,eb⟩:=Ad.at' hls (j:=0) (e:=e) rfl;obtain ⟨pa,pc,fa,fc,rfl,_⟩:=id he.val;refine G.nF 0 0 ?_;refine G.a bb ob 1 lc 0 2 (by omega) ?_;refine G.lU (some 2) bb (ob+0*2) (.agg #[.slice pa P.length pc,.slice fa (P.length+1) fc]) eb ?_;refine G.c Tryz.call71 (Alh he k2 (by omega) (h.qok hm)) ?_;intro v3 u3 l3 k3;obtain ⟨b3,a3,n3,c3,b3',a3',n3',c3',rfl⟩:=k3.opn;refine G.c Tryz.call39 (Gy k3 (hcn.mono l3) (((h.qok hm).biasD (by omega)).szb (by omega) (by decide +kernel)) (h.mom.csz.mono (by omega)) (h.mom.cne h0)) ?_;intro v4 u4 l4 k4;obtain ⟨b4,a4,n4,c4,b4',a4',n4',c4',rfl⟩:=k4.opn;refine G.c Tryz.call40 (Gs (ht.mono (((l1.trans l2).trans l3).trans l4)) k4 ((h.biasE h0 hm).tx (by omega) (by omega) (by omega) (by omega))) ?_;rintro v5 u5 l5 rfl;exact G.r (.tuple #[.string (mkS (Ag (Cr (cfE m0 M) P C / C.c))),.int .i64 0]) ⟨rfl,rfl⟩
theorem Ael (h:Hk u v cv T R F lab C K k P)(h0:k=0)(hmv:Kg u mv m0 M) :
  Fn0 Tryz.prog 30 [v,cv,mv] u fun r _=>r=.tuple #[.string (mkS []),.int .i64 12]:=by
 have hop:=fun (u':PH) (l:PH.le u u') (mv':Value)=>Uq (mv:=mv') (h.mono l) h0;obtain ⟨xa,xc,xb,xd,xe,xf,rfl,_⟩:=id h.sch;obtain ⟨a1,n1,c1,a2,n2,c2,rfl⟩:=h.cof.opn;obtain ⟨na,nc,rfl,_⟩:=id hmv.val;refine Fn0.o Tryz.func30 ?_;refine G.B 52 2 40 (.agg #[.string (mkS []),.slice none 0 0]) [.agg #[.string (mkS (Ag m0)),.slice na M.length nc]] Tb ?_;intro g1 u1 l1 e1;refine G.c Tryz.call47 (hop u1 l1 (.slice (some ⟨g1,0,none⟩) 1 1)) ?_;rintro v2 u2 l2 rfl;refine G.nT 12 0 ?_;exact G.r (.tuple #[.string (mkS []),.int .i64 12]) ⟨rfl,rfl⟩
theorem Uf (ht:Ib u)(h:Hk u v cv T R F lab C K k P)(h0:k≠0)(hmv:Kg u mv m0 M)(hm:Fh P m0 M) :
  Fn0 Tryz.prog 31 [v,cv,mv] u fun r _=>r=.tuple #[.string (mkS (Ag (sqC (cfE m0 M) P C / C.c))),.int .i64 0]:=by
 have hop:=fun (u':PH) (l:PH.le u u') (mv':Value) (hL:Ad u' mv' 2 ([(mv,m0,M)].map (·.1)))=>R3 true (h.mono l) h0 hL (fun x hx=>by
  simp only [List.mem_cons,List.not_mem_nil,or_false] at hx;subst hx; exact ⟨hmv.mono l,hm⟩) (by simp)
 have hP24:=h.p24;obtain ⟨xa,xc,xb,xd,xe,xf,rfl,_⟩:=id h.sch;obtain ⟨a1,n1,c1,a2,n2,c2,rfl⟩:=h.cof.opn;obtain ⟨na,nc,rfl,_⟩:=id hmv.val;refine Fn0.o Tryz.func31 ?_;refine G.B 52 2 40 (.agg #[.string (mkS []),.slice none 0 0]) [.agg #[.string (mkS (Ag m0)),.slice na M.length nc]] Tb ?_;intro g1 u1 l1 e1;refine G.c Tryz.call47 (hop u1 l1 _ e1.listP) ?_;rintro v2 u2 l2 ⟨x,ls,es,rfl,k2,hls,hla⟩;obtain ⟨e,rfl,he⟩:=Ro hla;obtain ⟨b,a,n,c,b',a',n',c',g1',g2,rfl,hcn⟩:=Kx k2;obtain ⟨la,lc,rfl⟩:=hls.opn;obtain ⟨bb,ob,rfl,eb⟩:=Ad.at' hls (j:=0) (e:=e) rfl;obtain ⟨pa,pc,fa,fc,rfl,_⟩:=id he.val;refine G.nF 0 0 ?_;refine G.a bb ob 1 lc 0 2 (by omega) ?_;refine G.lU (some 2) bb (ob+0*2) (.agg #[.slice pa P.length pc,.slice fa (P.length+1) fc]) eb ?_;refine G.c Tryz.call72 (sq0 he k2 (by omega) (h.qok hm)) ?_;intro v3 u3 l3 k3;obtain ⟨b3,a3,n3,c3,b3',a3',n3',c3',rfl⟩:=k3.opn;refine G.c Tryz.call39 (Gy k3 (hcn.mono l3) (((h.qok hm).sqD (by omega)).szb (by omega) (by decide +kernel)) (h.mom.csz.mono (by omega)) (h.mom.cne h0)) ?_;intro v4 u4 l4 k4;obtain ⟨b4,a4,n4,c4,b4',a4',n4',c4',rfl⟩:=k4.opn;refine G.c Tryz.call40 (Gs (ht.mono (((l1.trans l2).trans l3).trans l4)) k4 ((h.sqE h0 hm).tx (by omega) (by omega) (by omega) (by omega))) ?_;rintro v5 u5 l5 rfl;exact G.r (.tuple #[.string (mkS (Ag (sqC (cfE m0 M) P C / C.c))),.int .i64 0]) ⟨rfl,rfl⟩
theorem Aav (h:Hk u v cv T R F lab C K k P)(h0:k=0)(hmv:Kg u mv m0 M) :
  Fn0 Tryz.prog 31 [v,cv,mv] u fun r _=>r=.tuple #[.string (mkS []),.int .i64 12]:=by
 have hop:=fun (u':PH) (l:PH.le u u') (mv':Value)=>Uq (mv:=mv') (h.mono l) h0;obtain ⟨xa,xc,xb,xd,xe,xf,rfl,_⟩:=id h.sch;obtain ⟨a1,n1,c1,a2,n2,c2,rfl⟩:=h.cof.opn;obtain ⟨na,nc,rfl,_⟩:=id hmv.val;refine Fn0.o Tryz.func31 ?_;refine G.B 52 2 40 (.agg #[.string (mkS []),.slice none 0 0]) [.agg #[.string (mkS (Ag m0)),.slice na M.length nc]] Tb ?_;intro g1 u1 l1 e1;refine G.c Tryz.call47 (hop u1 l1 (.slice (some ⟨g1,0,none⟩) 1 1)) ?_;rintro v2 u2 l2 rfl;refine G.nT 12 0 ?_;exact G.r (.tuple #[.string (mkS []),.int .i64 12]) ⟨rfl,rfl⟩
theorem Aee (ht:Ib u)(h:Hk u v cv T R F lab C K k P)(h0:k≠0)(hmv:Kg u mv m0 M)(hm:Fh P m0 M)(hv:Kt C Bh Bh≠0) :
  Fn0 Tryz.prog 33 [v,cv,mv] u fun r _=>r=.tuple #[.string (mkS (Ag (1 - sqC (cfE m0 M) P C / C.c / Kt C Bh Bh))),.int .i64 0]:=by
 have hop:=fun (u':PH) (l:PH.le u u') (mv':Value) (hL:Ad u' mv' 2 ([(mv,m0,M)].map (·.1)))=>R3 true (h.mono l) h0 hL (fun x hx=>by
  simp only [List.mem_cons,List.not_mem_nil,or_false] at hx;subst hx; exact ⟨hmv.mono l,hm⟩) (by simp)
 have hP24:=h.p24;have hcov:=h.mom.cov h0 Bh Bh;have hq1:=(h.sqE h0 hm).divq hcov hv;have hq2:De 123 122 (1 - sqC (cfE m0 M) P C / C.c / Kt C Bh Bh):=(De.nat (n:=1) (a:=1) (by omega)).sub hq1 (f:=122) (by omega) (by omega);have c1':((1:Int):Rat)=1:=by decide +kernel
 obtain ⟨xa,xc,xb,xd,xe,xf,rfl,_⟩:=id h.sch;obtain ⟨a1,n1,c1,a2,n2,c2,rfl⟩:=h.cof.opn;obtain ⟨na,nc,rfl,_⟩:=id hmv.val;refine Fn0.o Tryz.func33 ?_;refine G.B 52 2 40 (.agg #[.string (mkS []),.slice none 0 0]) [.agg #[.string (mkS (Ag m0)),.slice na M.length nc]] Tb ?_;intro g1 u1 l1 e1;refine G.c Tryz.call47 (hop u1 l1 _ e1.listP) ?_;rintro v2 u2 l2 ⟨x,ls,es,rfl,k2,hls,hla⟩;obtain ⟨e,rfl,he⟩:=Ro hla;obtain ⟨b,a,n,c,b',a',n',c',g1',g2,rfl,hcn⟩:=Kx k2;obtain ⟨la,lc,rfl⟩:=hls.opn;obtain ⟨bb,ob,rfl,eb⟩:=Ad.at' hls (j:=0) (e:=e) rfl;obtain ⟨pa,pc,fa,fc,rfl,_⟩:=id he.val;refine G.nF 0 0 ?_;refine G.c Tryz.call79 Mp ?_;rintro v3 u3 l3 rfl;refine G.c Tryz.call79 Mp ?_;rintro v4 u4 l4 rfl;refine G.c Tryz.call41 (Ac6 Bh Bh (k2.mono (l3.trans l4)) h.mom h0) ?_;intro v5 u5 l5 k5;obtain ⟨b5,a5,n5,c5,b5',a5',n5',c5',rfl⟩:=k5.opn;refine G.c Tryz.call80 (Gh k5 (Nat.le_trans (hcov.szn (by omega) (by omega) (by omega) (by omega)).1 (by omega))) ?_;rintro v6 u6 l6 rfl;refine G.eF' (sgn (Kt C Bh Bh).num) 0 (fun e=>hv (Pc.1 e)) ?_;have le6:=((l3.trans l4).trans l5).trans l6;refine G.a bb ob 1 lc 0 2 (by omega) ?_;refine G.lU (some 2) bb (ob+0*2) (.agg #[.slice pa P.length pc,.slice fa (P.length+1) fc]) (eb.mono le6) ?_;refine G.c Tryz.call64 (D8 (z:=1) (by omega) (by omega)) ?_;intro v7 u7 l7 k7;rw [c1'] at k7;obtain ⟨b7,a7,n7,c7,b7',a7',n7',c7',rfl⟩:=k7.opn;have le7:=le6.trans l7;refine G.c Tryz.call72 (sq0 (he.mono le7) (k2.mono le7) (by omega) (h.qok hm)) ?_;intro v8 u8 l8 k8;obtain ⟨b8,a8,n8,c8,b8',a8',n8',c8',rfl⟩:=k8.opn;refine G.c Tryz.call39 (Gy k8 (hcn.mono (le7.trans l8)) (((h.qok hm).sqD (by omega)).szb (by omega) (by decide +kernel)) (h.mom.csz.mono (by omega)) (h.mom.cne h0)) ?_;intro v9 u9 l9 k9;obtain ⟨b9,a9,n9,c9,b9',a9',n9',c9',rfl⟩:=k9.opn;refine G.c Tryz.call39 (Gy k9 (k5.mono (((l6.trans l7).trans l8).trans l9)) ((h.sqE h0 hm).s1000 (by omega) (by omega) (by omega) (by omega)) (hcov.s1000 (by omega) (by omega) (by omega) (by omega)) hv) ?_;intro v10 u10 l10 k10;obtain ⟨b10,a10,n10,c10,b10',a10',n10',c10',rfl⟩:=k10.opn;refine G.c Tryz.call48 (Ns (k7.mono ((l8.trans l9).trans l10)) k10 ((De.nat (n:=1) (a:=1) (by omega)).s1000 (by omega) (by omega) (by omega) (by omega)) (hq1.s1000 (by omega) (by omega) (by omega) (by omega))) ?_;intro v11 u11 l11 k11;obtain ⟨b11,a11,n11,c11,b11',a11',n11',c11',rfl⟩:=k11.opn;have le11:=((((l1.trans l2).trans le7).trans l8).trans l9).trans (l10.trans l11);refine G.c Tryz.call40 (Gs (ht.mono le11) k11 (hq2.tx (by omega) (by omega) (by omega) (by omega))) ?_;rintro v12 u12 l12 rfl;exact G.r (.tuple #[.string (mkS (Ag (1 - sqC (cfE m0 M) P C / C.c / Kt C Bh Bh))),.int .i64 0]) ⟨rfl,rfl⟩
end
end
section
open Go.RowKit Go.MapKept
theorem Zw {u:PH}(ht:Ib u):Fn0 Tryz.prog 6 [] u fun r _=>r=.bool true:=by
 refine Fn0.o Tryz.func6 ?_;refine G.buildU 73 2 24 (.agg #[.string (mkS []),.int .i64 0]) [.agg #[.string (mkS [121]),.int .i64 ((2:Nat):Int)]] (by kernel_rfl) (fun x hx=>by
  simp only [List.mem_cons,List.not_mem_nil,or_false] at hx;subst hx; exact ⟨rfl,List.all_eq_true.1 rfl⟩) rfl (by omega) (by simp) (by simp) ?_
 intro g1 u1 l1 e1;refine G.B 3 1 8 (.int .i64 0) [.int .i64 ((0:Nat):Int)] (Az [0]) ?_;intro g2 u2 l2 e2;refine G.buildU 75 2 40 (.agg #[.string (mkS []),.slice none 0 0]) [.agg #[.string (mkS [114]),.slice (some ⟨g2,0,none⟩) 1 1]] (by kernel_rfl) (fun x hx=>by
  simp only [List.mem_cons,List.not_mem_nil,or_false] at hx;subst hx; exact ⟨rfl,List.all_eq_true.1 rfl⟩) rfl (by omega) (by simp) (by simp) ?_
 intro g3 u3 l3 e3;have hsch:D5 u3 (.agg #[.slice (some ⟨g1,0,none⟩) 1 1,.slice (some ⟨g3,0,none⟩) 1 1,.slice none 0 0,.int .i64 0]) Su (X0 g2) [] 0 :=
  ⟨_,_,_,_,_,_,rfl,e1.listP.mono (l2.trans l3),e3.listP,Ad.nil _ _ _ _⟩
 have hok:Bi u3 Su (X0 g2) [] 0:=Anj (e2.listP.mono l3);refine G.B 9 1 16 (.string (mkS [])) [.string (mkS [49])] (Hz [[49]]) ?_;intro g4 u4 l4 e4;refine G.B 9 1 16 (.string (mkS [])) [.string (mkS [51])] (Hz [[51]]) ?_;intro g5 u5 l5 e5;refine G.buildU 62 2 32 (.agg #[.slice none 0 0,.int .i64 0]) [.agg #[.slice (some ⟨g4,0,none⟩) 1 1,.int .i64 1],.agg #[.slice (some ⟨g5,0,none⟩) 1 1,.int .i64 1]] (by kernel_rfl) (fun x hx=>by
  simp only [List.mem_cons,List.not_mem_nil,or_false] at hx;rcases hx with rfl | rfl <;> exact ⟨rfl,List.all_eq_true.1 rfl⟩) rfl (by omega) (by simp) (by simp) ?_
 intro g6 u6 l6 e6;have l36:=(l4.trans l5).trans l6;have hrows:Ad u6 (.slice (some ⟨g6,0,none⟩) (Tp g4 g5).length 2) 2 ((Tp g4 g5).map Ga):=e6.listP;have hW:WOK u6 Su (Tp g4 g5):=fun y hy=>by
  simp only [Tp,List.mem_cons,List.not_mem_nil,or_false] at hy;rcases hy with rfl | rfl
  ·exact ⟨e4.listP.mono (l5.trans l6),Ac1,Nat.le_refl 1,by show 1≤7; omega⟩
  ·exact ⟨e5.listP.mono l6,Ack,Nat.le_refl 1,by show 1≤7; omega⟩
 refine G.c Tryz.call32 (M4 (hsch.mono l36) (hok.mono l36) (by decide) hrows hW (by simp [Tp])) ?_;rintro v7 u7 l7 ⟨x,rfl,k7⟩;have l37:=l36.trans l7;obtain ⟨h1,h2,h3⟩:=Al5 g4 g5;obtain ⟨hb0,hq1,hv1⟩:=Aiz h1 h2 h3;obtain ⟨k,hMe⟩:=Aco (P:=[]) (hsch.mono l37) (hok.mono l37) (by decide) hW.tup (by simp [Tp]) k7 (Amd _) (by simp) (by omega);generalize Bo [] 0 (Tp g4 g5)=C at hMe h1 hb0 hq1 hv1 k7;have h0:k≠0:=by
  rintro rfl;have:=hMe.mom.c;rw [h1] at this;exact absurd this (by decide +kernel)
 obtain ⟨a1,n1,c1,a2,n2,c2,rfl⟩:=k7.opn;have hmv:Kg u7 (.agg #[.string (mkS [50]),.slice none 0 0]) 2 []:=⟨none,0,by rw [Afn]; rfl,Ad.nil _ _ _ _⟩;have ht7:=ht.mono (((l1.trans l2).trans l3).trans l37);have hvar:Kt C Bh Bh≠0:=by rw [hv1]; decide
 have hB:=Ys ht7 hMe h0 hmv Zu;rw [hb0,Fd] at hB;refine G.c Tryz.call30 hB ?_;rintro v8 u8 l8 rfl;have hE:=Uf (ht7.mono l8) (hMe.mono l8) h0 (hmv.mono l8) Zu;rw [hq1,Yl] at hE;refine G.c Tryz.call31 hE ?_;rintro v9 u9 l9 rfl;have le9:=l8.trans l9;have hS:=Aee (ht7.mono le9) (hMe.mono le9) h0 (hmv.mono le9) Zu hvar;rw [hq1,hv1,show (1:Rat) - 1 / 1=0 by decide +kernel,Fd] at hS;refine G.c Tryz.call33 hS ?_;rintro v10 u10 l10 rfl;have le10:=le9.trans l10;have hV:=V7 Bh (ht7.mono le10) (k7.mono le10) hMe.sC hMe.vC (by omega) hMe.mom h0;rw [hv1,Yl] at hV;refine G.c Tryz.call10 hV ?_;rintro v11 u11 l11 rfl;refine G.eT' 0 0 rfl ?_;refine G.eT' 0 0 rfl ?_;refine G.eT' 0 0 rfl ?_;refine G.eT' 0 0 rfl ?_;refine G.q [48] [48] rfl ?_;refine G.q [49] [49] rfl ?_;refine G.q [48] [48] rfl ?_;refine G.q [49] [49] rfl ?_;exact G.r (.bool true) ⟨rfl,rfl⟩
end
section
open Go.RowKit Go.MapKept
theorem Aop {q:Rat}(h:0≤q):0≤q.num:=Rat.num_nonneg.2 h
theorem Aon (C:CF)(p q:Par):Kt C p q=Kt C q p:=by
 unfold Kt; rw [Abq p q]; grind
theorem Aom {C:CF}{k:Nat}(hS:Ht C k)(h0:k≠0)(p:Par)(h:∀ x a:Rat,0≤C.c*(x*x) - 2*x*(a*C.s p)+a*a*C.t (Ar p p)):0≤Kt C p p :=
 Aod (hS.cpos h0) h
theorem Aoq {C:CF}{k:Nat}(hS:Ht C k)(h0:k≠0)(p q:Par)(h:∀ x a b:Rat,0≤C.c*(x*x) - 2*x*(a*C.s p+b*C.s q)+a*a*C.t (Ar p p)+2*(a*b)*C.t (Ar p q)+b*b*C.t (Ar q q)) :
  Kt C p q*Kt C p q≤Kt C p p*Kt C q q:=Aoc (hS.cpos h0) h
theorem Aoo {u:PH}{v:Value}{ts:List Int}{az bz:Int}(ht:Ib u)(hv:Ad u v 1 (Dg ts))(hlo:∀ t∈ts,-9223372036854775808≤t)(hhi:∀ t∈ts,t≤9223372036854775807)(ha0:0≤az)(ha1:az≤255)(hb0:0≤bz)(hb1:bz≤255) :
  Fn0 Tryz.prog 3 [v,.int .u8 az,.int .u8 bz] u fun v' _=>v'=.bool true:=by
 obtain ⟨a,c,rfl⟩:=hv.opn;rw [By] at hv ⊢;refine Fn0.o Tryz.func3 ?_;by_cases h400:400 < ts.length
 ·refine G.gT (ts.length:Int) 400 ?_;refine G.c Tryz.call6 (Zw ht) ?_;rintro v1 u1 l1 rfl;exact G.r (.bool true) ⟨rfl,rfl⟩
 refine G.gF (ts.length:Int) 400 ?_;refine G.callO _ _ (by kernel_rfl) Tryz.call7 (Aiy hv (by omega) hlo hhi) ?_;rintro v1 u1 m1 l1 ⟨s,rfl,rfl,hs⟩ _;rw [Ci];refine G.A Tryz.call8 (Al4 hs (Nat.zero_le _)) ?_;rintro v2 u2 m2 l2 ⟨T,R,F,lab,L,xv,lv,cv,pv,ev,k2,rfl,w,hk2,rfl⟩ _;rw [Ci];obtain ⟨P,k,hP,hP24,hMe⟩:=w.meas;have hS:=hMe.mom;have sC:=hMe.sC;have vC:=hMe.vC;have hC:=hMe.cof;have hTup:∀ y∈L,Ca T y.1:=fun y hy=>(w.wok.tup y hy).1;have hlt:=Aa0 w.ok;have hfeat:=w.ok.feat;have hl1:=w.ok.l1;have ht2:=ht.mono (l1.trans l2);obtain ⟨xa,xc,xb,xd,xe,xf,rfl,_⟩:=id w.sch;obtain ⟨la,lc,rfl⟩:=w.rows.opn;have hpsd:∀ (p q:Par) (t a b:Rat),_:=fun p q t a b=>An2 hfeat hl1 hlt p q t a b hTup;clear hMe w;generalize Bo F lab L=C at hS sC vC hC hpsd;obtain ⟨a1,n1,c1,a2,n2,c2,rfl⟩:=id hC.opn;obtain ⟨pa,pc,rfl⟩:=hP.opn;rw [List.length_map] at hP;rw [List.length_map,List.length_map];refine G.drop PH.mt (by kernel_rfl) (PH.mt_le _) ?_;by_cases h0:k=0
 ·have hc0:C.c=0:=by rw [hS.c,h0]; rfl
  refine G.q (Ag C.c) [48] (by rw [hc0,Fd]) ?_;refine G.c Tryz.call9 (Am8 (0,[]) hC sC vC (by omega) hS h0) ?_;rintro v3 u3 l3 rfl;refine G.y (Ag C.c) [48] (by rw [hc0,Fd]) ?_;refine G.eT' 12 12 rfl ?_;refine G.c Tryz.call6 (Zw (ht2.mono l3)) ?_;rintro v4 u4 l4 rfl;exact G.r (.bool true) ⟨rfl,rfl⟩
 have hcn:=hS.cne h0;refine G.w (Ag C.c) [48] (I6 hcn) ?_;by_cases hp0:P.length=0
 ·refine G.eT (P.length:Int) 0 ?_;refine G.c Tryz.call9 (Anl (0,[]) ht2 hC sC vC (by omega) hS h0) ?_;rintro v3 u3 l3 rfl;refine G.x (Ag C.c) [48] (I6 hcn) ?_;refine G.c Tryz.call6 (Zw (ht2.mono l3)) ?_;rintro v4 u4 l4 rfl;exact G.r (.bool true) ⟨rfl,rfl⟩
 refine G.eF (P.length:Int) 0 ?_;obtain ⟨i,hi⟩:∃ i:Nat,az % (P.length:Int)=(i:Int):=⟨(az % (P.length:Int)).toNat,(Int.toNat_of_nonneg (Int.emod_nonneg _ (by omega))).symm⟩;obtain ⟨j,hj⟩:∃ i:Nat,bz % (P.length:Int)=(i:Int):=⟨(bz % (P.length:Int)).toNat,(Int.toNat_of_nonneg (Int.emod_nonneg _ (by omega))).symm⟩;have hil:i < P.length:=by have:=Int.emod_lt_of_pos az (b:=(P.length:Int)) (by omega); omega
 have hjl:j < P.length:=by have:=Int.emod_lt_of_pos bz (b:=(P.length:Int)) (by omega); omega
 obtain ⟨p,hPi⟩:∃ p,P[i]?=some p:=⟨_,List.getElem?_eq_getElem hil⟩;obtain ⟨q,hPj⟩:∃ q,P[j]?=some q:=⟨_,List.getElem?_eq_getElem hjl⟩;obtain ⟨pb,po,rfl,ep⟩:=Ad.at' hP (j:=i) (e:=Ak p) (by simp [hPi]);obtain ⟨pb',po',eqa,eq⟩:=Ad.at' hP (j:=j) (e:=Ak q) (by simp [hPj]);cases eqa;refine G.convI .u8 .i64 .u8 az az (by kernel_rfl) (Ea (by omega) (by omega)) ?_;refine G.rem az (P.length:Int) (i:Int) (by kernel_rfl) (by omega) (by omega) (by omega) hi ?_;refine G.a pb po P.length pc i 2 hil ?_;refine G.lU (some 2) pb (po+i*2) (.agg #[.int .i64 p.1,.string (mkS p.2)]) ep ?_;refine G.convI .u8 .i64 .u8 bz bz (by kernel_rfl) (Ea (by omega) (by omega)) ?_;refine G.rem bz (P.length:Int) (j:Int) (by kernel_rfl) (by omega) (by omega) (by omega) hj ?_;refine G.a pb po P.length pc j 2 hjl ?_;refine G.lU (some 2) pb (po+j*2) (.agg #[.int .i64 q.1,.string (mkS q.2)]) eq ?_;refine G.c Tryz.call9 (Anl p ht2 hC sC vC (by omega) hS h0) ?_;rintro v3 u3 l3 rfl;refine G.c Tryz.call10 (V7 p (ht2.mono l3) (hC.mono l3) sC vC (by omega) hS h0) ?_;rintro v4 u4 l4 rfl;have le4:=l3.trans l4;refine G.c Tryz.call10 (V7 q (ht2.mono le4) (hC.mono le4) sC vC (by omega) hS h0) ?_;rintro v5 u5 l5 rfl;have le5:=le4.trans l5;refine G.c Tryz.call11 (S8 p q (ht2.mono le5) (hC.mono le5) sC vC (by omega) hS h0) ?_;rintro v6 u6 l6 rfl;have le6:=le5.trans l6;refine G.c Tryz.call11 (S8 q p (ht2.mono le6) (hC.mono le6) sC vC (by omega) hS h0) ?_;rintro v7 u7 l7 rfl;have le7:=le6.trans l7;have hvp:0≤Kt C p p:=Aom hS h0 p fun x a=>Qz (hpsd p p x a 0) (by grind);have hvq:0≤Kt C q q:=Aom hS h0 q fun x a=>Qz (hpsd q q x a 0) (by grind);have hcs:Kt C p q*Kt C p q≤Kt C p p*Kt C q q:=Aoq hS h0 p q fun x a b=>hpsd p q x a b;have tvp:Tx (Kt C p p):=(hS.cov h0 p p).tx (by omega) (by omega) (by omega) (by omega);have tvq:Tx (Kt C q q):=(hS.cov h0 q q).tx (by omega) (by omega) (by omega) (by omega);have tk:Tx (Kt C p q):=(hS.cov h0 p q).tx (by omega) (by omega) (by omega) (by omega);have tkk:Tx (Kt C p q*Kt C p q):=((hS.cov h0 p q).mul (hS.cov h0 p q)).tx (by omega) (by omega) (by omega) (by omega);have tvw:Tx (Kt C p p*Kt C q q):=((hS.cov h0 p p).mul (hS.cov h0 q q)).tx (by omega) (by omega) (by omega) (by omega);have tm:Tx (C.s p / C.c):=(hS.mean h0 p).tx (by omega) (by omega) (by omega) (by omega);have tmm:Tx (C.s p / C.c*(C.s p / C.c)):=((hS.mean h0 p).mul (hS.mean h0 p)).tx (by omega) (by omega) (by omega) (by omega);have tt:Tx (C.t (Ar p p)):=(hS.t (Ar p p)).tx (by omega) (by omega) (by omega) (by omega);have tq:Tx (C.t (Ar p p) / C.c):=(hS.tn h0 (Ar p p)).tx (by omega) (by omega) (by omega) (by omega);refine G.nF 0 0 ?_;refine G.nF 0 0 ?_;refine G.nF 0 0 ?_;refine G.nF 0 0 ?_;refine G.nF 0 0 ?_;refine G.y (Ag (Kt C p q)) (Ag (Kt C q p)) (by rw [Aon]) ?_;refine G.c Tryz.call12 (Anu tvp) ?_;rintro v8 u8 l8 rfl;refine G.lF' (sgn (Kt C p p).num) 0 (by have:=Alw (Aop hvp); omega) ?_;refine G.c Tryz.call12 (Anu tvq) ?_;rintro v9 u9 l9 rfl;refine G.lF' (sgn (Kt C q q).num) 0 (by have:=Alw (Aop hvq); omega) ?_;have le9:=(le7.trans l8).trans l9;refine G.c Tryz.call14 (Alb p p (hC.mono le9) (by omega)) ?_;rintro v10 u10 l10 rfl;refine G.c Tryz.call13 (Ab6 tt hS.tx hcn tq) ?_;rintro v11 u11 l11 rfl;refine G.c Tryz.call15 (An4 tm tm tmm) ?_;rintro v12 u12 l12 rfl;refine G.c Tryz.call16 (An3 tq tmm tvp) ?_;rintro v13 u13 l13 rfl;refine G.c Tryz.call15 (An4 tk tk tkk) ?_;rintro v14 u14 l14 rfl;refine G.c Tryz.call15 (An4 tvp tvq tvw) ?_;rintro v15 u15 l15 rfl;refine G.q (Ag (C.t (Ar p p) / C.c - C.s p / C.c*(C.s p / C.c))) (Ag (Kt C p p)) rfl ?_;refine G.c Tryz.call17 (Alc tkk tvw) ?_;rintro v16 u16 l16 rfl;refine G.leqT (sgn (Kt C p q*Kt C p q - Kt C p p*Kt C q q).num) 0 (by kernel_rfl) (by
  refine Zt ?_;have:Kt C p q*Kt C p q - Kt C p p*Kt C q q≤0:=by grind
  have h2:0≤(-(Kt C p q*Kt C p q - Kt C p p*Kt C q q)).num:=Rat.num_nonneg.2 (by grind);rw [Rat.neg_num] at h2; omega) ?_
 have le16:=(((((((le9.trans l10).trans l11).trans l12).trans l13).trans l14).trans l15).trans l16);refine G.c Tryz.call6 (Zw (ht2.mono le16)) ?_;rintro v17 u17 l17 rfl;exact G.r (.bool true) ⟨rfl,rfl⟩
end
end Go.Proofs.YtnlfnomchebmcaaGreatDoor
