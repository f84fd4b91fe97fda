/- Parts of one proof, joined by a program. -/
import Derived.Test.YtnlfnomchebmcaaGreatDoorKA11
set_option linter.unusedVariables false
set_option linter.unusedSimpArgs false
set_option linter.unusedSectionVars false
set_option maxHeartbeats 16000000
namespace Go.Proofs.YtnlfnomchebmcaaGreatDoor
section
open Go.RowKit Go.MapKept
theorem Aa0 {u:PH}{T:List (List UInt8×Nat)}{R:List Bn}{F:List Am}{lab:Int}(ok:Bi u T R F lab):∀ l:Nat,lab=(l:Int)→l < T.length:=fun l hl=>by
 obtain ⟨n,hn⟩:=ok.l2 l hl;exact (List.getElem?_eq_some_iff.1 hn).1
theorem Afm {u:PH}{T:List (List UInt8×Nat)}{R:List Bn}{F:List Am}{lab:Int}{L:List E9}(ok:Bi u T R F lab)(h8:T.length≤8)(hT:∀ y∈L,Ca T y.1∧y.2.1≤7)(h6:L.length≤6):CFD 16 (10 ^ 39) (Bo F lab L):=by
 obtain ⟨d,_⟩:=Wv ok hT;refine d.to (by omega) ?_;have e:12 ^ (16 - 2*T.length)=144 ^ (8 - T.length):=by
  rw [show 16 - 2*T.length=2*(8 - T.length) by omega,Nat.pow_mul]
 have h1:144 ^ (8 - T.length)≤46656 ^ (8 - T.length):=Nat.pow_le_pow_left (by omega) _;have h2:46656 ^ T.length*46656 ^ (8 - T.length)=46656 ^ 8:=by rw [← Nat.pow_add]; congr 1; omega
 have h3:46656 ^ 8*42≤10 ^ 39:=by decide +kernel
 rw [e];have h4:L.length*(46656 ^ T.length*7)*144 ^ (8 - T.length)≤6*(46656 ^ T.length*7)*46656 ^ (8 - T.length):=Nat.mul_le_mul (Nat.mul_le_mul_right _ h6) h1;have h5:6*(46656 ^ T.length*7)*46656 ^ (8 - T.length)=(46656 ^ T.length*46656 ^ (8 - T.length))*42:=by
  generalize 46656 ^ T.length=a;generalize 46656 ^ (8 - T.length)=b;rw [Nat.mul_comm 6,Nat.mul_assoc a 7 6,Nat.mul_assoc a b 42,Nat.mul_assoc a (7*6) b,Nat.mul_comm (7*6) b]
 rw [h5,h2] at h4;exact Nat.le_trans h4 h3
theorem Ah8 {u:PH}{T:List (List UInt8×Nat)}{R:List Bn}{F:List Am}{lab:Int}{L:List E9}(ok:Bi u T R F lab)(h8:T.length≤8)(hT:∀ y∈L,Ca T y.1∧y.2.1≤7)(h6:L.length≤6):∃ k,Ht (Bo F lab L) k:=by
 obtain ⟨k,hk,hk7⟩:=Alr ok.feat ok.l1 (Aa0 ok) hT;have d:=Afm ok h8 hT h6;have e2:12 ^ 16 < 10 ^ 18:=by decide +kernel
 obtain ⟨d',_⟩:=Wv ok hT;have e1:L.length*(46656 ^ T.length*7) < 10 ^ 39:=by
  have h1:46656 ^ T.length≤46656 ^ 8:=Nat.pow_le_pow_right (by omega) h8;have h2:46656 ^ 8*42 < 10 ^ 39:=by decide +kernel
  have h3:=Nat.mul_le_mul h6 (Nat.mul_le_mul_right 7 h1);omega
 have e3:12 ^ (2*T.length) < 10 ^ 18:=Nat.lt_of_le_of_lt (Nat.pow_le_pow_right (by omega) (by omega)) e2;exact ⟨k,hk,by omega,fun p=>(d'.s p).de e1 e3,fun p=>(d'.t p).de e1 e3⟩
theorem Aco {u:PH}{T:List (List UInt8×Nat)}{R:List Bn}{F:List Am}{lab:Int}{L:List E9}{xv cv:Value}{P:List Par}(hX:D5 u xv T R F lab)(ok:Bi u T R F lab)(h8:T.length≤8)(hT:∀ y∈L,Ca T y.1∧y.2.1≤7)(h6:L.length≤6)
  (hC:Hb u cv (Bo F lab L) 1530) (hP:S2 F (Bo F lab L) P) (p24:P.length≤24) (lab0:0≤lab):∃ k,Hk u xv cv T R F lab (Bo F lab L) 1530 k P:=by
 obtain ⟨k,hk⟩:=Ah8 ok h8 hT h6;obtain ⟨sC,vC⟩:=M6 ok h8 hT (by omega);exact ⟨k,hX,ok,hC,sC,vC,by omega,Ac2,hk,hP,p24,lab0,Afm ok h8 hT h6⟩
theorem Nq.meas {u:PH}{T:List (List UInt8×Nat)}{R:List Bn}{F:List Am}{lab:Int}{L:List E9}{xv lv cv pv ev:Value}(w:Nq u T R F lab L xv lv cv pv ev) :
  ∃ P k,Ad u pv 2 (P.map Ak)∧P.length≤20∧Hk u xv cv T R F lab (Bo F lab L) 1530 k P:=by
 obtain ⟨P,_,h1,h2,h3⟩:=w.par;obtain ⟨k,hk⟩:=Aco w.sch w.ok w.t8 w.wok.tup w.l6 w.cof h3 (by omega) w.lab0;exact ⟨P,k,h1,h2,hk⟩
end
section
open Go.RowKit Go.MapKept
def Su:List (List UInt8×Nat):=[([121],2)]
def X0 (g:Nat):List Bn:=[([114],[0],(some ⟨g,0,none⟩,1))]
def Tp (g h:Nat):List E9:=[([[49]],1,(some ⟨g,0,none⟩,1)),([[51]],1,(some ⟨h,0,none⟩,1))]
theorem Anj {u:PH}{g:Nat}(h:Ad u (.slice (some ⟨g,0,none⟩) 1 1) 1 (Ai [0])):Bi u Su (X0 g) [] 0 where
 att:=⟨Oh (by decide +kernel),fun a ha=>by simp [Su] at ha; subst ha; decide⟩
 rel:=⟨Oh (by show (([[114]]:List (List UInt8)).all Gc && decide ([[114]]:List (List UInt8)).Nodup)=true; decide +kernel),fun r hr=>by simp [X0] at hr; subst hr; simp,fun r hr a ha=>by simp [X0] at hr; subst hr; simp at ha; show a < 1; omega,fun r hr=>by simp [X0] at hr; subst hr; simp,fun r hr k x y h1 h2=>by
  simp [X0] at hr; subst hr;simp at h2,fun a ha=>⟨_,List.mem_singleton.2 rfl,by
  have:a < 1:=ha;simp; omega⟩,fun r hr=>by simp [X0] at hr; subst hr; exact h⟩
 feat:=⟨fun f hf=>by simp at hf,by decide⟩
 t1:=by decide
 t2:=by decide
 r1:=by show 0 < 1; omega
 r2:=by show 1≤6; omega
 f2:=by decide
 l1:=by decide
 l2:=fun l hl=>by
  have:l=0:=by omega
  subst this; exact ⟨[121],rfl⟩
theorem Ali (t:List UInt8)(v:Rat)(h:∀ n:Fin 19,∀ d:Fin 13,d.val≠0→Ag (Rat.divInt ((n.val:Int) - 9) (d.val:Int))=t→Rat.divInt ((n.val:Int) - 9) (d.val:Int)=v){q:Rat}(hq:SmR q)(e:Ag q=t):q=v:=by
 have h1:=hq.num;have h2:=hq.le;have h3:=q.den_pos;have h4:=h ⟨(q.num+9).toNat,by omega⟩ ⟨q.den,by omega⟩ (by simpa using by omega);simp only at h4;rw [show (((q.num+9).toNat:Nat):Int) - 9=q.num by omega,Rat.num_divInt_den] at h4;exact h4 e
theorem Ajd:SmR 2:=⟨by decide +kernel,by decide +kernel⟩
theorem Ue:SmR 3:=⟨by decide +kernel,by decide +kernel⟩
theorem Aj7:G7 [49]=1:=by
 obtain ⟨h1,h2⟩:=Ls (t:=[49]) ⟨1,Jl,by decide +kernel⟩;exact Ali [49] 1 (by decide +kernel) h1 h2
theorem Ai7:G7 [51]=3:=by
 obtain ⟨h1,h2⟩:=Ls (t:=[51]) ⟨3,Ue,by decide +kernel⟩;exact Ali [51] 3 (by decide +kernel) h1 h2
theorem Ac1:Ca Su [[49]]:=⟨rfl,fun i x t hx ht=>by
 match i,hx,ht with
 | 0,hx,ht=>cases hx; cases ht; exact .inr (.inr (.inr ⟨rfl,1,Jl,by decide +kernel⟩))
 | i+1,hx,ht=>simp [Su] at hx⟩
theorem Ack:Ca Su [[51]]:=⟨rfl,fun i x t hx ht=>by
 match i,hx,ht with
 | 0,hx,ht=>cases hx; cases ht; exact .inr (.inr (.inr ⟨rfl,3,Ue,by decide +kernel⟩))
 | i+1,hx,ht=>simp [Su] at hx⟩
theorem Alf {t:List UInt8}(ht:Ca Su [t])(hc:Pk [] 0 [t]=true)(hne:t≠[]):(cfT [] 0 [t]).c=1∧(cfT [] 0 [t]).s Bh=G7 t∧(cfT [] 0 [t]).t (Ar Bh Bh)=G7 t*G7 t:=by
 have hF:Cy Su [] 0:=⟨fun f hf=>by simp at hf,by decide⟩;have hl:∀ l:Nat,(0:Int)=(l:Int)→l < [t].length:=fun l hl=>by simp; omega
 have hs:(cfT [] 0 [t]).s Bh=G7 t:=Aa8 hF ht (by omega) hl hc (a:=0) (by
  rw [Ew (w:=t) rfl];unfold Di Lx;rw [if_pos (show ((0:Nat):Int)=0 from rfl),if_neg hne]; rfl)
 rcases Ox hF ht (by omega) hl with ⟨_,h⟩ | ⟨h,_⟩
 ·exact ⟨h.c,hs,by rw [h.t,hs]⟩
 ·rw [h] at hc; cases hc
theorem Al5 (g h:Nat):(Bo [] 0 (Tp g h)).c=2∧(Bo [] 0 (Tp g h)).s Bh=4∧(Bo [] 0 (Tp g h)).t (Ar Bh Bh)=10:=by
 obtain ⟨a1,a2,a3⟩:=Alf Ac1 (by decide +kernel) (by decide);obtain ⟨b1,b2,b3⟩:=Alf Ack (by decide +kernel) (by decide);rw [Aj7] at a2 a3;rw [Ai7] at b2 b3;refine ⟨?_,?_,?_⟩
 ·show 0+(cfT [] 0 [[49]]).c*((1:Nat):Rat)+(cfT [] 0 [[51]]).c*((1:Nat):Rat)=2;rw [a1,b1]; decide +kernel
 ·show 0+(cfT [] 0 [[49]]).s Bh*((1:Nat):Rat)+(cfT [] 0 [[51]]).s Bh*((1:Nat):Rat)=4;rw [a2,b2]; decide +kernel
 ·show 0+(cfT [] 0 [[49]]).t (Ar Bh Bh)*((1:Nat):Rat)+(cfT [] 0 [[51]]).t (Ar Bh Bh)*((1:Nat):Rat)=10;rw [a3,b3]; decide +kernel
theorem Amd (C:CF):S2 [] C []:=⟨List.Pairwise.nil,fun p=>⟨fun h=>by simp at h,fun h=>by
 rcases h with ⟨i,f,_,hf,_⟩ | ⟨_,i,f,_,hf,_⟩ <;> simp at hf⟩⟩
theorem Zu:Fh [] 2 []:=⟨Ajd,fun x hx=>by simp at hx,List.Pairwise.nil,fun x hx=>by simp at hx,by simp⟩
theorem Aiz {C:CF}(h1:C.c=2)(h2:C.s Bh=4)(h3:C.t (Ar Bh Bh)=10) :
  Cr (cfE 2 []) [] C / C.c=0∧sqC (cfE 2 []) [] C / C.c=1∧Kt C Bh Bh=1:=by
 have n:Fp (cfE 2 []) [] C=8:=by
  unfold Fp Bw;show 2*C.c*2+0+0=8;rw [h1]; decide +kernel
 refine ⟨?_,?_,?_⟩
 ·unfold Cr Bw;show (C.s Bh - (2*C.c+0)) / C.c=0;rw [h1,h2]; decide +kernel
 ·unfold sqC Bw;rw [n];show (8+C.t (Ar Bh Bh) - 2*(2*C.s Bh+0)) / C.c=1;rw [h1,h2,h3]; decide +kernel
 ·unfold Kt;rw [h1,h2,h3]; decide +kernel
end
section
open Go.RowKit Go.MapKept
abbrev Aj8:Type:=List (Value×Rat×List (Par×Rat))
def Iq (u:PH)(es:List Value)(P:List Par)(Ms:Aj8):Prop:=es.length=Ms.length∧∀ (j:Nat) (x:Value×Rat×List (Par×Rat)),Ms[j]?=some x→∃ e,es[j]?=some e∧Ow u e P (cfE x.2.1 x.2.2)
theorem Iq.mono {u u':PH}{es:List Value}{P:List Par}{Ms:Aj8}(h:Iq u es P Ms)(hl:PH.le u u'):Iq u' es P Ms :=
 ⟨h.1,fun j x hx=>by obtain ⟨e,h1,h2⟩:=h.2 j x hx; exact ⟨e,h1,h2.mono hl⟩⟩
theorem Iq.snoc {u:PH}{es:List Value}{P:List Par}{Ms:Aj8}{e:Value}{x:Value×Rat×List (Par×Rat)}(h:Iq u es P Ms)(he:Ow u e P (cfE x.2.1 x.2.2)):Iq u (es++[e]) P (Ms++[x]):=by
 refine ⟨by simp [h.1],fun j y hy=>?_⟩;rcases Nat.lt_or_ge j Ms.length with hj | hj
 ·rw [List.getElem?_append_left hj] at hy;obtain ⟨e',h1,h2⟩:=h.2 j y hy;exact ⟨e',by rw [List.getElem?_append_left (by rw [h.1]; exact hj)]; exact h1,h2⟩
 ·rw [List.getElem?_append_right hj] at hy;have h0:j - Ms.length=0:=by
   have:=(List.getElem?_eq_some_iff.1 hy).1;simp at this; omega
  rw [h0] at hy;cases hy;exact ⟨e,by rw [List.getElem?_append_right (by rw [h.1]; exact hj),h.1,h0]; rfl,he⟩
theorem Agg {a a':Option Addr}{n c n' c':Nat}:A9 2 [.agg #[.slice a n c,.slice a' n' c']]:=by
 intro x hx;simp only [List.mem_cons,List.not_mem_nil,or_false] at hx;subst hx; exact ⟨rfl,List.all_eq_true.1 rfl⟩
theorem Tb {s:List UInt8}{a:Option Addr}{n c:Nat}:A9 2 [.agg #[.string (mkS s),.slice a n c]]:=by
 intro x hx;simp only [List.mem_cons,List.not_mem_nil,or_false] at hx;subst hx; exact ⟨rfl,List.all_eq_true.1 rfl⟩
theorem Hk.csgn {u:PH}{v cv:Value}{T:List (List UInt8×Nat)}{R:List Bn}{F:List Am}{lab:Int}{C:CF}{K k:Nat}{P:List Par}(h:Hk u v cv T R F lab C K k P)(h0:k≠0):¬ sgn C.c.num≤0:=by
 have h1:C.c.num=(k:Int):=by rw [h.mom.c]; exact Rat.num_natCast k
 rw [h1,Cz (by omega)]; omega
theorem R3 {u:PH}{v cv mv:Value}{T:List (List UInt8×Nat)}{R:List Bn}{F:List Am}{lab:Int}{C:CF}{K k:Nat}{P:List Par}{Ms:Aj8}(lb:Bool)(h:Hk u v cv T R F lab C K k P)(h0:k≠0)
  (hL:Ad u mv 2 (Ms.map (·.1))) (hM:∀ x∈Ms,Kg u x.1 x.2.1 x.2.2∧Fh P x.2.1 x.2.2) (hl:Ms.length≤1000) :
  Fn0 Tryz.prog 47 [v,cv,.bool lb,mv] u fun r u'=>∃ x ls es,r=.tuple #[x,ls,.int .i64 0]∧Df u' x C K∧Ad u' ls 2 es∧Iq u' es P Ms:=by
 have hK:=h.K;have hprm:=Q2 h.sch h.ok h.cof h.sC h.vC (by omega) h.bel;have hof:=fun (u':PH) (l:PH.le u u')=>Fn0.weak (Ae.giveAll (of0 (h.cof.mono l) h.sC (by omega))) fun v u' ⟨u1,m1,l1,l2,h⟩=>h.give l1 l2;have hpar:=h.par;have hX:=h.sch;have ok:=h.ok;have hS:=h.mom;have hsg:=h.csgn h0;have hlab:=h.lab0;have hP24:=h.p24;have hPL:=h.prm;obtain ⟨xa,xc,xb,xd,xe,xf,rfl,hTL,hRL,hFL⟩:=id h.sch;obtain ⟨a1,n1,c1,a2,n2,c2,rfl⟩:=h.cof.opn;obtain ⟨ma,mc,rfl⟩:=hL.opn;rw [List.length_map] at hL ⊢;refine Fn0.o Tryz.func47 ?_;refine G.c Tryz.call100 hprm ?_;rintro v1 u1 l1 (⟨rfl,Q,hQ,hQP⟩ | ⟨ps,Q,rfl,hP,_,hQP⟩)
 ·have:=hPL.eq hQP;subst this; omega
 obtain rfl:=hPL.eq hQP;obtain ⟨pa,pc,rfl⟩:=hP.opn;rw [List.length_map] at hP ⊢;refine G.nF 0 0 ?_;have hsign:∀ (u':PH),Fn0 Tryz.prog 88 [.string (mkS (Ag C.c))] u' fun v _=>v=.int .i64 (sgn C.c.num):=fun u'=>Nl hS.tx;cases lb
 case' true=>refine G.lF lab 0 ?_
 all_goals
  refine G.c Tryz.call88 (hsign u1) ?_;rintro v2 u2 l2 rfl;refine G.kF (sgn C.c.num) 0 ?_;refine G.l (ι:=Nat×(Option Addr×Nat)×List Value) (fun i=>[(4,.p 0 0),(5,.p 1 0),(8,.p 2 0),(11,.v (.slice pa P.length pc)),(13,.v (.slice i.2.1.1 i.2.2.length i.2.1.2)),(41,.v (.slice ma Ms.length mc)),(42,.v (.int .i64 (Ms.length:Int))),(43,.v (.int .i64 (i.1:Int)))])
   (fun _=>[(0,⟨30,[.v (.slice xa T.length xc),.v (.slice xb R.length xd),.v (.slice xe F.length xf),.v (.int .i64 lab)]⟩),(1,⟨36,[.v (.string (mkS (Ag C.c))),.v (.slice a1 n1 c1),.v (.slice a2 n2 c2)]⟩),(2,⟨93,[.v (.bool false),.v (.slice none 0 0),.v (.bool false),.v (.slice none 0 0),.v (.map none),.v (.map none)]⟩)])
   (fun i u' m'=>i.1≤Ms.length∧Iq u' i.2.2 P (Ms.take i.1)∧Af PH.mt m' (.slice i.2.1.1 i.2.2.length i.2.1.2) 113 2 i.2.2) (fun i=>Ms.length - i.1) (0,(none,0),[]) ⟨by omega,⟨rfl,fun j x hx=>by simp at hx⟩,Af.nil _ _ _⟩ ?_
  rintro J ⟨i,⟨oa,oc⟩,es⟩ hJ u3 m3 l3 ⟨hi,hE,hA⟩;simp only at hi hE hA hJ;have le3:=(l1.trans l2).trans l3;by_cases hlt:i < Ms.length
  ·refine G.lT (i:Int) (Ms.length:Int) ?_;obtain ⟨x,hMi⟩:∃ x,Ms[i]?=some x:=⟨_,List.getElem?_eq_getElem hlt⟩;obtain ⟨hmv,hmo⟩:=hM x (List.mem_of_getElem? hMi);have htk:=D1 hMi;obtain ⟨ba,ob,rfl,ea⟩:=Ad.at' (hL.mono le3) (j:=i) (e:=x.1) (by simp [hMi]);obtain ⟨xv,m0,M⟩:=x;simp only at hmv hmo ea;obtain ⟨na,nc,rfl,_⟩:=hmv.val;refine G.a ba ob Ms.length mc i 2 hlt ?_;refine G.lU (some 2) ba (ob+i*2) (.agg #[.string (mkS (Ag m0)),.slice na M.length nc]) ea ?_;refine G.c Tryz.call101 (Ahx (hP.mono (l2.trans l3)) hPL.1 (by omega) (hmv.mono le3) hmo) ?_;rintro v4 u4 l4 ⟨lv,rfl,hlv⟩;obtain ⟨la,lc,rfl⟩:=Ad.opn hlv;refine G.nF 0 0 ?_;refine G.c Tryz.call63 (Ve (hX.mono (le3.trans l4)) (ok.mono (le3.trans l4)) (hmv.mono (le3.trans l4)) hmo (by omega) hpar) ?_;rintro v5 u5 l5 rfl;refine G.c Tryz.call102 (Ae6 (hlv.mono l5) (fun q hq=>?_) (by rw [List.length_map,Fu]; omega)) ?_
   ·obtain ⟨e,_,rfl⟩:=List.mem_map.1 hq;cases e with
    | none=>exact hmo.tx.1
    | some p =>
     show Tx (A5 p M);by_cases hp:p∈M.map (·.1)
     ·obtain ⟨y,hy,rfl⟩:=List.mem_map.1 hp;rw [Gj (hmo.srt.nodup Dd) hy]; exact hmo.tx.2 y hy
     ·rw [Gn hp]; exact Yr.tx
   intro v6 u6 l6 k6;obtain ⟨es6,hL6,hF6⟩:=id k6;obtain ⟨fa,fc,rfl⟩:=hL6.opn;have hel:es6.length=P.length+1:=by rw [hF6.1,List.length_map,Fu]
   rw [hel] at k6 ⊢;have hesl:es.length≤1000:=by
    have:=hE.1;rw [List.length_take] at this; omega
   refine G.B 113 2 48 (.agg #[.slice none 0 0,.slice none 0 0]) [.agg #[.slice pa P.length pc,.slice fa (P.length+1) fc]] Agg ?_;intro g7 u7 l7 e7;refine G.append 113 2 48 (.agg #[.slice none 0 0,.slice none 0 0]) PH.mt es [.agg #[.slice pa P.length pc,.slice fa (P.length+1) fc]] _ g7 0 1 1 (by kernel_rfl) rfl rfl (by omega) hA e7 Agg rfl (by omega) (by show (es.length+1)*48≤140737488355328; omega) (by show es.length+1≤9223372036854775807; omega) ?_;intro v8 m8 hA8;obtain ⟨a8,c8,rfl⟩:=hA8.shape;have l37:=((l4.trans l5).trans l6).trans l7;have hE8:Iq u7 (es++[.agg #[.slice pa P.length pc,.slice fa (P.length+1) fc]]) P (Ms.take (i+1)):=by
    rw [htk]; exact (hE.mono l37).snoc ⟨_,_,_,_,rfl,hP.mono (((l2.trans l3).trans l37)),k6.mono l7⟩
   refine G.i i ?_;exact G.b (hJ (i+1,(a8,c8),es++[.agg #[.slice pa P.length pc,.slice fa (P.length+1) fc]]) _ _ _ cv (l3.trans l37) ⟨by dsimp only; omega,hE8,hA8⟩ (by dsimp only; omega))
  ·obtain rfl:i=Ms.length:=by omega
   refine G.lF (Ms.length:Int) (Ms.length:Int) ?_;rw [List.take_length] at hE;refine G.give _ _ _ (by kernel_rfl) hA (fun g=>.inl rfl) ?_;intro u10 l10 hLs;refine G.c Tryz.call68 (hof u10 (le3.trans l10)) ?_;intro v11 u11 l11 k11;obtain ⟨b,a,n,c,b',a',n',c',g1,g2,rfl⟩:=B7 k11;exact G.r (.tuple #[.agg #[.bool b,.slice a n c,.bool b',.slice a' n' c',.map (some g1),.map (some g2)],.slice oa es.length oc,.int .i64 0]) ⟨rfl,_,_,es,rfl,k11,hLs.mono l11,hE.mono (l10.trans l11)⟩
theorem Uq {u:PH}{v cv mv:Value}{T:List (List UInt8×Nat)}{R:List Bn}{F:List Am}{lab:Int}{C:CF}{K k:Nat}{P:List Par}(h:Hk u v cv T R F lab C K k P)(h0:k=0) :
  Fn0 Tryz.prog 47 [v,cv,.bool true,mv] u fun r u'=>r=.tuple #[.agg #[.bool false,.slice none 0 0,.bool false,.slice none 0 0,.map none,.map none],.slice none 0 0,.int .i64 12]:=by
 have hK:=h.K;have hprm:=Q2 h.sch h.ok h.cof h.sC h.vC (by omega) h.bel;have hS:=h.mom;have hlab:=h.lab0;have hP24:=h.p24;have hPL:=h.prm;obtain ⟨xa,xc,xb,xd,xe,xf,rfl,hTL,hRL,hFL⟩:=id h.sch;obtain ⟨a1,n1,c1,a2,n2,c2,rfl⟩:=h.cof.opn;refine Fn0.o Tryz.func47 ?_;refine G.c Tryz.call100 hprm ?_;rintro v1 u1 l1 (⟨rfl,Q,hQ,hQP⟩ | ⟨ps,Q,rfl,hP,_,hQP⟩)
 ·have:=hPL.eq hQP;subst this; omega
 obtain ⟨pa,pc,rfl⟩:=hP.opn;refine G.nF 0 0 ?_;refine G.lF lab 0 ?_;refine G.c Tryz.call88 (Nl hS.tx) ?_;rintro v2 u2 l2 rfl;refine G.leqT (sgn C.c.num) 0 (by kernel_rfl) (by
  have:C.c=0:=by rw [hS.c,h0]; rfl
  rw [Pc.2 this]; exact Int.le_refl _) ?_
 exact G.r (.tuple #[.agg #[.bool false,.slice none 0 0,.bool false,.slice none 0 0,.map none,.map none],.slice none 0 0,.int .i64 12]) ⟨rfl,rfl⟩
end
section
open Go.RowKit Go.MapKept
section
variable {u:PH} {v cv mv:Value} {T:List (List UInt8×Nat)} {R:List Bn} {F:List Am} {lab:Int} {C:CF} {K k:Nat} {P:List Par} {m0:Rat} {M:List (Par×Rat)}
theorem Hk.lt (h:Hk u v cv T R F lab C K k P):k < 10 ^ 2:=by have:=h.mom.lt; omega
theorem Hk.biasE (h:Hk u v cv T R F lab C K k P)(h0:k≠0)(hm:Fh P m0 M):De 47 22 (Cr (cfE m0 M) P C / C.c):=by
 rw [h.mom.c];exact (((h.qok hm).biasD (by have:=h.p24; omega)).de (a:=47) (b:=20) (by decide +kernel) (by decide +kernel)).divn (by omega) h.lt
theorem Hk.sqE (h:Hk u v cv T R F lab C K k P)(h0:k≠0)(hm:Fh P m0 M):De 49 22 (sqC (cfE m0 M) P C / C.c):=by
 rw [h.mom.c];exact (((h.qok hm).sqD (by have:=h.p24; omega)).de (a:=49) (b:=20) (by decide +kernel) (by decide +kernel)).divn (by omega) h.lt
theorem Ro {u:PH}{P:List Par}{x:Value×Rat×List (Par×Rat)}{es:List Value}(h:Iq u es P [x]):∃ e,es = [e]∧Ow u e P (cfE x.2.1 x.2.2):=by
 obtain ⟨h1,h2⟩:=h;obtain ⟨e,he,hl⟩:=h2 0 x rfl
 match es,h1,he with
 | [y],_,he=>cases he; exact ⟨e,rfl,hl⟩
theorem Ys (ht:Ib u)(h:Hk u v cv T R F lab C K k P)(h0:k≠0)(hmv:Kg u mv m0 M)(hm:Fh P m0 M) :
  Fn0 Tryz.prog 30 [v,cv,mv] u fun r _=>r=.tuple #[.string (mkS (Ag (Cr (cfE m0 M) P C / C.c))),.int .i64 0]:=by
 have hop:=fun (u':PH) (l:PH.le u u') (mv':Value) (hL:Ad u' mv' 2 ([(mv,m0,M)].map (·.1)))=>R3 true (h.mono l) h0 hL (fun x hx=>by
  simp only [List.mem_cons,List.not_mem_nil,or_false] at hx;subst hx; exact ⟨hmv.mono l,hm⟩) (by simp)
 have hP24:=h.p24;obtain ⟨xa,xc,xb,xd,xe,xf,rfl,_⟩:=id h.sch;obtain ⟨a1,n1,c1,a2,n2,c2,rfl⟩:=h.cof.opn;obtain ⟨na,nc,rfl,_⟩:=id hmv.val;refine Fn0.o Tryz.func30 ?_;refine G.B 52 2 40 (.agg #[.string (mkS []),.slice none 0 0]) [.agg #[.string (mkS (Ag m0)),.slice na M.length nc]] Tb ?_;intro g1 u1 l1 e1;refine G.c Tryz.call47 (hop u1 l1 _ e1.listP) ?_;rintro v2 u2 l2 ⟨x,ls,es,rfl,k2,hls,hla⟩;obtain ⟨e,rfl,he⟩:=Ro hla;obtain ⟨b,a,n,c,b',a',n',c',g1',g2,rfl,hcn⟩:=Kx k2;obtain ⟨la,lc,rfl⟩:=hls.opn;obtain ⟨bb,ob,rfl,eb⟩:=Ad.at' hls (j:=0) (e:=e) rfl;obtain ⟨pa,pc,fa,fc,rfl,_⟩:=id he.val;refine G.nF 0 0 ?_;refine G.a bb ob 1 lc 0 2 (by omega) ?_;refine G.lU (some 2) bb (ob+0*2) (.agg #[.slice pa P.length pc,.slice fa (P.length+1) fc]) eb ?_;refine G.c Tryz.call71 (Alh he k2 (by omega) (h.qok hm)) ?_;intro v3 u3 l3 k3;obtain ⟨b3,a3,n3,c3,b3',a3',n3',c3',rfl⟩:=k3.opn;refine G.c Tryz.call39 (Gy k3 (hcn.mono l3) (((h.qok hm).biasD (by omega)).szb (by omega) (by decide +kernel)) (h.mom.csz.mono (by omega)) (h.mom.cne h0)) ?_;intro v4 u4 l4 k4;obtain ⟨b4,a4,n4,c4,b4',a4',n4',c4',rfl⟩:=k4.opn;refine G.c Tryz.call40 (Gs (ht.mono (((l1.trans l2).trans l3).trans l4)) k4 ((h.biasE h0 hm).tx (by omega) (by omega) (by omega) (by omega))) ?_;rintro v5 u5 l5 rfl;exact G.r (.tuple #[.string (mkS (Ag (Cr (cfE m0 M) P C / C.c))),.int .i64 0]) ⟨rfl,rfl⟩
theorem Ael (h:Hk u v cv T R F lab C K k P)(h0:k=0)(hmv:Kg u mv m0 M) :
  Fn0 Tryz.prog 30 [v,cv,mv] u fun r _=>r=.tuple #[.string (mkS []),.int .i64 12]:=by
 have hop:=fun (u':PH) (l:PH.le u u') (mv':Value)=>Uq (mv:=mv') (h.mono l) h0;obtain ⟨xa,xc,xb,xd,xe,xf,rfl,_⟩:=id h.sch;obtain ⟨a1,n1,c1,a2,n2,c2,rfl⟩:=h.cof.opn;obtain ⟨na,nc,rfl,_⟩:=id hmv.val;refine Fn0.o Tryz.func30 ?_;refine G.B 52 2 40 (.agg #[.string (mkS []),.slice none 0 0]) [.agg #[.string (mkS (Ag m0)),.slice na M.length nc]] Tb ?_;intro g1 u1 l1 e1;refine G.c Tryz.call47 (hop u1 l1 (.slice (some ⟨g1,0,none⟩) 1 1)) ?_;rintro v2 u2 l2 rfl;refine G.nT 12 0 ?_;exact G.r (.tuple #[.string (mkS []),.int .i64 12]) ⟨rfl,rfl⟩
theorem Uf (ht:Ib u)(h:Hk u v cv T R F lab C K k P)(h0:k≠0)(hmv:Kg u mv m0 M)(hm:Fh P m0 M) :
  Fn0 Tryz.prog 31 [v,cv,mv] u fun r _=>r=.tuple #[.string (mkS (Ag (sqC (cfE m0 M) P C / C.c))),.int .i64 0]:=by
 have hop:=fun (u':PH) (l:PH.le u u') (mv':Value) (hL:Ad u' mv' 2 ([(mv,m0,M)].map (·.1)))=>R3 true (h.mono l) h0 hL (fun x hx=>by
  simp only [List.mem_cons,List.not_mem_nil,or_false] at hx;subst hx; exact ⟨hmv.mono l,hm⟩) (by simp)
 have hP24:=h.p24;obtain ⟨xa,xc,xb,xd,xe,xf,rfl,_⟩:=id h.sch;obtain ⟨a1,n1,c1,a2,n2,c2,rfl⟩:=h.cof.opn;obtain ⟨na,nc,rfl,_⟩:=id hmv.val;refine Fn0.o Tryz.func31 ?_;refine G.B 52 2 40 (.agg #[.string (mkS []),.slice none 0 0]) [.agg #[.string (mkS (Ag m0)),.slice na M.length nc]] Tb ?_;intro g1 u1 l1 e1;refine G.c Tryz.call47 (hop u1 l1 _ e1.listP) ?_;rintro v2 u2 l2 ⟨x,ls,es,rfl,k2,hls,hla⟩;obtain ⟨e,rfl,he⟩:=Ro hla;obtain ⟨b,a,n,c,b',a',n',c',g1',g2,rfl,hcn⟩:=Kx k2;obtain ⟨la,lc,rfl⟩:=hls.opn;obtain ⟨bb,ob,rfl,eb⟩:=Ad.at' hls (j:=0) (e:=e) rfl;obtain ⟨pa,pc,fa,fc,rfl,_⟩:=id he.val;refine G.nF 0 0 ?_;refine G.a bb ob 1 lc 0 2 (by omega) ?_;refine G.lU (some 2) bb (ob+0*2) (.agg #[.slice pa P.length pc,.slice fa (P.length+1) fc]) eb ?_;refine G.c Tryz.call72 (sq0 he k2 (by omega) (h.qok hm)) ?_;intro v3 u3 l3 k3;obtain ⟨b3,a3,n3,c3,b3',a3',n3',c3',rfl⟩:=k3.opn;refine G.c Tryz.call39 (Gy k3 (hcn.mono l3) (((h.qok hm).sqD (by omega)).szb (by omega) (by decide +kernel)) (h.mom.csz.mono (by omega)) (h.mom.cne h0)) ?_;intro v4 u4 l4 k4;obtain ⟨b4,a4,n4,c4,b4',a4',n4',c4',rfl⟩:=k4.opn;refine G.c Tryz.call40 (Gs (ht.mono (((l1.trans l2).trans l3).trans l4)) k4 ((h.sqE h0 hm).tx (by omega) (by omega) (by omega) (by omega))) ?_;rintro v5 u5 l5 rfl;exact G.r (.tuple #[.string (mkS (Ag (sqC (cfE m0 M) P C / C.c))),.int .i64 0]) ⟨rfl,rfl⟩
theorem Aav (h:Hk u v cv T R F lab C K k P)(h0:k=0)(hmv:Kg u mv m0 M) :
  Fn0 Tryz.prog 31 [v,cv,mv] u fun r _=>r=.tuple #[.string (mkS []),.int .i64 12]:=by
 have hop:=fun (u':PH) (l:PH.le u u') (mv':Value)=>Uq (mv:=mv') (h.mono l) h0;obtain ⟨xa,xc,xb,xd,xe,xf,rfl,_⟩:=id h.sch;obtain ⟨a1,n1,c1,a2,n2,c2,rfl⟩:=h.cof.opn;obtain ⟨na,nc,rfl,_⟩:=id hmv.val;refine Fn0.o Tryz.func31 ?_;refine G.B 52 2 40 (.agg #[.string (mkS []),.slice none 0 0]) [.agg #[.string (mkS (Ag m0)),.slice na M.length nc]] Tb ?_;intro g1 u1 l1 e1;refine G.c Tryz.call47 (hop u1 l1 (.slice (some ⟨g1,0,none⟩) 1 1)) ?_;rintro v2 u2 l2 rfl;refine G.nT 12 0 ?_;exact G.r (.tuple #[.string (mkS []),.int .i64 12]) ⟨rfl,rfl⟩
theorem Aee (ht:Ib u)(h:Hk u v cv T R F lab C K k P)(h0:k≠0)(hmv:Kg u mv m0 M)(hm:Fh P m0 M)(hv:Kt C Bh Bh≠0) :
  Fn0 Tryz.prog 33 [v,cv,mv] u fun r _=>r=.tuple #[.string (mkS (Ag (1 - sqC (cfE m0 M) P C / C.c / Kt C Bh Bh))),.int .i64 0]:=by
 have hop:=fun (u':PH) (l:PH.le u u') (mv':Value) (hL:Ad u' mv' 2 ([(mv,m0,M)].map (·.1)))=>R3 true (h.mono l) h0 hL (fun x hx=>by
  simp only [List.mem_cons,List.not_mem_nil,or_false] at hx;subst hx; exact ⟨hmv.mono l,hm⟩) (by simp)
 have hP24:=h.p24;have hcov:=h.mom.cov h0 Bh Bh;have hq1:=(h.sqE h0 hm).divq hcov hv;have hq2:De 123 122 (1 - sqC (cfE m0 M) P C / C.c / Kt C Bh Bh):=(De.nat (n:=1) (a:=1) (by omega)).sub hq1 (f:=122) (by omega) (by omega);have c1':((1:Int):Rat)=1:=by decide +kernel
 obtain ⟨xa,xc,xb,xd,xe,xf,rfl,_⟩:=id h.sch;obtain ⟨a1,n1,c1,a2,n2,c2,rfl⟩:=h.cof.opn;obtain ⟨na,nc,rfl,_⟩:=id hmv.val;refine Fn0.o Tryz.func33 ?_;refine G.B 52 2 40 (.agg #[.string (mkS []),.slice none 0 0]) [.agg #[.string (mkS (Ag m0)),.slice na M.length nc]] Tb ?_;intro g1 u1 l1 e1;refine G.c Tryz.call47 (hop u1 l1 _ e1.listP) ?_;rintro v2 u2 l2 ⟨x,ls,es,rfl,k2,hls,hla⟩;obtain ⟨e,rfl,he⟩:=Ro hla;obtain ⟨b,a,n,c,b',a',n',c',g1',g2,rfl,hcn⟩:=Kx k2;obtain ⟨la,lc,rfl⟩:=hls.opn;obtain ⟨bb,ob,rfl,eb⟩:=Ad.at' hls (j:=0) (e:=e) rfl;obtain ⟨pa,pc,fa,fc,rfl,_⟩:=id he.val;refine G.nF 0 0 ?_;refine G.c Tryz.call79 Mp ?_;rintro v3 u3 l3 rfl;refine G.c Tryz.call79 Mp ?_;rintro v4 u4 l4 rfl;refine G.c Tryz.call41 (Ac6 Bh Bh (k2.mono (l3.trans l4)) h.mom h0) ?_;intro v5 u5 l5 k5;obtain ⟨b5,a5,n5,c5,b5',a5',n5',c5',rfl⟩:=k5.opn;refine G.c Tryz.call80 (Gh k5 (Nat.le_trans (hcov.szn (by omega) (by omega) (by omega) (by omega)).1 (by omega))) ?_;rintro v6 u6 l6 rfl;refine G.eF' (sgn (Kt C Bh Bh).num) 0 (fun e=>hv (Pc.1 e)) ?_;have le6:=((l3.trans l4).trans l5).trans l6;refine G.a bb ob 1 lc 0 2 (by omega) ?_;refine G.lU (some 2) bb (ob+0*2) (.agg #[.slice pa P.length pc,.slice fa (P.length+1) fc]) (eb.mono le6) ?_;refine G.c Tryz.call64 (D8 (z:=1) (by omega) (by omega)) ?_;intro v7 u7 l7 k7;rw [c1'] at k7;obtain ⟨b7,a7,n7,c7,b7',a7',n7',c7',rfl⟩:=k7.opn;have le7:=le6.trans l7;refine G.c Tryz.call72 (sq0 (he.mono le7) (k2.mono le7) (by omega) (h.qok hm)) ?_;intro v8 u8 l8 k8;obtain ⟨b8,a8,n8,c8,b8',a8',n8',c8',rfl⟩:=k8.opn;refine G.c Tryz.call39 (Gy k8 (hcn.mono (le7.trans l8)) (((h.qok hm).sqD (by omega)).szb (by omega) (by decide +kernel)) (h.mom.csz.mono (by omega)) (h.mom.cne h0)) ?_;intro v9 u9 l9 k9;obtain ⟨b9,a9,n9,c9,b9',a9',n9',c9',rfl⟩:=k9.opn;refine G.c Tryz.call39 (Gy k9 (k5.mono (((l6.trans l7).trans l8).trans l9)) ((h.sqE h0 hm).s1000 (by omega) (by omega) (by omega) (by omega)) (hcov.s1000 (by omega) (by omega) (by omega) (by omega)) hv) ?_;intro v10 u10 l10 k10;obtain ⟨b10,a10,n10,c10,b10',a10',n10',c10',rfl⟩:=k10.opn;refine G.c Tryz.call48 (Ns (k7.mono ((l8.trans l9).trans l10)) k10 ((De.nat (n:=1) (a:=1) (by omega)).s1000 (by omega) (by omega) (by omega) (by omega)) (hq1.s1000 (by omega) (by omega) (by omega) (by omega))) ?_;intro v11 u11 l11 k11;obtain ⟨b11,a11,n11,c11,b11',a11',n11',c11',rfl⟩:=k11.opn;have le11:=((((l1.trans l2).trans le7).trans l8).trans l9).trans (l10.trans l11);refine G.c Tryz.call40 (Gs (ht.mono le11) k11 (hq2.tx (by omega) (by omega) (by omega) (by omega))) ?_;rintro v12 u12 l12 rfl;exact G.r (.tuple #[.string (mkS (Ag (1 - sqC (cfE m0 M) P C / C.c / Kt C Bh Bh))),.int .i64 0]) ⟨rfl,rfl⟩
end
end
section
open Go.RowKit Go.MapKept
theorem Zw {u:PH}(ht:Ib u):Fn0 Tryz.prog 6 [] u fun r _=>r=.bool true:=by
 refine Fn0.o Tryz.func6 ?_;refine G.buildU 73 2 24 (.agg #[.string (mkS []),.int .i64 0]) [.agg #[.string (mkS [121]),.int .i64 ((2:Nat):Int)]] (by kernel_rfl) (fun x hx=>by
  simp only [List.mem_cons,List.not_mem_nil,or_false] at hx;subst hx; exact ⟨rfl,List.all_eq_true.1 rfl⟩) rfl (by omega) (by simp) (by simp) ?_
 intro g1 u1 l1 e1;refine G.B 3 1 8 (.int .i64 0) [.int .i64 ((0:Nat):Int)] (Az [0]) ?_;intro g2 u2 l2 e2;refine G.buildU 75 2 40 (.agg #[.string (mkS []),.slice none 0 0]) [.agg #[.string (mkS [114]),.slice (some ⟨g2,0,none⟩) 1 1]] (by kernel_rfl) (fun x hx=>by
  simp only [List.mem_cons,List.not_mem_nil,or_false] at hx;subst hx; exact ⟨rfl,List.all_eq_true.1 rfl⟩) rfl (by omega) (by simp) (by simp) ?_
 intro g3 u3 l3 e3;have hsch:D5 u3 (.agg #[.slice (some ⟨g1,0,none⟩) 1 1,.slice (some ⟨g3,0,none⟩) 1 1,.slice none 0 0,.int .i64 0]) Su (X0 g2) [] 0 :=
  ⟨_,_,_,_,_,_,rfl,e1.listP.mono (l2.trans l3),e3.listP,Ad.nil _ _ _ _⟩
 have hok:Bi u3 Su (X0 g2) [] 0:=Anj (e2.listP.mono l3);refine G.B 9 1 16 (.string (mkS [])) [.string (mkS [49])] (Hz [[49]]) ?_;intro g4 u4 l4 e4;refine G.B 9 1 16 (.string (mkS [])) [.string (mkS [51])] (Hz [[51]]) ?_;intro g5 u5 l5 e5;refine G.buildU 62 2 32 (.agg #[.slice none 0 0,.int .i64 0]) [.agg #[.slice (some ⟨g4,0,none⟩) 1 1,.int .i64 1],.agg #[.slice (some ⟨g5,0,none⟩) 1 1,.int .i64 1]] (by kernel_rfl) (fun x hx=>by
  simp only [List.mem_cons,List.not_mem_nil,or_false] at hx;rcases hx with rfl | rfl <;> exact ⟨rfl,List.all_eq_true.1 rfl⟩) rfl (by omega) (by simp) (by simp) ?_
 intro g6 u6 l6 e6;have l36:=(l4.trans l5).trans l6;have hrows:Ad u6 (.slice (some ⟨g6,0,none⟩) (Tp g4 g5).length 2) 2 ((Tp g4 g5).map Ga):=e6.listP;have hW:WOK u6 Su (Tp g4 g5):=fun y hy=>by
  simp only [Tp,List.mem_cons,List.not_mem_nil,or_false] at hy;rcases hy with rfl | rfl
  ·exact ⟨e4.listP.mono (l5.trans l6),Ac1,Nat.le_refl 1,by show 1≤7; omega⟩
  ·exact ⟨e5.listP.mono l6,Ack,Nat.le_refl 1,by show 1≤7; omega⟩
 refine G.c Tryz.call32 (M4 (hsch.mono l36) (hok.mono l36) (by decide) hrows hW (by simp [Tp])) ?_;rintro v7 u7 l7 ⟨x,rfl,k7⟩;have l37:=l36.trans l7;obtain ⟨h1,h2,h3⟩:=Al5 g4 g5;obtain ⟨hb0,hq1,hv1⟩:=Aiz h1 h2 h3;obtain ⟨k,hMe⟩:=Aco (P:=[]) (hsch.mono l37) (hok.mono l37) (by decide) hW.tup (by simp [Tp]) k7 (Amd _) (by simp) (by omega);generalize Bo [] 0 (Tp g4 g5)=C at hMe h1 hb0 hq1 hv1 k7;have h0:k≠0:=by
  rintro rfl;have:=hMe.mom.c;rw [h1] at this;exact absurd this (by decide +kernel)
 obtain ⟨a1,n1,c1,a2,n2,c2,rfl⟩:=k7.opn;have hmv:Kg u7 (.agg #[.string (mkS [50]),.slice none 0 0]) 2 []:=⟨none,0,by rw [Afn]; rfl,Ad.nil _ _ _ _⟩;have ht7:=ht.mono (((l1.trans l2).trans l3).trans l37);have hvar:Kt C Bh Bh≠0:=by rw [hv1]; decide
 have hB:=Ys ht7 hMe h0 hmv Zu;rw [hb0,Fd] at hB;refine G.c Tryz.call30 hB ?_;rintro v8 u8 l8 rfl;have hE:=Uf (ht7.mono l8) (hMe.mono l8) h0 (hmv.mono l8) Zu;rw [hq1,Yl] at hE;refine G.c Tryz.call31 hE ?_;rintro v9 u9 l9 rfl;have le9:=l8.trans l9;have hS:=Aee (ht7.mono le9) (hMe.mono le9) h0 (hmv.mono le9) Zu hvar;rw [hq1,hv1,show (1:Rat) - 1 / 1=0 by decide +kernel,Fd] at hS;refine G.c Tryz.call33 hS ?_;rintro v10 u10 l10 rfl;have le10:=le9.trans l10;have hV:=V7 Bh (ht7.mono le10) (k7.mono le10) hMe.sC hMe.vC (by omega) hMe.mom h0;rw [hv1,Yl] at hV;refine G.c Tryz.call10 hV ?_;rintro v11 u11 l11 rfl;refine G.eT' 0 0 rfl ?_;refine G.eT' 0 0 rfl ?_;refine G.eT' 0 0 rfl ?_;refine G.eT' 0 0 rfl ?_;refine G.q [48] [48] rfl ?_;refine G.q [49] [49] rfl ?_;refine G.q [48] [48] rfl ?_;refine G.q [49] [49] rfl ?_;exact G.r (.bool true) ⟨rfl,rfl⟩
end
section
open Go.RowKit Go.MapKept
def Ak6 (a:Option Addr)(c:Nat)(L:List Par):Arr:=⟨.slice a L.length c,44,2,L.map Ak⟩
theorem Afa {m0:Rat}{M:List (Par×Rat)}(hn:(M.map (·.1)).Nodup):m0::M.map (·.2)=(Bw (M.map (·.1))).map (cfE m0 M):=by
 unfold Bw;rw [List.map_cons,List.map_map,List.map_map]
 congr 1
 exact List.map_congr_left fun x hx=>(Gj (a:=x.1) (q:=x.2) hn hx).symm
theorem An8 {u:PH}{mv:Value}{m0:Rat}{M:List (Par×Rat)}(h:Kg u mv m0 M)(t0:Tx m0)(tM:∀ x∈M,Tx x.2)(hn:(M.map (·.1)).Nodup)(hl:M.length≤1000) :
  Fn0 Tryz.prog 67 [mv] u fun r u'=>Ow u' r (M.map (·.1)) (cfE m0 M):=by
 obtain ⟨a,c,rfl,hM⟩:=h.val;refine Fn0.o Tryz.func67 ?_;refine G.c Tryz.call133 (Em t0) ?_;intro v1 u1 l1 k1;have k1o:=k1.ok;obtain ⟨b1,a1,n1,c1,b1',a1',n1',c1',rfl⟩:=k1.opn;refine G.buildM 89 4 64 (.agg #[.bool false,.slice none 0 0,.bool false,.slice none 0 0]) [.agg #[.bool b1,.slice a1 n1 c1,.bool b1',.slice a1' n1' c1']] (by kernel_rfl) k1o rfl (by omega) (by simp) (by simp) ?_;intro g2 m2 hA2;refine G.l (ι:=Nat×(Option Addr×Nat)×(Option Addr×Nat)×List Value) (fun i=>[(1,.p 0 0),(2,.p 1 0),(3,.p 1005 0),(12,.v (.slice a M.length c)),(13,.v (.int .i64 (M.length:Int))),(14,.v (.int .i64 (i.1:Int)))])
  (fun i=>[(0,⟨52,[.v (.string (mkS (Ag m0))),.v (.slice a M.length c)]⟩),(1,⟨113,[.v (.slice none 0 0),.v (.slice none 0 0)]⟩),(1005,⟨113,[.v (.slice i.2.1.1 ((M.take i.1).map (·.1)).length i.2.1.2),.v (.slice i.2.2.1.1 i.2.2.2.length i.2.2.1.2)]⟩)])
  (fun i u' m'=>i.1≤M.length∧Gw u' i.2.2.2 (m0::(M.take i.1).map (·.2))∧Bag m' [Afw (.slice i.2.2.1.1 i.2.2.2.length i.2.2.1.2,i.2.2.2),Ak6 i.2.1.1 i.2.1.2 ((M.take i.1).map (·.1))])
  (fun i=>M.length - i.1) (0,(none,0),(some ⟨g2,0,none⟩,1),[.agg #[.bool b1,.slice a1 n1 c1,.bool b1',.slice a1' n1' c1']])
  ⟨by omega,⟨rfl,fun j q hj=>by
   match j,hj with
   | 0,hj=>cases hj; exact ⟨_,rfl,k1⟩
   | j+1,hj=>simp at hj⟩,PH.mt,hA2,PH.mt,Af.nil _ _ _,trivial⟩ ?_
 rintro J ⟨i,⟨pa,pc⟩,⟨fa,fc⟩,es⟩ hJ u3 m3 l3 ⟨hi,hE,hbag⟩;simp only at hi hE hbag hJ;have le3:=l1.trans l3;have hel:es.length=i+1:=by rw [hE.1,List.length_cons,List.length_map,List.length_take]; omega
 by_cases hlt:i < M.length
 ·refine G.lT (i:Int) (M.length:Int) ?_;obtain ⟨x,hMi⟩:∃ x,M[i]?=some x:=⟨_,List.getElem?_eq_getElem hlt⟩;have htk:=D1 hMi;have htl:(M.take i).length=i:=by rw [List.length_take]; omega
  obtain ⟨ba,oa,rfl,ea⟩:=Ad.at' (hM.mono le3) (j:=i) (e:=A3 x) (by simp [hMi]);refine G.a ba oa M.length c i 3 hlt ?_;refine G.lU (some 3) ba (oa+i*3) (.agg #[.int .i64 x.1.1,.string (mkS x.1.2),.string (mkS (Ag x.2))]) ea ?_;refine G.B 44 2 24 (.agg #[.int .i64 0,.string (mkS [])]) [.agg #[.int .i64 x.1.1,.string (mkS x.1.2)]] (E2 x.1) ?_;intro g6 u6 l6 e6;obtain ⟨mm,hx0,hput⟩:=hbag.focus 1 rfl;refine G.k 44 2 24 (.agg #[.int .i64 0,.string (mkS [])]) mm (((M.take i).map (fun x:Par×Rat=>x.1)).map Ak) [Ak x.1] _ g6 0 1 1 hx0 e6 (E2 x.1) ?_;intro v7 m7 hA7;rw [show ((M.take i).map (·.1)).map Ak++[Ak x.1]=((M.take (i+1)).map (·.1)).map Ak by rw [htk]; simp] at hA7;obtain ⟨a7,c7,rfl⟩:=hA7.shape;rw [List.length_map (f:=Ak)] at hA7 ⊢;have hbag7:=hput (Ak6 a7 c7 ((M.take (i+1)).map (fun x:Par×Rat=>x.1))) m7 hA7;refine G.c Tryz.call133 (Em (tM x (List.mem_of_getElem? hMi))) ?_;intro v8 u8 l8 k8;have k8o:=k8.ok;obtain ⟨b8,a8,n8,c8,b8',a8',n8',c8',rfl⟩:=k8.opn;refine G.B 89 4 64 (.agg #[.bool false,.slice none 0 0,.bool false,.slice none 0 0]) [.agg #[.bool b8,.slice a8 n8 c8,.bool b8',.slice a8' n8' c8']] k8o ?_;intro g9 u9 l9 e9;obtain ⟨mm2,hx2,hput2⟩:=hbag7.focus 0 rfl;refine G.append 89 4 64 (.agg #[.bool false,.slice none 0 0,.bool false,.slice none 0 0]) mm2 es [.agg #[.bool b8,.slice a8 n8 c8,.bool b8',.slice a8' n8' c8']] _ g9 0 1 1 (by kernel_rfl) rfl rfl (by omega) hx2 e9 k8o rfl (by omega) (by show (es.length+1)*64≤140737488355328; omega) (by show es.length+1≤9223372036854775807; omega) ?_;intro v10 m10 hA10;obtain ⟨a10,c10,rfl⟩:=hA10.shape;have hbag10:=hput2 (Afw (Value.slice a10 (es++[Value.agg #[.bool b8,.slice a8 n8 c8,.bool b8',.slice a8' n8' c8']]).length c10,es++[Value.agg #[.bool b8,.slice a8 n8 c8,.bool b8',.slice a8' n8' c8']])) m10 hA10;have l39:=((l6.trans l8).trans l9);have hE10:Gw u9 (es++[.agg #[.bool b8,.slice a8 n8 c8,.bool b8',.slice a8' n8' c8']]) (m0::(M.take (i+1)).map (·.2)):=by
   rw [htk,List.map_append,← List.cons_append];exact (hE.mono l39).snoc (k8.mono l9)
  refine G.i i ?_;exact G.b (hJ (i+1,(a7,c7),(a10,c10),es++[Value.agg #[.bool b8,.slice a8 n8 c8,.bool b8',.slice a8' n8' c8']]) _ _ _ cv (l3.trans l39) ⟨by dsimp only; omega,hE10,hbag10⟩ (by dsimp only; omega))
 ·obtain rfl:i=M.length:=by omega
  refine G.lF (M.length:Int) (M.length:Int) ?_;rw [List.take_length] at hE hbag ⊢;obtain ⟨m4,h4,m5,h5,_⟩:=hbag;refine G.give _ _ _ (by kernel_rfl) h4 (fun g=>.inl rfl) ?_;intro u6 l6 hF;refine G.give _ _ _ (by kernel_rfl) h5 (fun g=>.inl rfl) ?_;intro u7 l7 hP;refine G.drop PH.mt (by kernel_rfl) (PH.mt_le _) ?_;have hlin:Ow u7 (.agg #[.slice pa (M.map (·.1)).length pc,.slice fa es.length fc]) (M.map (·.1)) (cfE m0 M):=by
   refine ⟨pa,pc,fa,fc,?_,hP,es,?_,?_⟩
   ·rw [hel,List.length_map]
   ·have:=hF.mono l7;rw [List.length_map,← hel]; exact this
   ·rw [← Afa hn]; exact hE.mono (l6.trans l7)
  exact G.r (.agg #[.slice pa (M.map (·.1)).length pc,.slice fa es.length fc]) ⟨rfl,hlin⟩
theorem We {u:PH}{v:Value}{T:List (List UInt8×Nat)}{R:List Bn}{F:List Am}{lab:Int}{a:Option Addr}{c:Nat}{L:List E9}(ht:Ib u)(hX:D5 u v T R F lab)(ok:Bi u T R F lab)(hT8:T.length≤8)(hL:Ad u (.slice a L.length c) 2 (L.map Ga))(hW:WOK u T L)(hl:L.length≤6) :
  Fn0 Tryz.prog 62 [v,.slice a L.length c] u fun r u'=>Akk u' r (Bo F lab L) 1530:=by
 have hck:=fun (u':PH) (l:PH.le u u')=>R6 (hX.mono l) (ok.mono l);obtain ⟨xa,xc,xb,xd,xe,xf,rfl,hTL,hRL,hFL⟩:=id hX;have hp8:=Acw hT8;have hall:∀ n,∀ y∈L.take n,Ca T y.1∧y.2.1≤7:=fun n y hy=>by
  obtain ⟨_,q1,_,q2⟩:=hW y (List.mem_of_mem_take hy); exact ⟨q1,q2⟩
 have hcfs:∀ n,CFS (Bo F lab (L.take n)):=fun n=>(M6 ok hT8 (hall n) (by rw [List.length_take]; omega)).1;refine Fn0.o Tryz.func62 ?_;refine G.c Tryz.call115 (hck u (PH.le_refl _)) ?_;rintro v1 u1 l1 rfl;refine G.nF 0 0 ?_;refine G.gF (L.length:Int) 2000 ?_;refine G.c Tryz.call116 (Ll (n:=0) (by omega) (by omega)) ?_;intro v2 u2 l2 k2;rw [show (((0:Int):Rat))=0 by decide +kernel] at k2;obtain ⟨b,a2,n,c2,b',a',n',c',g1,g2,rfl⟩:=B7 k2;refine G.l (ι:=Nat×(Bool×SlI)×(Bool×SlI)×Nat×Nat) (fun i=>[(2,.p 0 0),(4,.p 1 0),(7,.p 6001 0),(23,.v (.slice a L.length c)),(24,.v (.int .i64 (L.length:Int))),(25,.v (.int .i64 (i.1:Int)))])
  (fun i=>[(0,⟨30,[.v (.slice xa T.length xc),.v (.slice xb R.length xd),.v (.slice xe F.length xf),.v (.int .i64 lab)]⟩),(1,⟨36,[.v (.string (mkS [])),.v (.slice none 0 0),.v (.slice none 0 0)]⟩),(6001,⟨93,[.v (.bool i.2.1.1),.v (.slice i.2.1.2.1 i.2.1.2.2.1 i.2.1.2.2.2),.v (.bool i.2.2.1.1),.v (.slice i.2.2.1.2.1 i.2.2.1.2.2.1 i.2.2.1.2.2.2),.v (.map (some i.2.2.2.1)),.v (.map (some i.2.2.2.2))]⟩)])
  (fun i u' m'=>i.1≤L.length∧Df u' (.agg #[.bool i.2.1.1,.slice i.2.1.2.1 i.2.1.2.2.1 i.2.1.2.2.2,.bool i.2.2.1.1,.slice i.2.2.1.2.1 i.2.2.1.2.2.1 i.2.2.1.2.2.2,.map (some i.2.2.2.1),.map (some i.2.2.2.2)]) (Bo F lab (L.take i.1)) (255*i.1)∧m'=PH.mt)
  (fun i=>L.length - i.1) (0,(b,a2,n,c2),(b',a',n',c'),g1,g2) ⟨by omega,k2,rfl⟩ ?_
 rintro J ⟨i,⟨b,a2,n,c2⟩,⟨b',a',n',c'⟩,g1,g2⟩ hJ u3 m3 l3 ⟨hi,hC,rfl⟩;simp only at hi hC hJ;have le3:=(l1.trans l2).trans l3;by_cases hlt:i < L.length
 ·refine G.lT (i:Int) (L.length:Int) ?_;obtain ⟨y,hLi⟩:∃ y,L[i]?=some y:=⟨_,List.getElem?_eq_getElem hlt⟩;obtain ⟨hS,hT,hw1,hw2⟩:=hW y (List.mem_of_getElem? hLi);obtain ⟨ba,oa,rfl,ea⟩:=Ad.at' (hL.mono le3) (j:=i) (e:=Ga y) (by simp [hLi]);obtain ⟨ss,w,ya,yc⟩:=y;simp only at hS hT hw1 hw2;have htk:L.take (i+1)=L.take i++[(ss,w,ya,yc)]:=by rw [List.take_add_one,hLi]; rfl
  have hP:Pq u (.agg #[.slice xa T.length xc,.slice xb R.length xd,.slice xe F.length xf,.int .i64 lab]) (.slice ya ss.length yc) T R F lab ss:=⟨hX,ok,hS,hT⟩;have hlen:=hT.len;obtain ⟨d1,d2⟩:=Rg ok hT;have sF:CFS (cfT F lab ss):=d1.cfs (by omega) (by omega);have sK:CFS ((cfT F lab ss).scale (w:Rat)):=(d1.scale (Aeg hw2)).cfs (by omega) (by omega);have hsum:Bo F lab (L.take (i+1))=(Bo F lab (L.take i)).add ((cfT F lab ss).scale (w:Rat)):=by rw [htk,Fk]
  refine G.a ba oa L.length c i 2 hlt ?_;refine G.lU (some 2) ba (oa+i*2) (.agg #[.slice ya ss.length yc,.int .i64 (w:Int)]) ea ?_;refine G.c Tryz.call66 (Ach (ht.mono le3) (hP.mono le3) (by omega)) ?_;rintro v4 u4 l4 ⟨r,rfl,k4⟩;obtain ⟨e1,f1,h1,e2,f2,h2,rfl⟩:=k4.opn;refine G.nF 0 0 ?_;refine G.lF (w:Int) (-1000000000000) ?_;refine G.gF (w:Int) 1000000000000 ?_;refine G.c Tryz.call68 (Fn0.weak (Ae.giveAll (of0 k4 sF (by omega))) fun v u' ⟨u1,m1,l1,l2,h⟩=>h.give l1 l2) ?_;intro v5 u5 l5 k5;obtain ⟨b5,a5,n5,c5,b5',a5',n5',c5',g51,g52,rfl⟩:=B7 k5;refine G.c Tryz.call64 (D8 (z:=(w:Int)) (by omega) (by omega)) ?_;intro v6 u6 l6 k6;rw [Rat.intCast_natCast] at k6;obtain ⟨b6,a6,n6,c6,b6',a6',n6',c6',rfl⟩:=k6.opn;have hwb:SB (w:Rat):=(Aeg hw2).small (by omega) (by omega);refine G.c Tryz.call118 (Fn0.weak (Ae.giveAll (Vu (k5.mono l6) k6 hwb sF sK)) fun v u' ⟨u1,m1,l1,l2,h⟩=>h.give l1 l2) ?_;intro v7 u7 l7 k7;obtain ⟨b7,a7,n7,c7,b7',a7',n7',c7',g71,g72,rfl⟩:=B7 k7;refine G.c Tryz.call117 (Fn0.weak (Ae.giveAll (Ans ((((hC.mono l4).mono l5).mono l6).mono l7) k7 (hcfs i) sK (by rw [← hsum]; exact hcfs (i+1)))) fun v u' ⟨u1,m1,l1,l2,h⟩=>h.give l1 l2) ?_;intro v8 u8 l8 k8;rw [← hsum] at k8;obtain ⟨b8,a8,n8,c8,b8',a8',n8',c8',g81,g82,rfl⟩:=B7 k8;refine G.i i ?_;exact G.b (hJ (i+1,(b8,a8,n8,c8),(b8',a8',n8',c8'),g81,g82) _ _ _ cv (((((l3.trans l4).trans l5).trans l6).trans l7).trans l8) ⟨by dsimp only; omega,k8.up (by dsimp only; omega),rfl⟩ (by dsimp only; omega))
 ·obtain rfl:i=L.length:=by omega
  refine G.lF (L.length:Int) (L.length:Int) ?_;have hc:=hcfs L.length;rw [List.take_length] at hC hc;refine G.c Tryz.call119 (Uh (ht.mono le3) hC hc (by omega)) ?_;rintro v7 u7 l7 ⟨r,rfl,k7⟩;obtain ⟨e1,f1,h1,e2,f2,h2,rfl⟩:=k7.opn;exact G.r (.tuple #[.agg #[.string (mkS (Ag (Bo F lab L).c)),.slice e1 f1 h1,.slice e2 f2 h2],.int .i64 0]) ⟨rfl,_,rfl,k7.up (by omega)⟩
end
section
open Go.RowKit Go.MapKept
theorem Aoe {u:PH}{T:List (List UInt8×Nat)}{R:List Bn}{F:List Am}{lab:Int}{ss:List (List UInt8)}(ok:Bi u T R F lab)(h8:T.length≤8)(hT:Ca T ss):CFD 16 (10 ^ 39) (cfT F lab ss):=by
 obtain ⟨d,_⟩:=Rg ok hT;refine d.to (by omega) ?_;have e:12 ^ (16 - 2*T.length)=144 ^ (8 - T.length):=by
  rw [show 16 - 2*T.length=2*(8 - T.length) by omega,Nat.pow_mul]
 have h1:144 ^ (8 - T.length)≤46656 ^ (8 - T.length):=Nat.pow_le_pow_left (by omega) _;have h2:46656 ^ T.length*46656 ^ (8 - T.length)=46656 ^ 8:=by rw [← Nat.pow_add]; congr 1; omega
 have h3:46656 ^ 8≤10 ^ 39:=by decide +kernel
 rw [e];exact Nat.le_trans (Nat.mul_le_mul_left _ h1) (h2 ▸ h3)
theorem Fh.small {P:List Par}{m0:Rat}{M:List (Par×Rat)}(hm:Fh P m0 M){C:CF}(h:CFD 16 (10 ^ 39) C):QOK (cfE m0 M) C:=⟨fun e=>(T9 hm e).mono (by omega),h⟩
theorem Agp {u u' u'':PH}{x y z:Value}{q r s:Rat}(hx:Ap u x q)(hy:Ap u' y r)(hz:Ap u'' z s):A9 4 [x,y,z]:=by
 intro e he;simp at he;rcases he with rfl | rfl | rfl
 ·exact hx.ok _ (by simp)
 ·exact hy.ok _ (by simp)
 ·exact hz.ok _ (by simp)
theorem V2 {u:PH}{v mv:Value}{T:List (List UInt8×Nat)}{R:List Bn}{F:List Am}{lab:Int}{a:Option Addr}{c:Nat}{L:List E9}{P:List Par}{m0:Rat}{M:List (Par×Rat)}(ht:Ib u)(hX:D5 u v T R F lab)(ok:Bi u T R F lab)(hT8:T.length≤8)(hlab:0≤lab)(hL:Ad u (.slice a L.length c) 2 (L.map Ga))(hW:WOK u T L)(hl:L.length≤6)
  (hmv:Kg u mv m0 M) (hm:Fh P m0 M) (hP:P.length≤24) (hpar:∀ p∈P,Yy F p) :
  Fn0 Tryz.prog 29 [v,.slice a L.length c,mv] u fun r _=>r=.tuple #[.string (mkS (Ag (Bo F lab L).c)),.string (mkS (Ag (Cr (cfE m0 M) (M.map (·.1)) (Bo F lab L)))),.string (mkS (Ag (sqC (cfE m0 M) (M.map (·.1)) (Bo F lab L)))),.int .i64 0]:=by
 have hMl:=hm.len;have hMQ:(M.map (·.1)).length≤60:=by rw [List.length_map]; omega
 have htb:=We ht hX ok hT8 hL hW hl;have hrv:=fun (u':PH) (l:PH.le u u')=>Ve (hX.mono l) (ok.mono l) (hmv.mono l) hm (by omega) hpar;have hqo:=fun (u':PH) (l:PH.le u u')=>An8 (hmv.mono l) hm.tx.1 hm.tx.2 (hm.srt.nodup Dd) (by omega);have hall:∀ n,∀ y∈L.take n,Ca T y.1∧y.2.1≤7:=fun n y hy=>by
  obtain ⟨_,q1,_,q2⟩:=hW y (List.mem_of_mem_take hy); exact ⟨q1,q2⟩
 have hd:∀ n,CFD 16 (10 ^ 39) (Bo F lab (L.take n)):=fun n=>Afm ok hT8 (hall n) (by rw [List.length_take]; omega);have hq:∀ n,QOK (cfE m0 M) (Bo F lab (L.take n)):=fun n=>hm.small (hd n);obtain ⟨xa,xc,xb,xd,xe,xf,rfl,hTL,hRL,hFL⟩:=id hX;obtain ⟨na,nc,rfl,hMl2⟩:=id hmv.val;have z0:((0:Int):Rat)=0:=by decide +kernel
 obtain ⟨Q,hQ⟩:∃ Q,Q=M.map (·.1):=⟨_,rfl⟩;rw [← hQ] at hMQ hqo ⊢;have hcsz:∀ n,Sz (Bo F lab (L.take n)).c 1000000000000:=fun n=>(hd n).c.szb (by omega) (by decide +kernel);have hbsz:∀ n,Sz (Cr (cfE m0 M) Q (Bo F lab (L.take n))) 1000000000000:=fun n=>((hq n).biasD hMQ).szb (by omega) (by decide +kernel);have hssz:∀ n,Sz (sqC (cfE m0 M) Q (Bo F lab (L.take n))) 1000000000000:=fun n=>((hq n).sqD hMQ).szb (by omega) (by decide +kernel);refine Fn0.o Tryz.func29 ?_;refine G.c Tryz.call62 htb ?_;rintro v1 u1 l1 ⟨r1,rfl,k1⟩;obtain ⟨e1,f1,h1,e2,f2,h2,rfl⟩:=k1.opn;refine G.nF 0 0 ?_;refine G.lF lab 0 ?_;refine G.c Tryz.call63 (hrv u1 l1) ?_;rintro v2 u2 l2 rfl;refine G.c Tryz.call64 (D8 (z:=0) (by omega) (by omega)) ?_;intro v3 u3 l3 k3;rw [z0] at k3;obtain ⟨nb,na1,nn,nc1,nb',na',nn',nc',rfl⟩:=k3.opn;refine G.c Tryz.call64 (D8 (z:=0) (by omega) (by omega)) ?_;intro v4 u4 l4 k4;rw [z0] at k4;obtain ⟨bb,bA,bn,bc,bb',ba',bn',bc',rfl⟩:=k4.opn;refine G.c Tryz.call64 (D8 (z:=0) (by omega) (by omega)) ?_;intro v5 u5 l5 k5;rw [z0] at k5;obtain ⟨qb,qa,qn,qc,qb',qa',qn',qc',rfl⟩:=k5.opn;have le5:=(((l1.trans l2).trans l3).trans l4).trans l5;have hb0:Cr (cfE m0 M) Q (Bo F lab [])=0:=Aei.bias _ _;have hs0:sqC (cfE m0 M) Q (Bo F lab [])=0:=Aei.sq _ _;refine G.l (ι:=Nat×((Bool×SlI)×(Bool×SlI))×((Bool×SlI)×(Bool×SlI))×((Bool×SlI)×(Bool×SlI))) (fun i=>[(3,.p 0 0),(5,.p 1 0),(12,.p 8003 0),(13,.p 8004 0),(14,.p 8005 0),(44,.v (.slice a L.length c)),(45,.v (.int .i64 (L.length:Int))),(46,.v (.int .i64 (i.1:Int)))])
  (fun i=>[(0,⟨30,[.v (.slice xa T.length xc),.v (.slice xb R.length xd),.v (.slice xe F.length xf),.v (.int .i64 lab)]⟩),(1,⟨52,[.v (.string (mkS (Ag m0))),.v (.slice na M.length nc)]⟩),
   (8003,⟨89,[.v (.bool i.2.1.1.1),.v (.slice i.2.1.1.2.1 i.2.1.1.2.2.1 i.2.1.1.2.2.2),.v (.bool i.2.1.2.1),.v (.slice i.2.1.2.2.1 i.2.1.2.2.2.1 i.2.1.2.2.2.2)]⟩),
   (8004,⟨89,[.v (.bool i.2.2.1.1.1),.v (.slice i.2.2.1.1.2.1 i.2.2.1.1.2.2.1 i.2.2.1.1.2.2.2),.v (.bool i.2.2.1.2.1),.v (.slice i.2.2.1.2.2.1 i.2.2.1.2.2.2.1 i.2.2.1.2.2.2.2)]⟩),
   (8005,⟨89,[.v (.bool i.2.2.2.1.1),.v (.slice i.2.2.2.1.2.1 i.2.2.2.1.2.2.1 i.2.2.2.1.2.2.2),.v (.bool i.2.2.2.2.1),.v (.slice i.2.2.2.2.2.1 i.2.2.2.2.2.2.1 i.2.2.2.2.2.2.2)]⟩)])
  (fun i u' m'=>i.1≤L.length∧Ap u' (.agg #[.bool i.2.1.1.1,.slice i.2.1.1.2.1 i.2.1.1.2.2.1 i.2.1.1.2.2.2,.bool i.2.1.2.1,.slice i.2.1.2.2.1 i.2.1.2.2.2.1 i.2.1.2.2.2.2]) (Bo F lab (L.take i.1)).c∧Ap u' (.agg #[.bool i.2.2.1.1.1,.slice i.2.2.1.1.2.1 i.2.2.1.1.2.2.1 i.2.2.1.1.2.2.2,.bool i.2.2.1.2.1,.slice i.2.2.1.2.2.1 i.2.2.1.2.2.2.1 i.2.2.1.2.2.2.2]) (Cr (cfE m0 M) Q (Bo F lab (L.take i.1)))∧Ap u' (.agg #[.bool i.2.2.2.1.1,.slice i.2.2.2.1.2.1 i.2.2.2.1.2.2.1 i.2.2.2.1.2.2.2,.bool i.2.2.2.2.1,.slice i.2.2.2.2.2.1 i.2.2.2.2.2.2.1 i.2.2.2.2.2.2.2]) (sqC (cfE m0 M) Q (Bo F lab (L.take i.1)))∧m'=PH.mt)
  (fun i=>L.length - i.1) (0,((nb,na1,nn,nc1),(nb',na',nn',nc')),((bb,bA,bn,bc),(bb',ba',bn',bc')),((qb,qa,qn,qc),(qb',qa',qn',qc'))) ⟨by omega,(k3.mono l4).mono l5,by rw [List.take_zero,hb0]; exact k4.mono l5,by rw [List.take_zero,hs0]; exact k5,rfl⟩ ?_
 clear k3 k4 k5 hb0 hs0;rintro J ⟨i,⟨⟨nb,na1,nn,nc1⟩,⟨nb',na',nn',nc'⟩⟩,⟨⟨bb,bA,bn,bc⟩,⟨bb',ba',bn',bc'⟩⟩,⟨⟨qb,qa,qn,qc⟩,⟨qb',qa',qn',qc'⟩⟩⟩ hJ u6 m6 l6 ⟨hi,k3,k4,k5,rfl⟩;simp only at hi k3 k4 k5 hJ;have le6:=le5.trans l6;by_cases hlt:i < L.length
 ·refine G.lT (i:Int) (L.length:Int) ?_;obtain ⟨y,hLi⟩:∃ y,L[i]?=some y:=⟨_,List.getElem?_eq_getElem hlt⟩;obtain ⟨hS,hT,hw1,hw2⟩:=hW y (List.mem_of_getElem? hLi);have htk:=D1 hLi;have hsum:Bo F lab (L.take (i+1))=(Bo F lab (L.take i)).add ((cfT F lab y.1).scale (y.2.1:Rat)):=by rw [htk,Fk]
  have hbs:Cr (cfE m0 M) Q (Bo F lab (L.take (i+1)))=Cr (cfE m0 M) Q (Bo F lab (L.take i))+Cr (cfE m0 M) Q (cfT F lab y.1)*(y.2.1:Rat):=by rw [hsum,On]
  have hss:sqC (cfE m0 M) Q (Bo F lab (L.take (i+1)))=sqC (cfE m0 M) Q (Bo F lab (L.take i))+sqC (cfE m0 M) Q (cfT F lab y.1)*(y.2.1:Rat):=by rw [hsum,V5]
  have hcs:(Bo F lab (L.take (i+1))).c=(Bo F lab (L.take i)).c+(cfT F lab y.1).c*(y.2.1:Rat):=by rw [hsum]; rfl
  obtain ⟨ba,oa,rfl,ea⟩:=Ad.at' (hL.mono le6) (j:=i) (e:=Ga y) (by simp [hLi]);obtain ⟨ss,w,ya,yc⟩:=y;simp only at hS hT hw1 hw2 hbs hss hcs;have hP:Pq u (.agg #[.slice xa T.length xc,.slice xb R.length xd,.slice xe F.length xf,.int .i64 lab]) (.slice ya ss.length yc) T R F lab ss:=⟨hX,ok,hS,hT⟩;have hlen:=hT.len;have hll:∀ l:Nat,lab=(l:Int)→l < ss.length:=fun l hl=>by have:=Aa0 ok l hl; omega
  refine G.a ba oa L.length c i 2 hlt ?_;refine G.lU (some 2) ba (oa+i*2) (.agg #[.slice ya ss.length yc,.int .i64 (w:Int)]) ea ?_;refine G.c Tryz.call65 (Zr (hP.mono le6)) ?_;rintro v7 u7 l7 rfl;rcases Ox ok.feat hT ok.l1 hll with ⟨hc,ho⟩ | ⟨hc,ho⟩
  case' inr =>
   rw [hc];rw [ho.bias] at hbs;rw [ho.sq] at hss;rw [ho.c] at hcs;have e0:∀ x:Rat,x+0*(w:Rat)=x:=fun x=>by grind
   rw [e0] at hbs hss hcs;rw [← hbs] at k4;rw [← hss] at k5;rw [← hcs] at k3;refine G.i i ?_;exact G.b (hJ (i+1,((nb,na1,nn,nc1),(nb',na',nn',nc')),((bb,bA,bn,bc),(bb',ba',bn',bc')),((qb,qa,qn,qc),(qb',qa',qn',qc'))) _ _ _ cv (l6.trans l7) ⟨by dsimp only; omega,k3.mono l7,k4.mono l7,k5.mono l7,rfl⟩ (by dsimp only; omega))
  rw [hc];have le7:=le6.trans l7;have hp8:=Acw hT8;obtain ⟨d1,d2⟩:=Rg ok hT;have sF:CFS (cfT F lab ss):=d1.cfs (by omega) (by omega);have hqT:QOK (cfE m0 M) (cfT F lab ss):=hm.small (Aoe ok hT8 hT);have hwd:Dn 0 7 (w:Rat):=Aeg hw2;have hwsz:Sz (w:Rat) 1000000000000:=hwd.szb (by omega) (by omega);have hbT:=hqT.biasD hMQ;have hsT:=hqT.sqD hMQ;have hwb:(w:Rat)*Cr (cfE m0 M) Q (cfT F lab ss)=Cr (cfE m0 M) Q (cfT F lab ss)*(w:Rat):=by grind
  have hws:(w:Rat)*sqC (cfE m0 M) Q (cfT F lab ss)=sqC (cfE m0 M) Q (cfT F lab ss)*(w:Rat):=by grind
  rw [ho.c,show (1:Rat)*(w:Rat)=(w:Rat) by grind] at hcs;refine G.c Tryz.call66 (Ach (ht.mono le7) (hP.mono le7) (by omega)) ?_;rintro v8 u8 l8 ⟨r8,rfl,k8⟩;obtain ⟨e1,f1,h1,e2,f2,h2,rfl⟩:=k8.opn;refine G.c Tryz.call67 (hqo u8 (le7.trans l8)) ?_;intro v9 u9 l9 k9;obtain ⟨pa,pc,fa,fc,rfl,_⟩:=id k9.val;refine G.c Tryz.call64 (D8 (z:=(w:Int)) (by omega) (by omega)) ?_;intro v10 u10 l10 k10;rw [Rat.intCast_natCast] at k10;obtain ⟨wb,wa,wn,wc,wb',wa',wn',wc',rfl⟩:=k10.opn;refine G.c Tryz.call68 (Fn0.weak (Ae.giveAll (of0 (k8.mono (l9.trans l10)) sF (by omega))) fun v u' ⟨u1,m1,l1,l2,h⟩=>h.give l1 l2) ?_;intro v11 u11 l11 k11;obtain ⟨vb,va,vn,vc,vb',va',vn',vc',g1,g2,rfl⟩:=B7 k11;have l7_11:=((l8.trans l9).trans l10).trans l11;have l6_11:=l7.trans l7_11;refine G.c Tryz.call69 (Ef (k3.mono l6_11) (k10.mono l11) (hcsz i) hwsz) ?_;intro v12 u12 l12 k12;rw [← hcs] at k12;obtain ⟨b12,a12,n12,c12,b12',a12',n12',c12',rfl⟩:=k12.opn;refine G.c Tryz.call71 (Alh (k9.mono ((l10.trans l11).trans l12)) (k11.mono l12) hMQ hqT) ?_;intro v13 u13 l13 k13;obtain ⟨b13,a13,n13,c13,b13',a13',n13',c13',rfl⟩:=k13.opn;have l11_13:=l12.trans l13;refine G.c Tryz.call70 (Dm (k10.mono (l11.trans l11_13)) k13 hwsz (hbT.szb (by omega) (by decide +kernel))) ?_;intro v14 u14 l14 k14;rw [hwb] at k14;obtain ⟨b14,a14,n14,c14,b14',a14',n14',c14',rfl⟩:=k14.opn;have l11_14:=l11_13.trans l14;refine G.c Tryz.call69 (Ef (k4.mono (l6_11.trans l11_14)) k14 (hbsz i) ((hbT.mul hwd).szb (by omega) (by decide +kernel))) ?_;intro v15 u15 l15 k15;rw [← hbs] at k15;obtain ⟨b15,a15,n15,c15,b15',a15',n15',c15',rfl⟩:=k15.opn;have l11_15:=l11_14.trans l15;refine G.c Tryz.call72 (sq0 (k9.mono ((l10.trans l11).trans l11_15)) (k11.mono l11_15) hMQ hqT) ?_;intro v16 u16 l16 k16;obtain ⟨b16,a16,n16,c16,b16',a16',n16',c16',rfl⟩:=k16.opn;have l11_16:=l11_15.trans l16;refine G.c Tryz.call70 (Dm (k10.mono (l11.trans l11_16)) k16 hwsz (hsT.szb (by omega) (by decide +kernel))) ?_;intro v17 u17 l17 k17;rw [hws] at k17;obtain ⟨b17,a17,n17,c17,b17',a17',n17',c17',rfl⟩:=k17.opn;have l11_17:=l11_16.trans l17;refine G.c Tryz.call69 (Ef (k5.mono (l6_11.trans l11_17)) k17 (hssz i) ((hsT.mul hwd).szb (by omega) (by decide +kernel))) ?_;intro v18 u18 l18 k18;rw [← hss] at k18;obtain ⟨b18,a18,n18,c18,b18',a18',n18',c18',rfl⟩:=k18.opn;have l15_18:=(l16.trans l17).trans l18;refine G.i i ?_;exact G.b (hJ (i+1,((b12,a12,n12,c12),(b12',a12',n12',c12')),((b15,a15,n15,c15),(b15',a15',n15',c15')),((b18,a18,n18,c18),(b18',a18',n18',c18'))) _ _ _ cv ((l6.trans l6_11).trans (l11_15.trans l15_18)) ⟨by dsimp only; omega,k12.mono (((l13.trans l14).trans l15).trans l15_18),k15.mono l15_18,k18,rfl⟩ (by dsimp only; omega))
 ·obtain rfl:i=L.length:=by omega
  refine G.lF (L.length:Int) (L.length:Int) ?_;have hcz:=(hd L.length).c;have hbz:=(hq L.length).biasD hMQ;have hsz:=(hq L.length).sqD hMQ;rw [List.take_length] at k3 k4 k5 hcz hbz hsz;generalize Bo F lab L=C at k3 k4 k5 hcz hbz hsz ⊢;refine G.B 89 4 64 (.agg #[.bool false,.slice none 0 0,.bool false,.slice none 0 0]) [.agg #[.bool nb,.slice na1 nn nc1,.bool nb',.slice na' nn' nc'],.agg #[.bool bb,.slice bA bn bc,.bool bb',.slice ba' bn' bc'],.agg #[.bool qb,.slice qa qn qc,.bool qb',.slice qa' qn' qc']] (Agp k3 k4 k5) ?_;intro g7 u7 l7 e7;have hfs:Jv u7 (.slice (some ⟨g7,0,none⟩) 3 3) [C.c,Cr (cfE m0 M) Q C,sqC (cfE m0 M) Q C]:=⟨_,e7.listP,rfl,fun j q hj=>by
   match j,hj with
   | 0,hj=>simp at hj; subst hj; exact ⟨_,rfl,k3.mono l7⟩
   | 1,hj=>simp at hj; subst hj; exact ⟨_,rfl,k4.mono l7⟩
   | 2,hj=>simp at hj; subst hj; exact ⟨_,rfl,k5.mono l7⟩
   | j+3,hj=>simp at hj⟩
  refine G.c Tryz.call73 (Aa5 (ht.mono (le6.trans l7)) hfs (fun q hq'=>by
   simp only [List.mem_cons,List.not_mem_nil,or_false] at hq';rcases hq' with rfl | rfl | rfl
   ·exact (hcz.de (a:=40) (b:=18) (by decide +kernel) (by decide +kernel)).tx (by omega) (by omega) (by omega) (by omega)
   ·exact (hbz.de (a:=47) (b:=20) (by decide +kernel) (by decide +kernel)).tx (by omega) (by omega) (by omega) (by omega)
   ·exact (hsz.de (a:=49) (b:=20) (by decide +kernel) (by decide +kernel)).tx (by omega) (by omega) (by omega) (by omega)) (by simp)) ?_
  rintro v8 u8 l8 ⟨r,rfl,k8⟩;obtain ⟨ra,rc,rfl⟩:=Ad.opn k8;obtain ⟨rb,ro,rfl,er0⟩:=Ad.at' k8 (j:=0) (e:=.string (mkS (Ag C.c))) rfl;obtain ⟨rb1,ro1,eq1,er1⟩:=Ad.at' k8 (j:=1) (e:=.string (mkS (Ag (Cr (cfE m0 M) Q C)))) rfl;obtain ⟨rb2,ro2,eq2,er2⟩:=Ad.at' k8 (j:=2) (e:=.string (mkS (Ag (sqC (cfE m0 M) Q C)))) rfl;cases eq1;cases eq2;refine G.nF 0 0 ?_;refine G.a rb ro 3 rc 0 1 (by omega) ?_;refine G.lU none rb (ro+0*1) (.string (mkS (Ag C.c))) er0 ?_;refine G.a rb ro 3 rc 1 1 (by omega) ?_;refine G.lU none rb (ro+1*1) (.string (mkS (Ag (Cr (cfE m0 M) Q C)))) er1 ?_;refine G.a rb ro 3 rc 2 1 (by omega) ?_;refine G.lU none rb (ro+2*1) (.string (mkS (Ag (sqC (cfE m0 M) Q C)))) er2 ?_;exact G.r (.tuple #[.string (mkS (Ag C.c)),.string (mkS (Ag (Cr (cfE m0 M) Q C))),.string (mkS (Ag (sqC (cfE m0 M) Q C))),.int .i64 0]) ⟨rfl,rfl⟩
end
section
open Go.RowKit Go.MapKept
structure Zs (L:List Par)(m0:Rat)(M:List (Par×Rat)):Prop where
 c:SmR m0
 t:∀ x∈M,SmR x.2
 sub:(M.map (·.1)).Sublist L
theorem Zs.ok {P:List Par}{m0:Rat}{M:List (Par×Rat)}(h:Zs P m0 M)(hP:Dx A4 P):Fh P m0 M where
 c:=h.c
 t:=h.t
 srt:=List.Pairwise.sublist h.sub hP
 sub:=fun x hx=>h.sub.subset (List.mem_map.2 ⟨x,hx,rfl⟩)
 len:=by have:=h.sub.length_le; rwa [List.length_map] at this
theorem Adt {u:PH}{s:Src}{ts:List Int}{k:Nat}{v:Value}{L:List Par}(h:Hv u s ts)(hk:k≤s.n)(hL:Ad u v 2 (L.map Ak))(hl:L.length≤1000) :
  Ae Tryz.prog 18 [s.ptr,v] u (s.M k) fun r u' m'=>∃ (m0:Rat) (M:List (Par×Rat)) (k':Nat),Kg u' r m0 M∧Zs L m0 M∧k'≤s.n∧m'=s.M k':=by
 obtain ⟨la,lc,rfl⟩:=hL.opn;rw [List.length_map] at hL ⊢;refine Ae.o Tryz.func18 ?_;refine G.A Tryz.call45 (Acr h hk) ?_;rintro v1 u1 m1 l1 ⟨m0,k1,rfl,hm0,hk1,rfl⟩ _;rw [Ci];refine G.l (ι:=Nat×Nat×List (Par×Rat)×(Option Addr×Nat)) (fun i=>[(0,.v s.ptr),(4,.p 0 0),(5,.p 1003 0),(11,.v (.slice la L.length lc)),(12,.v (.int .i64 (L.length:Int))),(13,.v (.int .i64 (i.1:Int)))])
  (fun i=>[(0,⟨52,[.v (.string (mkS [])),.v (.slice none 0 0)]⟩),(1003,⟨52,[.v (.string (mkS (Ag m0))),.v (.slice i.2.2.2.1 i.2.2.1.length i.2.2.2.2)]⟩)])
  (fun i u' m'=>i.1≤L.length∧i.2.1≤s.n∧(i.2.2.1.map (·.1)).Sublist (L.take i.1)∧(∀ x∈i.2.2.1,SmR x.2)∧Bag m' [s.arr i.2.1,Amj i.2.2.2.1 i.2.2.2.2 i.2.2.1])
  (fun i=>L.length - i.1) (0,k1,[],(none,0))
  ⟨Nat.zero_le _,hk1,List.Sublist.refl _,fun q hq=>by simp at hq,s.bag0 k1 ⟨PH.mt,Af.nil _ _ _,trivial⟩⟩ ?_
 rintro J ⟨i,k2,M,⟨ma,mc⟩⟩ hJ u2 m2 l2 ⟨hi,hk2,hsub,hsm,hbag⟩;simp only at hi hk2 hsub hsm hbag hJ;have le2:=l1.trans l2;have hMl:M.length≤1000:=by
  have:=hsub.length_le;rw [List.length_map,List.length_take] at this; omega
 obtain ⟨mx,hsrc,hM⟩:=hbag;obtain ⟨rfl,hg0⟩:=Src.split hsrc;by_cases hlt:i < L.length
 ·refine G.lT (i:Int) (L.length:Int) ?_;obtain ⟨p,hLi⟩:∃ p,L[i]?=some p:=⟨_,List.getElem?_eq_getElem hlt⟩;have htk:=D1 hLi;obtain ⟨ba,oa,rfl,ea⟩:=Ad.at' (hL.mono le2) (j:=i) (e:=Ak p) (by simp [hLi]);refine G.a ba oa L.length lc i 2 hlt ?_;refine G.lU (some 2) ba (oa+i*2) (.agg #[.int .i64 p.1,.string (mkS p.2)]) ea ?_;refine G.D Tryz.call46 (Src.apart hg0) (Im (n:=5) (h.mono le2) hk2 (by omega) (by omega)) ?_;rintro v3 u3 m3 l3 ⟨r,k3,rfl,hr,hk3,rfl⟩ _;by_cases hr0:0 < r
  ·refine G.gT (r:Int) 0 ?_;refine G.D Tryz.call45 (Src.apart hg0) (Acr ((h.mono le2).mono l3) hk3) ?_;rintro v4 u4 m4 l4 ⟨q,k4,rfl,hq,hk4,rfl⟩ _;refine G.B 107 3 40 (.agg #[.int .i64 0,.string (mkS []),.string (mkS [])]) [.agg #[.int .i64 p.1,.string (mkS p.2),.string (mkS (Ag q))]] (Ji (p,q)) ?_;intro g5 u5 l5 e5;have hbag2:Bag (mx.or (s.M k4)) [s.arr k4,Amj ma mc M]:=⟨mx,Src.at hg0,hM⟩;obtain ⟨mm,hx0,hput⟩:=hbag2.focus 1 rfl;refine G.k 107 3 40 (.agg #[.int .i64 0,.string (mkS []),.string (mkS [])]) mm (M.map A3) [A3 (p,q)] _ g5 0 1 1 hx0 e5 (Ji (p,q)) ?_;intro v6 m6 hA6;rw [show M.map A3++[A3 (p,q)]=(M++[(p,q)]).map A3 by rw [List.map_append]; rfl] at hA6;obtain ⟨a6,c6,rfl⟩:=hA6.shape;rw [List.length_map] at hA6 ⊢;have hbag3:=hput (Amj a6 c6 (M++[(p,q)])) m6 hA6;refine G.i i ?_;refine G.b (hJ (i+1,k4,M++[(p,q)],(a6,c6)) _ _ _ cv (((l2.trans l3).trans l4).trans l5) ⟨by dsimp only; omega,hk4,?_,?_,hbag3⟩ (by dsimp only; omega))
   ·show ((M++[(p,q)]).map (·.1)).Sublist _;rw [htk,List.map_append];exact hsub.append (List.Sublist.refl _)
   ·intro x hx;rcases List.mem_append.1 hx with hx | hx
    ·exact hsm x hx
    ·simp only [List.mem_singleton] at hx; subst hx; exact hq
  ·refine G.gF (r:Int) 0 ?_;refine G.i i ?_;refine G.b (hJ (i+1,k3,M,(ma,mc)) _ _ _ cv (l2.trans l3) ⟨by dsimp only; omega,hk3,?_,hsm,⟨mx,Src.at hg0,hM⟩⟩ (by dsimp only; omega));show (M.map (·.1)).Sublist _;rw [htk];exact hsub.trans (List.sublist_append_left _ _)
 ·obtain rfl:i=L.length:=by omega
  refine G.lF (L.length:Int) (L.length:Int) ?_;rw [List.take_length] at hsub;refine G.giveP (ma:=mx) (sm:=s.M k2) (by kernel_rfl) rfl (Src.apart hg0) (s.h0 k k2) ?_;intro u3 l3 hm;exact G.r (.agg #[.string (mkS (Ag m0)),.slice ma M.length mc]) ⟨m0,M,k2,⟨ma,mc,rfl,hM.list hm 0 rfl⟩,⟨hm0,hsm,hsub⟩,hk2,rfl⟩
end
section
open Go.RowKit Go.MapKept
theorem Aew {u:PH}{v:Value}{ts:List Int}(ht:Ib u)(hv:Ad u v 1 (Dg ts))(hlo:∀ t∈ts,-9223372036854775808≤t)(hhi:∀ t∈ts,t≤9223372036854775807) :
  Fn0 Tryz.prog 5 [v] u fun v' _=>v'=.bool true:=by
 obtain ⟨a,c,rfl⟩:=hv.opn;rw [By] at hv ⊢;refine Fn0.o Tryz.func5 ?_;by_cases h400:400 < ts.length
 ·refine G.gT (ts.length:Int) 400 ?_;refine G.c Tryz.call6 (Zw ht) ?_;rintro v1 u1 l1 rfl;exact G.r (.bool true) ⟨rfl,rfl⟩
 refine G.gF (ts.length:Int) 400 ?_;refine G.callO _ _ (by kernel_rfl) Tryz.call7 (Aiy hv (by omega) hlo hhi) ?_;rintro v1 u1 m1 l1 ⟨s,rfl,rfl,hs⟩ _;rw [Ci];refine G.A Tryz.call8 (Al4 hs (Nat.zero_le _)) ?_;rintro v2 u2 m2 l2 ⟨T,R,F,lab,L,xv,lv,cv,pv,ev,k2,rfl,w,hk2,rfl⟩ _;rw [Ci];obtain ⟨P,k,hP,hP20,hMe⟩:=w.meas;have ht2:=ht.mono (l1.trans l2);have hPs:=hMe.prm.1;have hpar:=hMe.par;have hown:∀ {m0:Rat} {M:List (Par×Rat)},Fh P m0 M→_:=fun {m0 M} hm=>Ajs w.ok.feat w.ok.l1 (Aa0 w.ok) (Aht (hPs.nodup Dd) hm) (L:=L) fun y hy=>(w.wok.tup y hy).1;obtain ⟨la,lc,rfl⟩:=w.rows.opn;rw [List.length_map];have htb:∀ (u':PH) (l:PH.le u2 u') {mv:Value} {m0:Rat} {M:List (Par×Rat)} (hmv:Kg u' mv m0 M) (hm:Fh P m0 M),_:=fun u' l {mv m0 M} hmv hm=>V2 (ht2.mono l) (w.sch.mono l) (w.ok.mono l) w.t8 w.lab0 (by have:=w.rows.mono l; rwa [List.length_map] at this) (w.wok.mono l) w.l6 hmv hm (by omega) hpar;obtain ⟨xa,xc,xb,xd,xe,xf,rfl,_⟩:=id w.sch;have hC:=w.cof;clear w;generalize Bo F lab L=C at hMe hown htb hC;obtain ⟨a1,n1,c1,a2,n2,c2,rfl⟩:=id hC.opn;obtain ⟨pa,pc,rfl⟩:=hP.opn;rw [List.length_map] at hP ⊢;refine G.A Tryz.call18 (Adt (hs.mono l2) hk2 hP (by omega)) ?_;rintro v3 u3 m3 l3 ⟨m0,M,k3,hmv,hmf,hk3,rfl⟩ _;rw [Ci];have hm:=hmf.ok hPs;obtain ⟨o1,o2⟩:=hown hm;have ht3:=htb u3 l3 hmv hm;rw [o1,o2] at ht3;obtain ⟨na,nc,rfl,_⟩:=id hmv.val;refine G.drop PH.mt (by kernel_rfl) (PH.mt_le _) ?_;refine G.c Tryz.call29 ht3 ?_;rintro v4 u4 l4 rfl;refine G.nF 0 0 ?_;refine G.y (Ag C.c) (Ag C.c) rfl ?_;have le4:=l3.trans l4;have hMe4:=hMe.mono le4;have hmv4:=hmv.mono l4;have hS:=hMe.mom;by_cases h0:k=0
 ·have hc0:C.c=0:=by rw [hS.c,h0]; rfl
  refine G.c Tryz.call30 (Ael hMe4 h0 hmv4) ?_;rintro v5 u5 l5 rfl;refine G.c Tryz.call31 (Aav (hMe4.mono l5) h0 (hmv4.mono l5)) ?_;rintro v6 u6 l6 rfl;refine G.q (Ag C.c) [48] (by rw [hc0,Fd]) ?_;refine G.eT' 12 12 rfl ?_;refine G.eT' 12 12 rfl ?_;refine G.c Tryz.call6 (Zw (ht2.mono ((le4.trans l5).trans l6))) ?_;rintro v7 u7 l7 rfl;exact G.r (.bool true) ⟨rfl,rfl⟩
 have hcn:=hS.cne h0;have hP24:=hMe.p24;have hbT:Tx (Cr (cfE m0 M) P C):=(((hMe.qok hm).biasD (by omega)).de (a:=47) (b:=20) (by decide +kernel) (by decide +kernel)).tx (by omega) (by omega) (by omega) (by omega);have hsT:Tx (sqC (cfE m0 M) P C):=(((hMe.qok hm).sqD (by omega)).de (a:=49) (b:=20) (by decide +kernel) (by decide +kernel)).tx (by omega) (by omega) (by omega) (by omega);have hbE:=(hMe.biasE h0 hm).tx (by omega) (by omega) (by omega) (by omega);have hsE:=(hMe.sqE h0 hm).tx (by omega) (by omega) (by omega) (by omega);refine G.c Tryz.call30 (Ys (ht2.mono le4) hMe4 h0 hmv4 hm) ?_;rintro v5 u5 l5 rfl;refine G.c Tryz.call31 (Uf (ht2.mono (le4.trans l5)) (hMe4.mono l5) h0 (hmv4.mono l5) hm) ?_;rintro v6 u6 l6 rfl;refine G.w (Ag C.c) [48] (I6 hcn) ?_;refine G.c Tryz.call13 (Ab6 hbT hS.tx hcn hbE) ?_;rintro v7 u7 l7 rfl;refine G.c Tryz.call13 (Ab6 hsT hS.tx hcn hsE) ?_;rintro v8 u8 l8 rfl;refine G.eT' 0 0 rfl ?_;refine G.eT' 0 0 rfl ?_;refine G.eT' 0 0 rfl ?_;refine G.eT' 0 0 rfl ?_;refine G.q (Ag (Cr (cfE m0 M) P C / C.c)) (Ag (Cr (cfE m0 M) P C / C.c)) rfl ?_;refine G.q (Ag (sqC (cfE m0 M) P C / C.c)) (Ag (sqC (cfE m0 M) P C / C.c)) rfl ?_;refine G.c Tryz.call6 (Zw (ht2.mono ((((le4.trans l5).trans l6).trans l7).trans l8))) ?_;rintro v9 u9 l9 rfl;exact G.r (.bool true) ⟨rfl,rfl⟩
end
end Go.Proofs.YtnlfnomchebmcaaGreatDoor
