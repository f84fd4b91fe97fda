/- Parts of one proof, joined by a program. -/
import Derived.Test.YtanfagpabkdmiaaGreatDoorL11
set_option linter.unusedVariables false
set_option linter.unusedSimpArgs false
set_option linter.unusedSectionVars false
set_option maxHeartbeats 16000000
namespace Go.Proofs.YtanfagpabkdmiaaGreatDoor
open Go.Proofs.Tryz
section
open Go.RowKit Go.MapKept
variable {A:List (List Rat)}{b l:List Rat}{i j:Nat}{q:Rat}
theorem Apn {m0 m:PH}{v:Value}{t:TypeId}{sz:Nat}{es:List Value}(h:Ae m0 m v t sz es):PH.le m0 m:=by
 rcases h.2 with ⟨_,_,rfl⟩ | ⟨g,cap,rest,hg0,rfl,_⟩
 ·exact PH.le_refl _
 ·exact Jw _ hg0
theorem Sy {n w:Nat}:∀ f c P X d,Rec n w X→Rec n w (By f c P X d).2.1
 | 0,_,_,_,_,h=>h
 | f+1,c,P,X,d,h=>by
  rw [By];by_cases hP:P.length < X.length
  ·rw [if_pos hP];by_cases hp:Ee X c (X.length - P.length) P.length=X.length
   ·rw [if_pos hp]; exact Sy f _ _ _ _ h
   ·rw [if_neg hp];have hle:=S0 X c (X.length - P.length) P.length;have hn:=h.1;exact Sy f _ _ _ _ (Yh h (by omega) (by omega))
  ·rw [if_neg hP]; exact h
def Nh (A:List (List Rat))(b:List Rat):List (List Rat):=(List.range A.length).map fun i=>gM A i++[gR b i]
theorem V8 (h:i < A.length):gM (Nh A b) i=gM A i++[gR b i]:=by
 unfold Nh;rw [Anc (r:=gM A i++[gR b i])];rw [List.getElem?_map,List.getElem?_range h]; rfl
theorem Add (hs:Sq A):Rec A.length (A.length+1) (Nh A b) :=
 ⟨by simp [Nh],fun i hi=>by rw [V8 hi,List.length_append,N6 hi,hs.len hi]; rfl⟩
theorem Aof (h:j < l.length):gR (l++[q]) j=gR l j:=by
 unfold gR; rw [List.getD_eq_getElem?_getD,List.getD_eq_getElem?_getD,List.getElem?_append_left h]
theorem Al1 (h:j=l.length):gR (l++[q]) j=q:=by
 subst h;unfold gR; rw [List.getD_eq_getElem?_getD,List.getElem?_append_right (Nat.le_refl _)]; simp
theorem Ahx (hs:Sq A)(hi:i < A.length)(hj:j < A.length):en (Nh A b) i j=en A i j:=by
 unfold en; rw [V8 hi,Aof (by rw [N6 hi,hs.len hi]; exact hj)]
theorem Anf (hs:Sq A)(hi:i < A.length):en (Nh A b) i A.length=gR b i:=by
 unfold en; rw [V8 hi,Al1 (by rw [N6 hi,hs.len hi])]
theorem Tq.sz (h:Tq q):Sz q 1:=by
 have h1:=h.num;have h2:=(leW h.den).2;exact ⟨A4 (by simpa using (by omega:q.num.natAbs < 1000000000)),A4 (by simpa using (by omega:q.den < 1000000000))⟩
theorem Aoz (hs:Sq A)(hbl:b.length=A.length)(hT:∀ r∈A,∀ q∈r,Tq q)(hbT:∀ q∈b,Tq q):SzM (Nh A b) 1:=Xt (Add hs) (fun i j hi hj=>by
 by_cases hjn:j < A.length
 ·have hj':j < A[i].length:=by rw [hs.len hi]; exact hjn
  have e:=Ahx (b:=b) hs hi hjn;unfold en at e;rw [e,N6 hi,Mj hj'];exact (hT _ (List.getElem_mem hi) _ (List.getElem_mem hj')).sz
 ·obtain rfl:j=A.length:=by omega
  have e:=Anf (b:=b) hs hi;unfold en at e;have hib:i < b.length:=by omega
  rw [e,Mj hib];exact (hbT _ (List.getElem_mem hib)).sz)
theorem es1 {n:Nat}(h:n≤12):es 1 n≤1000000000:=Nat.le_trans (Ajv 1 h) (by decide)
theorem Ae3 {u:PH}{v bv:Value}{A:List (List Rat)}{b:List Rat}(h:N7 u v (Jx A))(hb:Fe u bv (b.map Af))(hs:Sq A)(hbl:b.length=A.length)(h0:0 < A.length)(hT:∀ r∈A,∀ q∈r,Tq q)(hbT:∀ q∈b,Tq q)
  (hsol:∀ y:Nat→Rat,Abv A.length (Nh A b) y→∀ i,i < A.length→Tx (y i)) :
  Fn0 prog 48 [v,bv] u fun r u'=>(∃ e:Int,e≠0∧r=.tuple #[.slice none 0 0,.int .i64 e]) ∨
   ∃ qs lv,r=.tuple #[lv,.int .i64 0]∧qs.length=A.length∧Abv A.length (Nh A b) (gR qs)∧Fe u' lv (qs.map Af):=by
 obtain ⟨a0,c0,rfl⟩:=h.opn;rw [If] at h ⊢;obtain ⟨a1,c1,rfl⟩:=Ab.opn hb;have hbs:(Cs (b.map Af)).length=A.length:=by simp [Cs,hbl]
 rw [hbs] at hb ⊢;have hle:=hs.le;refine Fn0.o func48 ?_;refine G.c call107 (Ae8 h hs) ?_;rintro v1 u1 l1 rfl;refine G.nF 0 0 ?_;refine G.nF (A.length:Int) (A.length:Int) ?_;refine G.nF (A.length:Int) (A.length:Int) ?_;have h1:=h.mono l1;have hb1:Fe u1 (.slice a1 A.length c1) (b.map Af):=Ab.mono hb l1;clear h hb;refine G.l (ι:=Nat) (fun i=>[(0,.v (.slice a0 A.length c0)),(1,.v (.slice a1 A.length c1)),(6,.v (.int .i64 (A.length:Int))),(7,.v (.int .i64 (A.length:Int))),(35,.v (.slice a1 A.length c1)),(36,.v (.int .i64 (A.length:Int))),(37,.v (.int .i64 (i:Int)))]) (fun _=>[])
  (fun i u' m'=>i≤A.length∧m'=PH.mt) (fun i=>A.length - i) 0 ⟨by omega,rfl⟩ ?_
 rintro J i hJ u2 m2 l2 ⟨hi,rfl⟩;by_cases hlt:i < A.length
 ·refine G.lT (i:Int) (A.length:Int) ?_;have hib:i < b.length:=by omega
  obtain ⟨b2,o2,rfl,e3⟩:=Ab.at' (Ab.mono hb1 l2) (j:=i) (e:=.string (mkS (Af b[i]))) (by simp [Cs,List.getElem?_eq_getElem hib]);refine G.a b2 o2 A.length c1 i 1 hlt ?_;refine G.lU none b2 (o2+i*1) _ e3 ?_;refine G.c call30 (Cp (hbT _ (List.getElem_mem hib)).tx) ?_;rintro v3 u3 l3 rfl;refine G.i i ?_;exact G.b (hJ (i+1) _ _ _ cv (l2.trans l3) ⟨by omega,rfl⟩ (by omega))
 clear hJ;refine G.lF (i:Int) (A.length:Int) ?_;have h2:=h1.mono l2;have hb2:Fe u2 (.slice a1 A.length c1) (b.map Af):=Ab.mono hb1 l2;clear h1 hb1;refine G.c call108 (Ur (n:=A.length) (w:=A.length) h2 hle hs.row hle hT hle) ?_;rintro v3 u3 l3 rfl;refine G.c call109 (Abn (Ab.mono hb2 l3) (by omega)) ?_;intro v4 u4 l4 hc;refine G.c call108 (Ur (n:=A.length) (w:=1) hc (by simp [Ui,hbl,hle]) (by simp [Ui]) (by omega) (by simpa [Ui] using hbT) hle) ?_;rintro v5 u5 l5 rfl;have lx:=(l3.trans l4).trans l5;refine G.callO _ _ (by kernel_rfl) call110 (Afs (h2.mono lx) hs) ?_;rintro v6 u6 m6 l6 ⟨a6,co,rows0,rfl,hQ0,hbag0⟩ _;rw [C2];have hb6:Fe u6 (.slice a1 A.length c1) (b.map Af):=Ab.mono hb2 (lx.trans l6);have hr0:rows0.length=A.length:=hQ0.1;obtain ⟨go,co',eo⟩:=hbag0.ptr 0 rfl (by intro e; simp only [oQ,List.map_eq_nil_iff] at e; rw [e] at hr0; simp at hr0; omega);simp only [oQ,List.length_map,hr0,Value.slice.injEq,true_and] at eo;obtain ⟨rfl,rfl⟩:=eo;clear h2 hb2 hc;refine G.l (ι:=Nat×List (Value×List Value)) (fun i=>[(1,.v (.slice a1 A.length c1)),(6,.v (.int .i64 (A.length:Int))),(7,.v (.int .i64 (A.length:Int))),(11,.v (.slice (some ⟨go,0,none⟩) A.length co)),(57,.v (.int .i64 (A.length:Int))),(58,.v (.int .i64 (i.1:Int)))]) (fun _=>[])
  (fun i u' m'=>i.1≤A.length∧i.2.length=A.length∧(∀ j r,i.2[j]?=some r→AtP QP u' r.2 (gM A j++if j < i.1 then [gR b j] else []))∧Bag m' (oQ (.slice (some ⟨go,0,none⟩) A.length co) i.2::i.2.map Dz)) (fun i=>A.length - i.1) (0,rows0)
  ⟨by omega,hr0,fun j r hj=>by rw [if_neg (by omega),List.append_nil]; exact hQ0.2 j r hj,hbag0⟩ ?_
 clear hbag0 hQ0 hr0;rintro J ⟨i,rows⟩ hJ u7 m7 l7 ⟨hi,hrl,hQ,hbag⟩;simp only at hi hrl hQ hbag hJ;by_cases hlt:i < A.length
 ·refine G.lT (i:Int) (A.length:Int) ?_;have hri:rows[i]?=some rows[i]:=List.getElem?_eq_getElem (by omega);have hAt:=hQ i _ hri;rw [if_neg (Nat.lt_irrefl _),List.append_nil] at hAt;obtain ⟨⟨vi,ei⟩,he⟩:∃ x,rows[i]=x:=⟨_,rfl⟩;rw [he] at hri hAt;simp only at hAt;have hel:ei.length=A.length:=by rw [hAt.1,N6 hlt,hs.len hlt]
  have hqi:(oQ (.slice (some ⟨go,0,none⟩) A.length co) rows::rows.map Dz)[i+1]?=some (Dz (vi,ei)):=by simp [hri]
  obtain ⟨gi,ci,e⟩:=hbag.ptr (i+1) hqi (by intro e; simp only [Dz] at e; rw [e] at hel; simp at hel; omega);simp only [Dz] at e;rw [hel] at e;subst e;have hop:ElP m7 go (0+i*1) (.slice (some ⟨gi,0,none⟩) A.length ci):=hbag.el 0 (x:=oQ _ _) rfl rfl (by simp [oQ,hri]);refine G.a go 0 A.length co i 1 hlt ?_;refine G.lM none go (0+i*1) _ hop ?_;have hib:i < b.length:=by omega
  obtain ⟨b2,o2,rfl,e3⟩:=Ab.at' (Ab.mono hb6 l7) (j:=i) (e:=.string (mkS (Af b[i]))) (by simp [Cs,List.getElem?_eq_getElem hib]);refine G.a b2 o2 A.length c1 i 1 hlt ?_;refine G.lU none b2 (o2+i*1) _ e3 ?_;refine G.c call31 (Eh (hbT _ (List.getElem_mem hib)).tx) ?_;intro v8 u8 l8 k8;obtain ⟨f8,rfl⟩:=k8.opQ;refine G.B 68 4 64 zQ [qv f8] (Vn f8) ?_;intro g9 u9 l9 e9;obtain ⟨mm,hx0,hput⟩:=hbag.focus (i+1) hqi;rw [Lv] at hx0;refine G.append 68 4 64 zQ mm ei [qv f8] (.slice (some ⟨gi,0,none⟩) A.length ci) g9 0 1 1 (by kernel_rfl) rfl rfl (by omega) hx0 e9 (Vn f8) rfl (by omega) (by omega) (by omega) ?_;intro v10 m10 hx10;have hb10:=hput (Dz (v10,ei++[qv f8])) m10 hx10;obtain ⟨a10,c10,rfl⟩:=hx10.shape;rw [List.set_cons_succ] at hb10;obtain ⟨mo,hxo,hputo⟩:=hb10.focus 0 rfl;rw [Aiz] at hxo;refine G.a go 0 A.length co i 1 hlt ?_;refine G.storeA 1 mo _ go A.length co i (.slice a10 (ei++[qv f8]).length c10) (by kernel_rfl) hxo (by simp; omega) rfl rfl ?_;intro m11 hx11;rw [show (rows.map (·.1)).set i (Value.slice a10 (ei++[qv f8]).length c10)=(rows.set i (Value.slice a10 (ei++[qv f8]).length c10,ei++[qv f8])).map (·.1) by rw [List.map_set]] at hx11;have hb11:=hputo (oQ (.slice (some ⟨go,0,none⟩) A.length co) (rows.set i (Value.slice a10 (ei++[qv f8]).length c10,ei++[qv f8]))) m11 hx11;rw [List.set_cons_zero,← List.map_set] at hb11;refine G.i i ?_;refine G.b (hJ (i+1,rows.set i (Value.slice a10 (ei++[qv f8]).length c10,ei++[qv f8])) _ _ _ cv ((l7.trans l8).trans l9) ⟨by dsimp only; omega,by dsimp only; rw [List.length_set]; exact hrl,?_,hb11⟩ (by dsimp only; omega));intro j r hj;dsimp only at hj ⊢;rw [List.getElem?_set] at hj;by_cases hij:i=j
  ·subst hij;rw [if_pos rfl,if_pos (by omega)] at hj;cases hj;rw [if_pos (by omega),Mj hib];exact (hAt.mono (fun _ _ k=>k.mono (l8.trans l9))).snoc (k8.mono l9)
  ·rw [if_neg hij] at hj;have h9:=(hQ j r hj).mono (fun _ _ k=>k.mono (l8.trans l9));by_cases hji:j < i
   ·rw [if_pos hji] at h9; rw [if_pos (by omega)]; exact h9
   ·rw [if_neg hji] at h9; rw [if_neg (by omega)]; exact h9
 clear hJ;obtain rfl:i=A.length:=by omega
 refine G.lF (A.length:Int) (A.length:Int) ?_;have hXr:=Add (b:=b) hs;have hXz:=Aoz hs hbl hT hbT;have hQX:QAt u7 rows (Nh A b):=⟨by rw [hrl,hXr.1],fun j r hj=>by
  have hj':j < A.length:=by
   obtain ⟨q1,_⟩:=List.getElem?_eq_some_iff.1 hj;omega
  have h9:=hQ j r hj;rw [if_pos hj'] at h9;rw [V8 hj']; exact h9⟩
 clear hQ hb6;refine G.A call111 (Ajp hXr (by omega) (by omega) (by omega) hXz (Nat.le_refl 1) (es1 hle) hQX hbag) ?_;rintro v8 u8 m8 l8 ⟨pa,pc,f,rows',rfl,_,hQ',hbag'⟩ _;rw [C2];have hsol1:=Xx A.length 0 [] (Nh A b) 1 (by omega) rfl hXr (fun i j _ hj=>absurd hj (Nat.not_lt_zero _));have hE:=Sy A.length 0 [] (Nh A b) 1 hXr;generalize hEe:By A.length 0 [] (Nh A b) 1=E at *
 by_cases hlt:E.1.length < A.length
 ·refine G.lT (E.1.length:Int) (A.length:Int) ?_;refine G.drop PH.mt (by kernel_rfl) (PH.mt_le _) ?_;exact G.r (.tuple #[.slice none 0 0,.int .i64 6]) ⟨rfl,.inl ⟨6,by omega,rfl⟩⟩
 have hsol2:=hsol1 hlt;have hTx:=hsol _ hsol2;refine G.lF (E.1.length:Int) (A.length:Int) ?_;obtain ⟨m9,hx9,hb9⟩:=hbag';refine G.drop m9 (by kernel_rfl) (Apn hx9) ?_;clear hx9;refine G.l (ι:=Nat×(Option Addr×Nat)×List Value) (fun i=>[(7,.v (.int .i64 (A.length:Int))),(11,.v (.slice (some ⟨go,0,none⟩) A.length co)),(15,.v (.slice i.2.1.1 i.1 i.2.1.2)),(87,.v (.int .i64 (A.length:Int))),(88,.v (.int .i64 (i.1:Int)))]) (fun _=>[])
  (fun i u' m'=>i.1≤A.length∧AtP QP u' i.2.2 ((List.range i.1).map fun k=>en E.2.1 k A.length)∧Bag m' (Dz (.slice i.2.1.1 i.1 i.2.1.2,i.2.2)::oQ (.slice (some ⟨go,0,none⟩) A.length co) rows'::rows'.map Dz)) (fun i=>A.length - i.1) (0,(none,0),[])
  ⟨by omega,AtP.nil,m9,Ae.nil _ _ _,hb9⟩ ?_
 rintro J ⟨i,⟨ra,rc⟩,es⟩ hJ u10 m10 l10 ⟨hi,hAt,hbk⟩;simp only at hi hAt hbk hJ;have hel:es.length=i:=by rw [hAt.1]; simp
 by_cases hli:i < A.length
 ·refine G.lT (i:Int) (A.length:Int) ?_;obtain ⟨gi,ci,ei,hri,hrl2,hAi,hoi,hci⟩:=Vj hbk (hQ'.mono l10) hE hli (by omega);obtain ⟨fi,h5,h6,h7⟩:=hci A.length (by omega);refine G.a go 0 A.length co i 1 hli ?_;refine G.lM none go (0+i*1) _ hoi ?_;refine G.a gi 0 (A.length+1) ci A.length 4 (by omega) ?_;refine G.lM (some 4) gi (0+A.length*4) (qv fi) h7 ?_;refine G.B 68 4 64 zQ [qv fi] (Vn fi) ?_;intro g11 u11 l11 e11;obtain ⟨mm,hx0,hbr⟩:=hbk;rw [Lv] at hx0;refine G.append 68 4 64 zQ mm es [qv fi] (.slice ra i rc) g11 0 1 1 (by kernel_rfl) rfl rfl (by omega) hx0 e11 (Vn fi) rfl (by omega) (by omega) (by omega) ?_;intro v12 m12 hx12;obtain ⟨a12,c12,rfl⟩:=hx12.shape;have el:(es++[qv fi]).length=i+1:=by simp [hel]
  rw [el] at hx12 ⊢;refine G.i i ?_;refine G.b (hJ (i+1,(a12,c12),es++[qv fi]) _ _ _ cv (l10.trans l11) ⟨by dsimp only; omega,?_,mm,hx12,hbr⟩ (by dsimp only; omega));dsimp only;rw [List.range_succ,List.map_append];exact (hAt.mono (fun _ _ k=>k.mono l11)).snoc (h6.mono l11)
 clear hJ;obtain rfl:i=A.length:=by omega
 refine G.lF (A.length:Int) (A.length:Int) ?_;refine G.giveP (ma:=m10) (sm:=PH.mt) (by kernel_rfl) (by funext g; unfold PH.or; cases m10 g <;> rfl) (fun g=>.inr rfl) (fun g=>.inl rfl) ?_
 intro u12 l12 hm12;obtain ⟨mf,hxf,_⟩:=hbk.focus 0 rfl;rw [Lv] at hxf;have hL:Ab u12 (.slice ra es.length rc) 4 es:=by rw [hel]; simpa [hel] using hxf.list hm12
 rw [hel] at hL;refine G.c call112 (Ajj hL (hAt.mono (fun _ _ k=>k.mono l12)) (by
  intro q hq;obtain ⟨k,hk,rfl⟩:=List.mem_map.1 hq;exact hTx k (List.mem_range.1 hk)) (by simp; omega)) ?_
 rintro v13 u13 l13 ⟨lv,rfl,hS⟩;refine G.r (.tuple #[lv,.int .i64 0]) ⟨rfl,.inr ⟨_,lv,rfl,by simp,?_,hS⟩⟩;have hg:∀ k,k < A.length→gR ((List.range A.length).map fun k=>en E.2.1 k A.length) k=en E.2.1 k A.length:=fun k hk=>Ads (by rw [List.getElem?_map,List.getElem?_range hk]; rfl);intro k hk;rw [← hsol2 k hk];exact Er (fun j hj=>by rw [hg j hj])
end
section
open Go.RowKit Go.MapKept
variable {i j:Nat}{m0:Rat}{qs:List Rat}{z:Int}
theorem Ag7 {q:Rat}{D:Nat}(h:q*(D:Rat)=(z:Rat))(h0:0 < D):q.den ∣ D∧q.num.natAbs≤z.natAbs:=by
 have hq:q=Rat.divInt z (D:Int):=by
  rw [Rat.divInt_eq_div,Rat.intCast_natCast,← h];have:=Pr h0;grind
 obtain ⟨e1,e2,e3⟩:=Ju (y:=z) (z:=(D:Int)) (by omega);rw [hq];constructor
 ·have h2:((Rat.divInt z (D:Int)).den:Int)=((D / Nat.gcd z.natAbs D:Nat):Int):=by
   rw [e2,show ((D:Int)).natAbs=D from rfl,Int.tdiv_eq_ediv_of_nonneg (by omega),← Int.natCast_ediv]
  rw [Int.ofNat.inj h2];exact Nat.div_dvd_of_dvd (Nat.gcd_dvd_right _ _)
 ·rw [e1,Int.natAbs_tdiv];exact Nat.div_le_self _ _
theorem Apw {q:Rat}(h:q*((4320:Nat):Rat)=(z:Rat))(hz:z.natAbs≤15000000):Tq q:=by
 obtain ⟨h1,h2⟩:=Ag7 h (by omega);exact ⟨De.tx (a:=8) (b:=4) ⟨z,4320,h,by omega,by omega,by omega⟩ (by omega) (by omega) (by omega) (by omega),h1,by omega⟩
theorem Am6 {x t:Rat}{N:Nat}(h:Dn 2 N x)(hN:N≤489888)(ht:∃ p:Int,t*30=p∧p.natAbs≤90):Tq (x+t):=by
 obtain ⟨z,h1,h2⟩:=h;obtain ⟨p,h3,h4⟩:=ht;refine Apw (z:=z*30+p*144) ?_ (by omega);have e:((12 ^ 2:Nat):Rat)=144:=by decide +kernel
 have e2:((4320:Nat):Rat)=4320:=by decide +kernel
 have e3:((30:Int):Rat)=30:=by decide +kernel
 have e4:((144:Int):Rat)=144:=by decide +kernel
 rw [e] at h1;rw [Rat.intCast_add,Rat.intCast_mul,Rat.intCast_mul,← h1,← h3,e2,e3,e4];grind
section
variable {P:List Par} {C:CF} {q:Rat} {N:Nat}
def Pu (C:CF)(P:List Par)(q:Rat):List (List Rat):=Gl q (M8 C P) (P.length+1)
def Y0 (C:CF)(P:List Par):List Rat:=(Ak P).map (Ay C)
theorem N4:Rec (P.length+1) (P.length+1) (Pu C P q):=N3 (Rt C P) _ (Nat.le_refl _)
theorem Air (hi:i < P.length+1)(hj:j < P.length+1):en (Pu C P q) i j=As C ((Ak P).getD i none) ((Ak P).getD j none)+if i=j∧0 < i then q else 0:=by
 unfold Pu;rw [Xd (Rt C P) _ (Nat.le_refl _) i j hi hj,Adr C P hi hj];have:(if i=j∧0 < i∧i < P.length+1 then q else 0)=if i=j∧0 < i then q else 0:=by simp [hi]
 rw [this]
theorem Ah6:(Y0 C P).length=P.length+1:=by unfold Y0; rw [List.length_map,Bo]
theorem Aly (hi:i < P.length+1):gR (Y0 C P) i=Ay C ((Ak P).getD i none):=by
 have h1:=Bo P;refine Ads ?_;unfold Y0;rw [List.getElem?_map,List.getD_eq_getElem?_getD,List.getElem?_eq_getElem (by omega)]; rfl
theorem Aix (hcd:G5 N C)(hN:N≤489888)(hq:Kl q):∀ r∈Pu C P q,∀ x∈r,Tq x:=by
 intro r hr x hx;have hA:=N4 (P:=P) (C:=C) (q:=q);obtain ⟨i,hi,rfl⟩:=List.mem_iff_getElem.1 hr;obtain ⟨j,hj,rfl⟩:=List.mem_iff_getElem.1 hx;have hi':i < P.length+1:=by have:=hA.1; omega
 have hj':j < P.length+1:=by have:=hA.2 i hi'; rw [N6 hi] at this; omega
 have e:=Air (P:=P) (C:=C) (q:=q) hi' hj';unfold en at e;rw [N6 hi,Mj hj] at e;rw [e];refine Am6 (hcd.c _ _) hN ?_;split
 ·exact hq.thirty
 ·exact ⟨0,by decide +kernel,by decide⟩
theorem Akd (hcd:G5 N C)(hN:N≤489888):∀ x∈Y0 C P,Tq x:=by
 intro x hx;obtain ⟨e,_,rfl⟩:=List.mem_map.1 hx;have h:=Am6 (t:=0) (hcd.r e) hN ⟨0,by decide +kernel,by decide⟩;rwa [Rat.add_zero] at h
theorem Ahf (hcd:G5 N C)(hN:N≤489888)(hq:Kl q)(hP:P.length≤11):Sq (Pu C P q):=by
 have hA:=N4 (P:=P) (C:=C) (q:=q);refine ⟨by rw [hA.1]; omega,fun r hr=>?_,fun r hr x hx=>(Aix hcd hN hq r hr x hx).tx⟩;obtain ⟨i,hi,rfl⟩:=List.mem_iff_getElem.1 hr;have:=hA.2 i (by have:=hA.1; omega);rw [N6 hi] at this;rw [this,hA.1]
theorem Qb {y:Nat→Rat}{bE:Option Par→Rat}(hs:Sq (Pu C P q))(h:Abv (Pu C P q).length (Nh (Pu C P q) (Y0 C P)) y)(hb:∀ j,j < P.length+1→bE ((Ak P).getD j none)=y j):Fv P C q bE:=by
 have hA:=N4 (P:=P) (C:=C) (q:=q);intro e he;obtain ⟨i,hi,rfl⟩:=List.mem_iff_getElem.1 he;have hei:(Ak P)[i]=(Ak P).getD i none:=by rw [List.getD_eq_getElem?_getD,List.getElem?_eq_getElem hi]; rfl
 rw [hei];rw [Bo] at hi;have hiA:i < (Pu C P q).length:=by rw [hA.1]; exact hi
 have h1:=h i hiA;rw [Anf hs hiA,Aly hi,Er (g:=fun j=>As C ((Ak P).getD i none) ((Ak P).getD j none)*bE ((Ak P).getD j none)+(if i=j∧0 < i then q else 0)*y j) (fun j hj=>by
  have hj':j < P.length+1:=by have:=hA.1; omega
  rw [Ahx hs hiA hj,Air hi hj',hb j hj']; grind),hA.1,Y4,Aac] at h1
 have hpen:Kp q bE ((Ak P).getD i none)=if i < P.length+1∧0 < i then q*y i else 0:=by
  cases i with
  | zero=>rw [if_neg (by omega)]; rfl
  | succ j =>
   rw [if_pos ⟨hi,by omega⟩,← hb _ hi];unfold Ak;rw [List.getD_cons_succ,List.getD_eq_getElem?_getD,List.getElem?_map,List.getElem?_eq_getElem (by omega)]; rfl
 rw [R3 _ (Ak P) none,Bo,hpen];exact h1
theorem Aeq (hP:P.Nodup)(hl:qs.length=P.length)(hj:j < P.length):Bi P[j] (P.zip qs)=gR qs j:=by
 have hjq:j < qs.length:=by omega
 rw [Mj hjq];refine F9 ?_ (List.mem_iff_getElem.2 ⟨j,by simp; omega,by simp⟩);have e:(P.zip qs).map (·.1)=P:=List.map_fst_zip (by omega);rw [e]; exact hP
theorem Ag6 (hP:P.Nodup)(hl:qs.length=P.length):∀ j,j < P.length+1→cfE m0 (P.zip qs) ((Ak P).getD j none)=gR (m0::qs) j:=by
 intro j hj;cases j with
 | zero=>rfl
 | succ j =>
  unfold Ak;rw [List.getD_cons_succ,List.getD_eq_getElem?_getD,List.getElem?_map,List.getElem?_eq_getElem (by omega)];show Bi P[j] (P.zip qs)=gR (m0::qs) (j+1);rw [Aeq hP hl (by omega)]; rfl
theorem Akj (hi:i < P.length+1):(Ak P).getD i none∈Ak P:=by
 have:=Bo P;rw [List.getD_eq_getElem?_getD,List.getElem?_eq_getElem (by omega)]; exact List.getElem_mem _
theorem Ac7 {b:Option Par→Rat}(hcd:G5 N C)(hN:N≤489888)(hq:Kl q)(hP:P.length≤11)(hcp:1≤C.c)(hpsd:∀ z,0≤Bm z P C)(hsq:∀ z,0≤sqC z P C)(h:Fv P C q b):∀ e∈Ak P,De 111 103 (b e):=by
 have hc0:0 < C.c:=by
  have h1:(0:Rat) < 1:=by decide +kernel
  grind
 obtain ⟨D,h0,h1,h2⟩:=Ady hcd hN hP hq.thirty hq.pos hc0 hpsd h;exact Ao6 h0 h1 h2 (Ali hcd hN hP hq.thirty hq.pos hcp hpsd (hsq b) h)
theorem Aot (hnd:P.Nodup)(hcd:G5 N C)(hN:N≤489888)(hq:Kl q)(hP:P.length≤11)(hcp:1≤C.c)(hpsd:∀ z,0≤Bm z P C)(hsq:∀ z,0≤sqC z P C)(y:Nat→Rat)(h:Abv (Pu C P q).length (Nh (Pu C P q) (Y0 C P)) y) :
  ∀ i,i < (Pu C P q).length→Tx (y i):=by
 intro i hi;have hA:=N4 (P:=P) (C:=C) (q:=q);have hi':i < P.length+1:=by have:=hA.1; omega
 have hb:∀ j,j < P.length+1→cfE (y 0) (P.zip ((List.range P.length).map fun j=>y (j+1))) ((Ak P).getD j none)=y j:=fun j hj=>by
  rw [Ag6 hnd (by simp) j hj];cases j with
  | zero=>rfl
  | succ j=>exact Ads (by rw [List.getElem?_cons_succ,List.getElem?_map,List.getElem?_range (by omega)]; rfl)
 have hn:=Qb (Ahf hcd hN hq hP) h hb;have hd:=Ac7 hcd hN hq hP hcp hpsd hsq hn _ (Akj hi');rw [hb i hi'] at hd;exact hd.tx (by omega) (by omega) (by omega) (by omega)
theorem Apa (hs:Ef A8 P)(hl:qs.length=P.length)(hd:∀ e∈Ak P,De 111 103 (cfE m0 (P.zip qs) e)):Ew P m0 (P.zip qs):=by
 have e:(P.zip qs).map (·.1)=P:=List.map_fst_zip (by omega);have hnd:=hs.nodup Dp;refine ⟨(hd none (by simp [Ak])).tx (by omega) (by omega) (by omega) (by omega),fun x hx=>?_,by rw [e]; exact hs,fun x hx=>?_,by simp; omega⟩
 ·have hm:x.1∈P:=by rw [← e]; exact List.mem_map_of_mem hx
  have h1:=hd (some x.1) (by simp [Ak,hm]);have h2:cfE m0 (P.zip qs) (some x.1)=x.2:=F9 (by rw [e]; exact hnd) hx;rw [h2] at h1;exact h1.tx (by omega) (by omega) (by omega) (by omega)
 ·rw [← e]; exact List.mem_map_of_mem hx
end
theorem Aa8 {u:PH}{v cv:Value}{T:List (List UInt8×Nat)}{R:List Bk}{F:List Ao}{lab:Int}{C:CF}{K k N:Nat}{P:List Par}{q:Rat}(h:F8 u v cv T R F lab C K k P)(hq:Kl q)(hcd:G5 N C)(hN:N≤489888)(hpsd:∀ z,0≤Bm z P C)(hsq:∀ z,0≤sqC z P C) :
  Fn0 prog 11 [v,cv,.string (mkS (Af q))] u fun r u'=>(∃ e:Int,e≠0∧r=.tuple #[.agg #[.string (mkS []),.slice none 0 0],.int .i64 e]) ∨
   (k≠0∧P.length≤11∧∃ mv m0 qs,r=.tuple #[mv,.int .i64 0]∧Jy u' mv m0 (P.zip qs)∧Ew P m0 (P.zip qs)∧Fv P C q (cfE m0 (P.zip qs))∧∀ e∈Ak P,De 111 103 (cfE m0 (P.zip qs) e)):=by
 have hsy:=Zt h hq;have hss:=h.prm.1;have hmom:=h.mom;obtain ⟨xa,xc,xb,xd,xe,xf,rfl,_⟩:=id h.sch;obtain ⟨a1,n1,c1,a2,n2,c2,rfl⟩:=id h.cof.opn;refine Fn0.o func11 ?_;refine G.c call47 hsy ?_;rintro v1 u1 l1 (⟨e,he,rfl⟩ | ⟨hk,hP11,pa,pc,ya,yc,ra,rc,rfl,hPL,hM,hR⟩)
 ·refine G.nT' e 0 he ?_;exact G.r (.tuple #[.agg #[.string (mkS []),.slice none 0 0],.int .i64 e]) ⟨rfl,.inl ⟨e,he,rfl⟩⟩
 refine G.nF 0 0 ?_;have hcp:1≤C.c:=by
  rw [hmom.c];have:((1:Nat):Rat)≤(k:Rat):=Rat.natCast_le_natCast.2 (by omega);simpa using this
 have hA:=N4 (P:=P) (C:=C) (q:=q);have hnd:=hss.nodup Dp;have hsQ:=Ahf hcd hN hq hP11;refine G.c call48 (Ae3 (A:=Pu C P q) (b:=Y0 C P) hM hR hsQ (by rw [Ah6,hA.1]) (by rw [hA.1]; omega) (Aix hcd hN hq) (Akd hcd hN) (Aot hnd hcd hN hq hP11 hcp hpsd hsq)) ?_;rintro v2 u2 l2 (⟨e,he,rfl⟩ | ⟨qs,lv,rfl,hql,hsol,hS⟩)
 ·refine G.nT' e 0 he ?_;exact G.r (.tuple #[.agg #[.string (mkS []),.slice none 0 0],.int .i64 e]) ⟨rfl,.inl ⟨e,he,rfl⟩⟩
 rw [hA.1] at hql;cases qs with
 | nil=>simp at hql
 | cons m0 qs =>
  have hlen:qs.length=P.length:=by simpa using hql
  have hn:=Qb hsQ hsol (Ag6 hnd hlen);have hd:=Ac7 hcd hN hq hP11 hcp hpsd hsq hn;have hok:=Apa hss hlen hd;have hT:∀ x∈qs,Tx x:=fun x hx=>by
   obtain ⟨j,hj,rfl⟩:=List.mem_iff_getElem.1 hx;exact hok.t (P[j],qs[j]) (List.mem_iff_getElem.2 ⟨j,by simp; omega,by simp⟩)
  obtain ⟨la,lc,hlv⟩:=Ab.opn hS;subst hlv;refine G.nF 0 0 ?_;refine G.c call49 (Abl (hPL.mono l2) hS hss hlen (by omega) hok.c hT) ?_;rintro v3 u3 l3 ⟨mv,rfl,hmv⟩;obtain ⟨ma,mc,rfl,_⟩:=id hmv.val;exact G.r (.tuple #[.agg #[.string (mkS (Af m0)),.slice ma (P.zip qs).length mc],.int .i64 0]) ⟨rfl,.inr ⟨hk,hP11,_,m0,qs,rfl,hmv,hok,hn,hd⟩⟩
end
section
open Go.RowKit Go.MapKept
section
variable {P:List Par} {C:CF} {q:Rat} {N k:Nat} {b:Option Par→Rat}
end
end
section
open Go.RowKit Go.MapKept
variable {P:List Par}{a:Option Addr}{c n:Nat}{u:PH}
abbrev Alc:Type:=List (Value×Rat×List (Par×Rat))
def Hz (u:PH)(es:List Value)(P:List Par)(Ms:Alc):Prop:=es.length=Ms.length∧∀ (j:Nat) (x:Value×Rat×List (Par×Rat)),Ms[j]?=some x→∃ e,es[j]?=some e∧Nj u e P (cfE x.2.1 x.2.2)
theorem Hz.mono {u u':PH}{es:List Value}{P:List Par}{Ms:Alc}(h:Hz u es P Ms)(hl:PH.le u u'):Hz u' es P Ms :=
 ⟨h.1,fun j x hx=>by obtain ⟨e,h1,h2⟩:=h.2 j x hx; exact ⟨e,h1,h2.mono hl⟩⟩
theorem Hz.snoc {es:List Value}{Ms:Alc}{e:Value}{x:Value×Rat×List (Par×Rat)}(h:Hz u es P Ms)(he:Nj u e P (cfE x.2.1 x.2.2)):Hz u (es++[e]) P (Ms++[x]):=by
 refine ⟨by simp [h.1],fun j y hy=>?_⟩;rcases Nat.lt_or_ge j Ms.length with hj | hj
 ·rw [List.getElem?_append_left hj] at hy;obtain ⟨e',h1,h2⟩:=h.2 j y hy;exact ⟨e',by rw [List.getElem?_append_left (by rw [h.1]; exact hj)]; exact h1,h2⟩
 ·rw [List.getElem?_append_right hj] at hy;have h0:j - Ms.length=0:=by
   have:=(List.getElem?_eq_some_iff.1 hy).1;simp at this; omega
  rw [h0] at hy;cases hy;exact ⟨e,by rw [List.getElem?_append_right (by rw [h.1]; exact hj),h.1,h0]; rfl,he⟩
theorem Ajq {a a':Option Addr}{n c n' c':Nat}:A3 2 [.agg #[.slice a n c,.slice a' n' c']]:=by
 intro x hx;simp only [List.mem_cons,List.not_mem_nil,or_false] at hx;subst hx; exact ⟨rfl,List.all_eq_true.1 rfl⟩
theorem Abw {s:List UInt8}:A3 2 [.agg #[.string (mkS s),.slice a n c]]:=by
 intro x hx;simp only [List.mem_cons,List.not_mem_nil,or_false] at hx;subst hx; exact ⟨rfl,List.all_eq_true.1 rfl⟩
theorem F8.csgn {v cv:Value}{T:List (List UInt8×Nat)}{R:List Bk}{F:List Ao}{lab:Int}{C:CF}{K k:Nat}(h:F8 u v cv T R F lab C K k P)(h0:k≠0):¬ sgn C.c.num≤0:=by
 have h1:C.c.num=(k:Int):=by rw [h.mom.c]; exact Rat.num_natCast k
 rw [h1,B9 (by omega)]; omega
theorem K4 {u:PH}{v cv mv:Value}{T:List (List UInt8×Nat)}{R:List Bk}{F:List Ao}{lab:Int}{C:CF}{K k:Nat}{P:List Par}{Ms:Alc}(lb:Bool)(h:F8 u v cv T R F lab C K k P)(h0:k≠0)
  (hL:Ab u mv 2 (Ms.map (·.1))) (hM:∀ x∈Ms,Jy u x.1 x.2.1 x.2.2∧Ew P x.2.1 x.2.2) (hl:Ms.length≤1000) :
  Fn0 prog 52 [v,cv,.bool lb,mv] u fun r u'=>∃ x ls es,r=.tuple #[x,ls,.int .i64 0]∧Mf u' x C K∧Ab u' ls 2 es∧Hz u' es P Ms:=by
 have hK:=h.K;have hprm:=Aba h.sch h.ok h.cof h.sC h.vC (by omega) h.bel;have hof:=fun (u':PH) (l:PH.le u u')=>Fn0.weak (Ai.giveAll (of0 (h.cof.mono l) h.sC (by omega))) fun v u' ⟨u1,m1,l1,l2,h⟩=>h.give l1 l2;have hpar:=h.par;have hX:=h.sch;have ok:=h.ok;have hS:=h.mom;have hsg:=h.csgn h0;have hlab:=h.lab0;have hP24:=h.p24;have hPL:=h.prm;obtain ⟨xa,xc,xb,xd,xe,xf,rfl,hTL,hRL,hFL⟩:=id h.sch;obtain ⟨a1,n1,c1,a2,n2,c2,rfl⟩:=h.cof.opn;obtain ⟨ma,mc,rfl⟩:=hL.opn;rw [List.length_map] at hL ⊢;refine Fn0.o func52 ?_;refine G.c call114 hprm ?_;rintro v1 u1 l1 (⟨rfl,Q,hQ,hQP⟩ | ⟨ps,Q,rfl,hP,_,hQP⟩)
 ·have:=hPL.eq hQP;subst this; omega
 obtain rfl:=hPL.eq hQP;obtain ⟨pa,pc,rfl⟩:=hP.opn;rw [List.length_map] at hP ⊢;refine G.nF 0 0 ?_;have hsign:∀ (u':PH),Fn0 prog 115 [.string (mkS (Af C.c))] u' fun v _=>v=.int .i64 (sgn C.c.num):=fun u'=>Zw hS.tx;cases lb
 case' true=>refine G.lF lab 0 ?_
 all_goals
  refine G.c call115 (hsign u1) ?_;rintro v2 u2 l2 rfl;refine G.kF (sgn C.c.num) 0 ?_;refine G.l (ι:=Nat×(Option Addr×Nat)×List Value) (fun i=>[(4,.p 0 0),(5,.p 1 0),(8,.p 2 0),(11,.v (.slice pa P.length pc)),(13,.v (.slice i.2.1.1 i.2.2.length i.2.1.2)),(41,.v (.slice ma Ms.length mc)),(42,.v (.int .i64 (Ms.length:Int))),(43,.v (.int .i64 (i.1:Int)))])
   (fun _=>[(0,⟨31,[.v (.slice xa T.length xc),.v (.slice xb R.length xd),.v (.slice xe F.length xf),.v (.int .i64 lab)]⟩),(1,⟨37,[.v (.string (mkS (Af C.c))),.v (.slice a1 n1 c1),.v (.slice a2 n2 c2)]⟩),(2,⟨120,[.v (.bool false),.v (.slice none 0 0),.v (.bool false),.v (.slice none 0 0),.v (.map none),.v (.map none)]⟩)])
   (fun i u' m'=>i.1≤Ms.length∧Hz u' i.2.2 P (Ms.take i.1)∧Ae PH.mt m' (.slice i.2.1.1 i.2.2.length i.2.1.2) 126 2 i.2.2) (fun i=>Ms.length - i.1) (0,(none,0),[]) ⟨by omega,⟨rfl,fun j x hx=>by simp at hx⟩,Ae.nil _ _ _⟩ ?_
  rintro J ⟨i,⟨oa,oc⟩,es⟩ hJ u3 m3 l3 ⟨hi,hE,hA⟩;simp only at hi hE hA hJ;have le3:=(l1.trans l2).trans l3;by_cases hlt:i < Ms.length
  ·refine G.lT (i:Int) (Ms.length:Int) ?_;obtain ⟨x,hMi⟩:∃ x,Ms[i]?=some x:=⟨_,List.getElem?_eq_getElem hlt⟩;obtain ⟨hmv,hmo⟩:=hM x (List.mem_of_getElem? hMi);have htk:=E6 hMi;obtain ⟨ba,ob,rfl,ea⟩:=Ab.at' (hL.mono le3) (j:=i) (e:=x.1) (by simp [hMi]);obtain ⟨xv,m0,M⟩:=x;simp only at hmv hmo ea;obtain ⟨na,nc,rfl,_⟩:=hmv.val;refine G.a ba ob Ms.length mc i 2 hlt ?_;refine G.lU (some 2) ba (ob+i*2) (.agg #[.string (mkS (Af m0)),.slice na M.length nc]) ea ?_;refine G.c call116 (Aj9 (hP.mono (l2.trans l3)) hPL.1 (by omega) (hmv.mono le3) hmo) ?_;rintro v4 u4 l4 ⟨lv,rfl,hlv⟩;obtain ⟨la,lc,rfl⟩:=Ab.opn hlv;refine G.nF 0 0 ?_;refine G.c call61 (Agi (hX.mono (le3.trans l4)) (ok.mono (le3.trans l4)) (hmv.mono (le3.trans l4)) hmo (by omega) hpar) ?_;rintro v5 u5 l5 rfl;refine G.c call117 (Aep (hlv.mono l5) (fun q hq=>?_) (by rw [List.length_map,Bo]; omega)) ?_
   ·obtain ⟨e,_,rfl⟩:=List.mem_map.1 hq;cases e with
    | none=>exact hmo.tx.1
    | some p =>
     show Tx (Bi p M);by_cases hp:p∈M.map (·.1)
     ·obtain ⟨y,hy,rfl⟩:=List.mem_map.1 hp;rw [F9 (hmo.srt.nodup Dp) hy]; exact hmo.tx.2 y hy
     ·rw [Kc hp]; exact Ajl.tx
   intro v6 u6 l6 k6;obtain ⟨es6,hL6,hF6⟩:=id k6;obtain ⟨fa,fc,rfl⟩:=hL6.opn;have hel:es6.length=P.length+1:=by rw [hF6.1,List.length_map,Bo]
   rw [hel] at k6 ⊢;have hesl:es.length≤1000:=by
    have:=hE.1;rw [List.length_take] at this; omega
   refine G.B 126 2 48 (.agg #[.slice none 0 0,.slice none 0 0]) [.agg #[.slice pa P.length pc,.slice fa (P.length+1) fc]] Ajq ?_;intro g7 u7 l7 e7;refine G.append 126 2 48 (.agg #[.slice none 0 0,.slice none 0 0]) PH.mt es [.agg #[.slice pa P.length pc,.slice fa (P.length+1) fc]] _ g7 0 1 1 (by kernel_rfl) rfl rfl (by omega) hA e7 Ajq rfl (by omega) (by show (es.length+1)*48≤140737488355328; omega) (by show es.length+1≤9223372036854775807; omega) ?_;intro v8 m8 hA8;obtain ⟨a8,c8,rfl⟩:=hA8.shape;have l37:=((l4.trans l5).trans l6).trans l7;have hE8:Hz u7 (es++[.agg #[.slice pa P.length pc,.slice fa (P.length+1) fc]]) P (Ms.take (i+1)):=by
    rw [htk]; exact (hE.mono l37).snoc ⟨_,_,_,_,rfl,hP.mono (((l2.trans l3).trans l37)),k6.mono l7⟩
   refine G.i i ?_;exact G.b (hJ (i+1,(a8,c8),es++[.agg #[.slice pa P.length pc,.slice fa (P.length+1) fc]]) _ _ _ cv (l3.trans l37) ⟨by dsimp only; omega,hE8,hA8⟩ (by dsimp only; omega))
  ·obtain rfl:i=Ms.length:=by omega
   refine G.lF (Ms.length:Int) (Ms.length:Int) ?_;rw [List.take_length] at hE;refine G.give _ _ _ (by kernel_rfl) hA (fun g=>.inl rfl) ?_;intro u10 l10 hLs;refine G.c call75 (hof u10 (le3.trans l10)) ?_;intro v11 u11 l11 k11;obtain ⟨b,a,n,c,b',a',n',c',g1,g2,rfl⟩:=S3 k11;exact G.r (.tuple #[.agg #[.bool b,.slice a n c,.bool b',.slice a' n' c',.map (some g1),.map (some g2)],.slice oa es.length oc,.int .i64 0]) ⟨rfl,_,_,es,rfl,k11,hLs.mono l11,hE.mono (l10.trans l11)⟩
end
section
open Go.RowKit Go.MapKept
section
variable {u:PH} {v cv mv:Value} {T:List (List UInt8×Nat)} {R:List Bk} {F:List Ao} {lab:Int} {C:CF} {K k:Nat} {P:List Par} {m0:Rat} {M:List (Par×Rat)}
theorem T1 {u:PH}{P:List Par}{x:Value×Rat×List (Par×Rat)}{es:List Value}(h:Hz u es P [x]):∃ e,es = [e]∧Nj u e P (cfE x.2.1 x.2.2):=by
 obtain ⟨h1,h2⟩:=h;obtain ⟨e,he,hl⟩:=h2 0 x rfl
 match es,h1,he with
 | [y],_,he=>cases he; exact ⟨e,rfl,hl⟩
theorem Yl (ht:Lb u)(h:F8 u v cv T R F lab C K k P)(h0:k≠0)(hmv:Jy u mv m0 M)(hm:Ew P m0 M)(hT:Tx (Kf (cfE m0 M) P C / C.c)) :
  Fn0 prog 16 [v,cv,mv] u fun r _=>r=.tuple #[.string (mkS (Af (Kf (cfE m0 M) P C / C.c))),.int .i64 0]:=by
 have hop:=fun (u':PH) (l:PH.le u u') (mv':Value) (hL:Ab u' mv' 2 ([(mv,m0,M)].map (·.1)))=>K4 true (h.mono l) h0 hL (fun x hx=>by
  simp only [List.mem_cons,List.not_mem_nil,or_false] at hx;subst hx; exact ⟨hmv.mono l,hm⟩) (by simp)
 have hP24:=h.p24;obtain ⟨xa,xc,xb,xd,xe,xf,rfl,_⟩:=id h.sch;obtain ⟨a1,n1,c1,a2,n2,c2,rfl⟩:=h.cof.opn;obtain ⟨na,nc,rfl,_⟩:=id hmv.val;refine Fn0.o func16 ?_;refine G.B 42 2 40 (.agg #[.string (mkS []),.slice none 0 0]) [.agg #[.string (mkS (Af m0)),.slice na M.length nc]] Abw ?_;intro g1 u1 l1 e1;refine G.c call52 (hop u1 l1 _ e1.listP) ?_;rintro v2 u2 l2 ⟨x,ls,es,rfl,k2,hls,hla⟩;obtain ⟨e,rfl,he⟩:=T1 hla;obtain ⟨b,a,n,c,b',a',n',c',g1',g2,rfl,hcn⟩:=Ir k2;obtain ⟨la,lc,rfl⟩:=hls.opn;obtain ⟨bb,ob,rfl,eb⟩:=Ab.at' hls (j:=0) (e:=e) rfl;obtain ⟨pa,pc,fa,fc,rfl,_⟩:=id he.val;refine G.nF 0 0 ?_;refine G.a bb ob 1 lc 0 2 (by omega) ?_;refine G.lU (some 2) bb (ob+0*2) (.agg #[.slice pa P.length pc,.slice fa (P.length+1) fc]) eb ?_;refine G.c call56 (Apj he k2 (by omega) (h.qok hm)) ?_;intro v3 u3 l3 k3;obtain ⟨b3,a3,n3,c3,b3',a3',n3',c3',rfl⟩:=k3.opn;refine G.c call54 (G0 k3 (hcn.mono l3) (((h.qok hm).biasS (by omega)).mono (by omega)) (h.mom.csz.mono (by omega)) (h.mom.cne h0)) ?_;intro v4 u4 l4 k4;obtain ⟨b4,a4,n4,c4,b4',a4',n4',c4',rfl⟩:=k4.opn;refine G.c call55 (Jj (ht.mono (((l1.trans l2).trans l3).trans l4)) k4 hT) ?_;rintro v5 u5 l5 rfl;exact G.r (.tuple #[.string (mkS (Af (Kf (cfE m0 M) P C / C.c))),.int .i64 0]) ⟨rfl,rfl⟩
theorem Pk (ht:Lb u)(h:F8 u v cv T R F lab C K k P)(h0:k≠0)(hmv:Jy u mv m0 M)(hm:Ew P m0 M)(hT:Tx (sqC (cfE m0 M) P C / C.c)) :
  Fn0 prog 15 [v,cv,mv] u fun r _=>r=.tuple #[.string (mkS (Af (sqC (cfE m0 M) P C / C.c))),.int .i64 0]:=by
 have hop:=fun (u':PH) (l:PH.le u u') (mv':Value) (hL:Ab u' mv' 2 ([(mv,m0,M)].map (·.1)))=>K4 true (h.mono l) h0 hL (fun x hx=>by
  simp only [List.mem_cons,List.not_mem_nil,or_false] at hx;subst hx; exact ⟨hmv.mono l,hm⟩) (by simp)
 have hP24:=h.p24;obtain ⟨xa,xc,xb,xd,xe,xf,rfl,_⟩:=id h.sch;obtain ⟨a1,n1,c1,a2,n2,c2,rfl⟩:=h.cof.opn;obtain ⟨na,nc,rfl,_⟩:=id hmv.val;refine Fn0.o func15 ?_;refine G.B 42 2 40 (.agg #[.string (mkS []),.slice none 0 0]) [.agg #[.string (mkS (Af m0)),.slice na M.length nc]] Abw ?_;intro g1 u1 l1 e1;refine G.c call52 (hop u1 l1 _ e1.listP) ?_;rintro v2 u2 l2 ⟨x,ls,es,rfl,k2,hls,hla⟩;obtain ⟨e,rfl,he⟩:=T1 hla;obtain ⟨b,a,n,c,b',a',n',c',g1',g2,rfl,hcn⟩:=Ir k2;obtain ⟨la,lc,rfl⟩:=hls.opn;obtain ⟨bb,ob,rfl,eb⟩:=Ab.at' hls (j:=0) (e:=e) rfl;obtain ⟨pa,pc,fa,fc,rfl,_⟩:=id he.val;refine G.nF 0 0 ?_;refine G.a bb ob 1 lc 0 2 (by omega) ?_;refine G.lU (some 2) bb (ob+0*2) (.agg #[.slice pa P.length pc,.slice fa (P.length+1) fc]) eb ?_;refine G.c call53 (sq0 he k2 (by omega) (h.qok hm)) ?_;intro v3 u3 l3 k3;obtain ⟨b3,a3,n3,c3,b3',a3',n3',c3',rfl⟩:=k3.opn;refine G.c call54 (G0 k3 (hcn.mono l3) (((h.qok hm).sqS (by omega)).mono (by omega)) (h.mom.csz.mono (by omega)) (h.mom.cne h0)) ?_;intro v4 u4 l4 k4;obtain ⟨b4,a4,n4,c4,b4',a4',n4',c4',rfl⟩:=k4.opn;refine G.c call55 (Jj (ht.mono (((l1.trans l2).trans l3).trans l4)) k4 hT) ?_;rintro v5 u5 l5 rfl;exact G.r (.tuple #[.string (mkS (Af (sqC (cfE m0 M) P C / C.c))),.int .i64 0]) ⟨rfl,rfl⟩
theorem Af8 (ht:Lb u)(h:F8 u v cv T R F lab C K k P)(h0:k≠0)(hmv:Jy u mv m0 M)(hm:Ew P m0 M)(hv:Hv C Aq Aq≠0)(hT:Tx (1 - sqC (cfE m0 M) P C / C.c / Hv C Aq Aq)) :
  Fn0 prog 43 [v,cv,mv] u fun r _=>r=.tuple #[.string (mkS (Af (1 - sqC (cfE m0 M) P C / C.c / Hv C Aq Aq))),.int .i64 0]:=by
 have hop:=fun (u':PH) (l:PH.le u u') (mv':Value) (hL:Ab u' mv' 2 ([(mv,m0,M)].map (·.1)))=>K4 true (h.mono l) h0 hL (fun x hx=>by
  simp only [List.mem_cons,List.not_mem_nil,or_false] at hx;subst hx; exact ⟨hmv.mono l,hm⟩) (by simp)
 have hP24:=h.p24;have hcov:=h.mom.cov h0 Aq Aq;have hq0:=Acf ((h.qok hm).sqS (P:=P) (by omega)) h.mom.csz (h.mom.cne h0);have hq1:=Acf hq0 (hcov.szn (by omega) (by omega) (by omega) (by omega)) hv;have c1':((1:Int):Rat)=1:=by decide +kernel
 obtain ⟨xa,xc,xb,xd,xe,xf,rfl,_⟩:=id h.sch;obtain ⟨a1,n1,c1,a2,n2,c2,rfl⟩:=h.cof.opn;obtain ⟨na,nc,rfl,_⟩:=id hmv.val;refine Fn0.o func43 ?_;refine G.B 42 2 40 (.agg #[.string (mkS []),.slice none 0 0]) [.agg #[.string (mkS (Af m0)),.slice na M.length nc]] Abw ?_;intro g1 u1 l1 e1;refine G.c call52 (hop u1 l1 _ e1.listP) ?_;rintro v2 u2 l2 ⟨x,ls,es,rfl,k2,hls,hla⟩;obtain ⟨e,rfl,he⟩:=T1 hla;obtain ⟨b,a,n,c,b',a',n',c',g1',g2,rfl,hcn⟩:=Ir k2;obtain ⟨la,lc,rfl⟩:=hls.opn;obtain ⟨bb,ob,rfl,eb⟩:=Ab.at' hls (j:=0) (e:=e) rfl;obtain ⟨pa,pc,fa,fc,rfl,_⟩:=id he.val;refine G.nF 0 0 ?_;refine G.c call96 M4 ?_;rintro v3 u3 l3 rfl;refine G.c call96 M4 ?_;rintro v4 u4 l4 rfl;refine G.c call95 (Ade Aq Aq (k2.mono (l3.trans l4)) h.mom h0) ?_;intro v5 u5 l5 k5;obtain ⟨b5,a5,n5,c5,b5',a5',n5',c5',rfl⟩:=k5.opn;refine G.c call97 (Vq k5 (Nat.le_trans (hcov.szn (by omega) (by omega) (by omega) (by omega)).1 (by omega))) ?_;rintro v6 u6 l6 rfl;refine G.eF' (sgn (Hv C Aq Aq).num) 0 (fun e=>hv (Aqc.1 e)) ?_;have le6:=((l3.trans l4).trans l5).trans l6;refine G.a bb ob 1 lc 0 2 (by omega) ?_;refine G.lU (some 2) bb (ob+0*2) (.agg #[.slice pa P.length pc,.slice fa (P.length+1) fc]) (eb.mono le6) ?_;refine G.c call98 (L8 (z:=1) (by omega) (by omega)) ?_;intro v7 u7 l7 k7;rw [c1'] at k7;obtain ⟨b7,a7,n7,c7,b7',a7',n7',c7',rfl⟩:=k7.opn;have le7:=le6.trans l7;refine G.c call53 (sq0 (he.mono le7) (k2.mono le7) (by omega) (h.qok hm)) ?_;intro v8 u8 l8 k8;obtain ⟨b8,a8,n8,c8,b8',a8',n8',c8',rfl⟩:=k8.opn;refine G.c call54 (G0 k8 (hcn.mono (le7.trans l8)) (((h.qok hm).sqS (by omega)).mono (by omega)) (h.mom.csz.mono (by omega)) (h.mom.cne h0)) ?_;intro v9 u9 l9 k9;obtain ⟨b9,a9,n9,c9,b9',a9',n9',c9',rfl⟩:=k9.opn;refine G.c call54 (G0 k9 (k5.mono (((l6.trans l7).trans l8).trans l9)) (hq0.mono (by omega)) (hcov.s1000 (by omega) (by omega) (by omega) (by omega)) hv) ?_;intro v10 u10 l10 k10;obtain ⟨b10,a10,n10,c10,b10',a10',n10',c10',rfl⟩:=k10.opn;refine G.c call57 (Lf (k7.mono ((l8.trans l9).trans l10)) k10 ((De.nat (n:=1) (a:=1) (by omega)).s1000 (by omega) (by omega) (by omega) (by omega)) (hq1.mono (by omega))) ?_;intro v11 u11 l11 k11;obtain ⟨b11,a11,n11,c11,b11',a11',n11',c11',rfl⟩:=k11.opn;have le11:=((((l1.trans l2).trans le7).trans l8).trans l9).trans (l10.trans l11);refine G.c call55 (Jj (ht.mono le11) k11 hT) ?_;rintro v12 u12 l12 rfl;exact G.r (.tuple #[.string (mkS (Af (1 - sqC (cfE m0 M) P C / C.c / Hv C Aq Aq))),.int .i64 0]) ⟨rfl,rfl⟩
end
end
section
open Go.RowKit Go.MapKept
def Uh (a0:Rat)(A:List (Par×Rat))(b0:Rat)(B:List (Par×Rat))(e:Option Par):Rat:=cfE a0 A e - cfE b0 B e
theorem Aaj {u:PH}{P:List Par}{x y:Value×Rat×List (Par×Rat)}{es:List Value}(h:Hz u es P [x,y]):∃ e f,es = [e,f]∧Nj u e P (cfE x.2.1 x.2.2)∧Nj u f P (cfE y.2.1 y.2.2):=by
 obtain ⟨h1,h2⟩:=h;obtain ⟨e,he,hl⟩:=h2 0 x rfl;obtain ⟨f,hf,hl2⟩:=h2 1 y rfl
 match es,h1,he,hf with
 | [p,q],_,he,hf=>cases he; cases hf; exact ⟨e,f,rfl,hl,hl2⟩
theorem Ac5 {s s':List UInt8}{a a':Option Addr}{n c n' c':Nat}:A3 2 [.agg #[.string (mkS s),.slice a n c],.agg #[.string (mkS s'),.slice a' n' c']]:=by
 intro x hx;simp only [List.mem_cons,List.not_mem_nil,or_false] at hx;rcases hx with rfl | rfl <;> exact ⟨rfl,List.all_eq_true.1 rfl⟩
section
variable {u:PH} {v cv av bv:Value} {T:List (List UInt8×Nat)} {R:List Bk} {F:List Ao} {lab:Int} {C:CF} {K k:Nat} {P:List Par} {a0 b0:Rat} {A B:List (Par×Rat)}
theorem F8.dok (h:F8 u v cv T R F lab C K k P)(ha:Ew P a0 A)(hb:Ew P b0 B):QOK (Uh a0 A b0 B) C :=
 h.cells fun e=>(Ie (Rw ha e).sz (Rw hb e).sz).mono (by omega)
theorem Ahs (ht:Lb u)(h:F8 u v cv T R F lab C K k P)(h0:k≠0)(hav:Jy u av a0 A)(ha:Ew P a0 A)(hbv:Jy u bv b0 B)(hb:Ew P b0 B)(hT:Tx (Bm (Uh a0 A b0 B) P C / C.c)) :
  Fn0 prog 17 [v,cv,av,bv] u fun r _=>r=.tuple #[.string (mkS (Af (Bm (Uh a0 A b0 B) P C / C.c))),.int .i64 0]:=by
 have hop:=fun (u':PH) (l:PH.le u u') (mv':Value) (hL:Ab u' mv' 2 ([(av,a0,A),(bv,b0,B)].map (·.1)))=>K4 false (h.mono l) h0 hL (fun x hx=>by
  simp only [List.mem_cons,List.not_mem_nil,or_false] at hx;rcases hx with rfl | rfl
  ·exact ⟨hav.mono l,ha⟩
  ·exact ⟨hbv.mono l,hb⟩) (by simp)
 have hP24:=h.p24;have hEl:=Bo P;obtain ⟨xa,xc,xb,xd,xe,xf,rfl,_⟩:=id h.sch;obtain ⟨a1,n1,c1,a2,n2,c2,rfl⟩:=h.cof.opn;obtain ⟨na,nc,rfl,_⟩:=id hav.val;obtain ⟨oa,oc,rfl,_⟩:=id hbv.val;refine Fn0.o func17 ?_;refine G.B 42 2 40 (.agg #[.string (mkS []),.slice none 0 0]) [.agg #[.string (mkS (Af a0)),.slice na A.length nc],.agg #[.string (mkS (Af b0)),.slice oa B.length oc]] Ac5 ?_;intro g1 u1 l1 e1;refine G.c call52 (hop u1 l1 _ e1.listP) ?_;rintro v2 u2 l2 ⟨x,ls,es,rfl,k2,hls,hla⟩;obtain ⟨e,f,rfl,he,hf⟩:=Aaj hla;obtain ⟨mb,ma,mn,mc,mb',ma',mn',mc',g1',g2,rfl,hcn⟩:=Ir k2;obtain ⟨la,lc,rfl⟩:=hls.opn;obtain ⟨bb,ob,rfl,eb⟩:=Ab.at' hls (j:=0) (e:=e) rfl;obtain ⟨bb',ob',eqb,eb2⟩:=Ab.at' hls (j:=1) (e:=f) rfl;cases eqb;obtain ⟨pa,pc,fa,fc,rfl,hpl,es1,hL1,hF1⟩:=id he.val;obtain ⟨pa2,pc2,fa2,fc2,rfl,_,es2,hL2,hF2⟩:=id hf.val;refine G.nF 0 0 ?_;refine G.a bb ob 2 lc 0 2 (by omega) ?_;refine G.f 126 bb (ob+0*2) 0 0 ?_;refine G.lU none bb (ob+0*2+0) (.slice pa P.length pc) (eb.fld (j:=0) (xs:=#[.slice pa P.length pc,.slice fa (P.length+1) fc]) rfl rfl) ?_;refine G.a bb ob 2 lc 0 2 (by omega) ?_;refine G.f 126 bb (ob+0*2) 1 1 ?_;refine G.lU none bb (ob+0*2+1) (.slice fa (P.length+1) fc) (eb.fld (j:=1) (xs:=#[.slice pa P.length pc,.slice fa (P.length+1) fc]) rfl rfl) ?_;refine G.l (ι:=Nat×(Option Addr×Nat)×List Value) (fun i=>[(10,.p 1010 0),(11,.v (.slice (some ⟨bb,ob,none⟩) 2 lc)),(13,.p 4005 0),(37,.v (.slice fa (P.length+1) fc)),(38,.v (.int .i64 ((P.length+1:Nat):Int))),(39,.v (.int .i64 (i.1:Int)))])
  (fun i=>[(1010,⟨120,[.v (.bool mb),.v (.slice ma mn mc),.v (.bool mb'),.v (.slice ma' mn' mc'),.v (.map (some g1')),.v (.map (some g2))]⟩),(4005,⟨126,[.v (.slice pa P.length pc),.v (.slice i.2.1.1 i.2.2.length i.2.1.2)]⟩)])
  (fun i u' m'=>i.1≤P.length+1∧Ge u' i.2.2 (((Ak P).take i.1).map (Uh a0 A b0 B))∧Ae PH.mt m' (.slice i.2.1.1 i.2.2.length i.2.1.2) 116 4 i.2.2) (fun i=>P.length+1 - i.1) (0,(none,0),[]) ⟨by omega,⟨rfl,fun j x hx=>by simp at hx⟩,Ae.nil _ _ _⟩ ?_
 rintro J ⟨i,⟨da,dc⟩,ds⟩ hJ u3 m3 l3 ⟨hi,hD,hA⟩;simp only at hi hD hA hJ;have hdl:ds.length=i:=by rw [hD.1,List.length_map,List.length_take]; omega
 by_cases hlt:i < P.length+1
 ·refine G.lT (i:Int) ((P.length+1:Nat):Int) ?_;obtain ⟨o,hEi⟩:∃ o,(Ak P)[i]?=some o:=⟨_,List.getElem?_eq_getElem (by omega)⟩;have htk:=E6 hEi;obtain ⟨y1,hy1,hfy1⟩:=hF1.2 i (cfE a0 A o) (by rw [List.getElem?_map,hEi]; rfl);obtain ⟨y2,hy2,hfy2⟩:=hF2.2 i (cfE b0 B o) (by rw [List.getElem?_map,hEi]; rfl);obtain ⟨fb,fo,rfl,ef⟩:=Ab.at' (hL1.mono l3) (j:=i) (e:=y1) hy1;obtain ⟨fb2,fo2,rfl,ef2⟩:=Ab.at' (hL2.mono l3) (j:=i) (e:=y2) hy2;have hfy1:=hfy1.mono l3;have hfy2:=hfy2.mono l3;obtain ⟨b4,a4,n4,c4,b4',a4',n4',c4',rfl⟩:=hfy1.opn;obtain ⟨b5,a5,n5,c5,b5',a5',n5',c5',rfl⟩:=hfy2.opn;refine G.a fb fo (P.length+1) fc i 4 hlt ?_;refine G.lU (some 4) fb (fo+i*4) (.agg #[.bool b4,.slice a4 n4 c4,.bool b4',.slice a4' n4' c4']) ef ?_;refine G.a bb ob 2 lc 1 2 (by omega) ?_;refine G.f 126 bb (ob+1*2) 1 1 ?_;refine G.lU none bb (ob+1*2+1) (.slice (some ⟨fb2,fo2,none⟩) (P.length+1) fc2) ((eb2.mono l3).fld (j:=1) (xs:=#[.slice pa2 P.length pc2,.slice (some ⟨fb2,fo2,none⟩) (P.length+1) fc2]) rfl rfl) ?_;refine G.a fb2 fo2 (P.length+1) fc2 i 4 hlt ?_;refine G.lU (some 4) fb2 (fo2+i*4) (.agg #[.bool b5,.slice a5 n5 c5,.bool b5',.slice a5' n5' c5']) ef2 ?_;refine G.c call57 (Lf hfy1 hfy2 ((Rw ha o).sz.mono (by omega)) ((Rw hb o).sz.mono (by omega))) ?_;intro v6 u6 l6 k6;have k6o:=k6.ok;obtain ⟨b6,a6,n6,c6,b6',a6',n6',c6',rfl⟩:=k6.opn;refine G.B 116 4 64 (.agg #[.bool false,.slice none 0 0,.bool false,.slice none 0 0]) [.agg #[.bool b6,.slice a6 n6 c6,.bool b6',.slice a6' n6' c6']] k6o ?_;intro g7 u7 l7 e7;refine G.append 116 4 64 (.agg #[.bool false,.slice none 0 0,.bool false,.slice none 0 0]) PH.mt ds [.agg #[.bool b6,.slice a6 n6 c6,.bool b6',.slice a6' n6' c6']] _ g7 0 1 1 (by kernel_rfl) rfl rfl (by omega) hA e7 k6o rfl (by omega) (by show (ds.length+1)*64≤140737488355328; omega) (by show ds.length+1≤9223372036854775807; omega) ?_;intro v8 m8 hA8;obtain ⟨a8,c8,rfl⟩:=hA8.shape;have hD8:Ge u7 (ds++[.agg #[.bool b6,.slice a6 n6 c6,.bool b6',.slice a6' n6' c6']]) (((Ak P).take (i+1)).map (Uh a0 A b0 B)):=by
   rw [htk,List.map_append];exact (hD.mono (l6.trans l7)).snoc (k6.mono l7)
  refine G.i i ?_;exact G.b (hJ (i+1,(a8,c8),ds++[.agg #[.bool b6,.slice a6 n6 c6,.bool b6',.slice a6' n6' c6']]) _ _ _ cv ((l3.trans l6).trans l7) ⟨by dsimp only; omega,hD8,hA8⟩ (by dsimp only; omega))
 ·obtain rfl:i=P.length+1:=by omega
  refine G.lF ((P.length+1:Nat):Int) ((P.length+1:Nat):Int) ?_;rw [List.take_of_length_le (by omega)] at hD;refine G.give _ _ _ (by kernel_rfl) hA (fun g=>.inl rfl) ?_;intro u10 l10 hLs;have hlin:Nj u10 (.agg #[.slice pa P.length pc,.slice da ds.length dc]) P (Uh a0 A b0 B):=by
   refine ⟨pa,pc,da,dc,by rw [hdl],hpl.mono (l3.trans l10),ds,?_,hD.mono l10⟩;rw [← hdl]; exact hLs
  have hnz:=(h.dok ha hb).nm (P:=P) (by omega);refine G.c call58 (Am3 hlin (k2.mono (l3.trans l10)) (by omega) (h.dok ha hb)) ?_;intro v11 u11 l11 k11;obtain ⟨b11,a11,n11,c11,b11',a11',n11',c11',rfl⟩:=k11.opn;refine G.c call54 (G0 k11 (hcn.mono ((l3.trans l10).trans l11)) (hnz.mono (by omega)) (h.mom.csz.mono (by omega)) (h.mom.cne h0)) ?_;intro v12 u12 l12 k12;obtain ⟨b12,a12,n12,c12,b12',a12',n12',c12',rfl⟩:=k12.opn;refine G.c call55 (Jj (ht.mono (((l1.trans l2).trans ((l3.trans l10).trans l11)).trans l12)) k12 hT) ?_;rintro v13 u13 l13 rfl;exact G.r (.tuple #[.string (mkS (Af (Bm (Uh a0 A b0 B) P C / C.c))),.int .i64 0]) ⟨rfl,rfl⟩
end
end
section
open Go.RowKit Go.MapKept
section
variable {P:List Par} {C:CF} {k:Rat} {m0:Rat} {M:List (Par×Rat)}
theorem Ql (d:Rat):Bm (cfE d []) P C=d*d*C.c:=by
 unfold Bm;rw [Gf,Gf,Bv fun p _=>?_,Bv fun p _=>?_]
 ·show d*C.c*d+0+0=d*d*C.c;grind
 ·exact Bv fun f _=>by
   show 0*As C (some p) f*cfE d [] f=0;grind
 ·show d*As C none (some p)*0=0;grind
theorem Agf (d:Rat):(fun e=>cfE d [] e+cfE m0 M e)=cfE (m0+d) M:=by
 funext e
 cases e with
 | none=>show d+m0=m0+d; grind
 | some p=>show 0+Bi p M=Bi p M; grind
theorem Y9 (h:Fv P C k (cfE m0 M))(d:Rat):sqC (cfE (m0+d) M) P C=sqC (cfE m0 M) P C+d*d*C.c:=by
 have h1:=h.loss (cfE d []);rw [Agf,Ql,Va] at h1;have h2:G9 P (cfE (m0+d) M)=G9 P (cfE m0 M):=rfl;rw [h2] at h1;grind
theorem Aaw (h:Fv P C k (cfE m0 M))(d:Rat):Kf (cfE (m0+d) M) P C=0 - d*C.c:=by
 have h1:=h.bias;unfold Kf at h1 ⊢;rw [Gf] at h1 ⊢;have e1:∀ x:Rat,cfE x M none*As C none none=x*C.c:=fun x=>rfl;rw [e1] at h1 ⊢;have e2:Au (fun p=>cfE (m0+d) M (some p)*As C none (some p)) P=Au (fun p=>cfE m0 M (some p)*As C none (some p)) P:=rfl;rw [e2];grind
theorem Afy (d:Rat):Bm (Uh m0 M (m0+d) M) P C=d*d*C.c:=by
 have e:Uh m0 M (m0+d) M=cfE (-d) []:=by
  funext e
  cases e with
  | none=>show m0 - (m0+d) = -d; grind
  | some p=>show Bi p M - Bi p M=0; grind
 rw [e,Ql]; grind
theorem Aol {q:Rat}{N k:Nat}{b:Option Par→Rat}(hcd:G5 N C)(hN:N≤489888)(hq:Kl q)(hP:P.length≤11)(hS:Iq C k)(hcp:1≤C.c)(hpsd:∀ z,0≤Bm z P C)(hsq:∀ z,0≤sqC z P C)(h:Fv P C q b):De 215 211 (sqC b P C / C.c):=by
 have hc0:0 < C.c:=by
  have h1:(0:Rat) < 1:=by decide +kernel
  grind
 have hne:C.c≠0:=fun e=>by rw [e] at hc0; exact absurd hc0 (by decide +kernel)
 obtain ⟨D,h0,h1,h2⟩:=Ady hcd hN hP hq.thirty hq.pos hc0 hpsd h;have hz:=Ap4 hcd h2;have hvar:=(h.var (Rat.le_of_lt hq.pos) hc0 hpsd).1;have hi:0 < 1 / C.c:=by rw [Rat.div_def,Rat.one_mul]; exact Rat.inv_pos.2 hc0
 have hs0:0≤sqC b P C / C.c:=by
  have:=Rat.mul_nonneg (hsq b) (Rat.le_of_lt hi);grind
 have ht:=(Xu hcd.l hN).2;have hi1:1 / C.c≤1:=by
  have h3:1 / C.c*C.c=1:=by grind
  have:=Rat.mul_nonneg (a:=1 / C.c) (b:=C.c - 1) (Rat.le_of_lt hi) (by grind);grind
 have hcv:Hv C Aq Aq≤3402:=by
  unfold Hv;have h3:0≤C.s Aq / C.c*(C.s Aq / C.c):=by
   rcases (Rat.le_total:0≤C.s Aq / C.c∨C.s Aq / C.c≤0) with h4 | h4
   ·exact Rat.mul_nonneg h4 h4
   ·have:=Rat.mul_nonneg (a:=-(C.s Aq / C.c)) (b:=-(C.s Aq / C.c)) (by grind) (by grind);grind
  have h5:C.t (Ap Aq Aq) / C.c≤3402:=by
   have h6:=Rat.mul_nonneg (a:=3402 - C.t (Ap Aq Aq)) (b:=1 / C.c) (by grind) (Rat.le_of_lt hi);grind
  grind
 have hk0:0 < k:=by
  rcases Nat.eq_zero_or_pos k with e | e
  ·rw [hS.c,e] at hc0; exact absurd hc0 (by decide +kernel)
  ·exact e
 have hk:=hS.lt;refine Amy (D:=D*D*144*k) (m:=3402) (Nat.mul_pos (Nat.mul_pos (Nat.mul_pos h0 h0) (by omega)) hk0) ?_ ?_ ⟨?_,?_⟩ (by decide +kernel)
 ·have:=Di (Di (Di h1 h1) (show 144 < 10 ^ 3 by decide)) (show k < 10 ^ 2 by omega);exact this
 ·have e:sqC b P C / C.c*((D*D*144*k:Nat):Rat)=sqC b P C*((D*D*144:Nat):Rat):=by
   rw [Rat.natCast_mul (D*D*144) k,← hS.c];grind
  rw [e]; exact hz
 ·have e1:((3402:Nat):Rat)=3402:=by decide +kernel
  rw [e1]; grind
 ·have e1:((3402:Nat):Rat)=3402:=by decide +kernel
  rw [e1]; grind
end
end
section
open Go.RowKit Go.MapKept
section
variable {u:PH} {v cv av bv:Value} {T:List (List UInt8×Nat)} {R:List Bk} {F:List Ao} {lab:Int} {C:CF} {K k:Nat} {P:List Par} {a0 b0:Rat} {A B:List (Par×Rat)}
theorem Acw (ht:Lb u)(h:F8 u v cv T R F lab C K k P)(h0:k≠0)(hav:Jy u av a0 A)(ha:Ew P a0 A)(hbv:Jy u bv b0 B)(hb:Ew P b0 B) :
  Fn0 prog 18 [v,cv,av,bv] u fun r _=>r=.tuple #[.int .i64 (sg (sqC (cfE b0 B) P C - sqC (cfE a0 A) P C)),.int .i64 0]:=by
 have hop:=fun (u':PH) (l:PH.le u u') (mv':Value) (hL:Ab u' mv' 2 ([(av,a0,A),(bv,b0,B)].map (·.1)))=>K4 true (h.mono l) h0 hL (fun x hx=>by
  simp only [List.mem_cons,List.not_mem_nil,or_false] at hx;rcases hx with rfl | rfl
  ·exact ⟨hav.mono l,ha⟩
  ·exact ⟨hbv.mono l,hb⟩) (by simp)
 have hP24:=h.p24;have hEl:=Bo P;obtain ⟨xa,xc,xb,xd,xe,xf,rfl,_⟩:=id h.sch;obtain ⟨a1,n1,c1,a2,n2,c2,rfl⟩:=h.cof.opn;obtain ⟨na,nc,rfl,_⟩:=id hav.val;obtain ⟨oa,oc,rfl,_⟩:=id hbv.val;refine Fn0.o func18 ?_;refine G.B 42 2 40 (.agg #[.string (mkS []),.slice none 0 0]) [.agg #[.string (mkS (Af a0)),.slice na A.length nc],.agg #[.string (mkS (Af b0)),.slice oa B.length oc]] Ac5 ?_;intro g1 u1 l1 e1;refine G.c call52 (hop u1 l1 _ e1.listP) ?_;rintro v2 u2 l2 ⟨x,ls,es,rfl,k2,hls,hla⟩;obtain ⟨e,f,rfl,he,hf⟩:=Aaj hla;obtain ⟨mb,ma,mn,mc,mb',ma',mn',mc',g1',g2,rfl,hcn⟩:=Ir k2;obtain ⟨la,lc,rfl⟩:=hls.opn;obtain ⟨bb,ob,rfl,eb⟩:=Ab.at' hls (j:=0) (e:=e) rfl;obtain ⟨bb',ob',eqb,eb2⟩:=Ab.at' hls (j:=1) (e:=f) rfl;cases eqb;obtain ⟨pa,pc,fa,fc,rfl,hpl,es1,hL1,hF1⟩:=id he.val;obtain ⟨pa2,pc2,fa2,fc2,rfl,_,es2,hL2,hF2⟩:=id hf.val;refine G.nF 0 0 ?_;refine G.a bb ob 2 lc 1 2 (by omega) ?_;refine G.lU (some 2) bb (ob+1*2) (.agg #[.slice pa2 P.length pc2,.slice fa2 (P.length+1) fc2]) eb2 ?_;refine G.a bb ob 2 lc 0 2 (by omega) ?_;refine G.lU (some 2) bb (ob+0*2) (.agg #[.slice pa P.length pc,.slice fa (P.length+1) fc]) eb ?_;refine G.c call53 (sq0 hf k2 (by omega) (h.qok hb)) ?_;intro v3 u3 l3 k3;obtain ⟨b3,a3,n3,c3,b3',a3',n3',c3',rfl⟩:=k3.opn;refine G.c call53 (sq0 (he.mono l3) (k2.mono l3) (by omega) (h.qok ha)) ?_;intro v4 u4 l4 k4;obtain ⟨b4,a4,n4,c4,b4',a4',n4',c4',rfl⟩:=k4.opn;refine G.c call59 (Xp (k3.mono l4) k4 (((h.qok hb).sqS (by omega)).mono (by omega)) (((h.qok ha).sqS (by omega)).mono (by omega))) ?_;rintro v5 u5 l5 rfl;exact G.r (.tuple #[.int .i64 (sg (sqC (cfE b0 B) P C - sqC (cfE a0 A) P C)),.int .i64 0]) ⟨rfl,rfl⟩
end
end
section
open Go.RowKit Go.MapKept
variable {F:List Ao}{L:List E7}{R:List Bk}{T:List (List UInt8×Nat)}{lab:Int}{u:PH}
theorem Xi (ok:Bn u T R F lab):∀ l:Nat,lab=(l:Int)→l < T.length:=fun l hl=>by
 obtain ⟨n,hn⟩:=ok.l2 l hl;exact (List.getElem?_eq_some_iff.1 hn).1
theorem Am2 (ok:Bn u T R F lab)(h8:T.length≤8)(hT:∀ y∈L,Cr T y.1∧y.2.1≤7)(h6:L.length≤6):CFD 16 (10 ^ 39) (C8 F lab L):=by
 obtain ⟨d,_⟩:=Wr ok hT;refine d.to (by omega) ?_;have e:12 ^ (16 - 2*T.length)=144 ^ (8 - T.length):=by
  rw [show 16 - 2*T.length=2*(8 - T.length) by omega,Nat.pow_mul]
 have h1:144 ^ (8 - T.length)≤46656 ^ (8 - T.length):=Nat.pow_le_pow_left (by omega) _;have h2:46656 ^ T.length*46656 ^ (8 - T.length)=46656 ^ 8:=by rw [← Nat.pow_add]; congr 1; omega
 have h3:46656 ^ 8*42≤10 ^ 39:=by decide +kernel
 rw [e];have h4:L.length*(46656 ^ T.length*7)*144 ^ (8 - T.length)≤6*(46656 ^ T.length*7)*46656 ^ (8 - T.length):=Nat.mul_le_mul (Nat.mul_le_mul_right _ h6) h1;have h5:6*(46656 ^ T.length*7)*46656 ^ (8 - T.length)=(46656 ^ T.length*46656 ^ (8 - T.length))*42:=by
  generalize 46656 ^ T.length=a;generalize 46656 ^ (8 - T.length)=b;rw [Nat.mul_comm 6,Nat.mul_assoc a 7 6,Nat.mul_assoc a b 42,Nat.mul_assoc a (7*6) b,Nat.mul_comm (7*6) b]
 rw [h5,h2] at h4;exact Nat.le_trans h4 h3
theorem Ag8 (ok:Bn u T R F lab)(h8:T.length≤8)(hT:∀ y∈L,Cr T y.1∧y.2.1≤7)(h6:L.length≤6):∃ k,Iq (C8 F lab L) k:=by
 obtain ⟨k,hk,hk7⟩:=An2 ok.feat ok.l1 (Xi ok) hT;have d:=Am2 ok h8 hT h6;have e2:12 ^ 16 < 10 ^ 18:=by decide +kernel
 obtain ⟨d',_⟩:=Wr ok hT;have e1:L.length*(46656 ^ T.length*7) < 10 ^ 39:=by
  have h1:46656 ^ T.length≤46656 ^ 8:=Nat.pow_le_pow_right (by omega) h8;have h2:46656 ^ 8*42 < 10 ^ 39:=by decide +kernel
  have h3:=Nat.mul_le_mul h6 (Nat.mul_le_mul_right 7 h1);omega
 have e3:12 ^ (2*T.length) < 10 ^ 18:=Nat.lt_of_le_of_lt (Nat.pow_le_pow_right (by omega) (by omega)) e2;exact ⟨k,hk,by omega,fun p=>(d'.s p).de e1 e3,fun p=>(d'.t p).de e1 e3⟩
theorem Ad3 {u:PH}{T:List (List UInt8×Nat)}{R:List Bk}{F:List Ao}{lab:Int}{L:List E7}{xv cv:Value}{P:List Par}(hX:F1 u xv T R F lab)(ok:Bn u T R F lab)(h8:T.length≤8)(hT:∀ y∈L,Cr T y.1∧y.2.1≤7)(h6:L.length≤6)
  (hC:H7 u cv (C8 F lab L) 1530) (hP:R1 F (C8 F lab L) P) (p24:P.length≤24) (lab0:0≤lab):∃ k,F8 u xv cv T R F lab (C8 F lab L) 1530 k P:=by
 obtain ⟨k,hk⟩:=Ag8 ok h8 hT h6;obtain ⟨sC,vC⟩:=S9 ok h8 hT (by omega);exact ⟨k,hX,ok,hC,sC,vC,by omega,Aec,hk,hP,p24,lab0,Am2 ok h8 hT h6⟩
theorem Oy.meas {xv lv cv pv ev:Value}(w:Oy u T R F lab L xv lv cv pv ev) :
  ∃ P k,Ab u pv 2 (P.map An)∧P.length≤20∧F8 u xv cv T R F lab (C8 F lab L) 1530 k P:=by
 obtain ⟨P,_,h1,h2,h3⟩:=w.par;obtain ⟨k,hk⟩:=Ad3 w.sch w.ok w.t8 w.wok.tup w.l6 w.cof h3 (by omega) w.lab0;exact ⟨P,k,h1,h2,hk⟩
end
section
open Go.RowKit Go.MapKept
def Tm:List (List UInt8×Nat):=[([121],2)]
def Yd (g:Nat):List Bk:=[([114],[0],(some ⟨g,0,none⟩,1))]
def Ug (g h:Nat):List E7:=[([[49]],1,(some ⟨g,0,none⟩,1)),([[51]],1,(some ⟨h,0,none⟩,1))]
theorem Apv {u:PH}{g:Nat}(h:Ab u (.slice (some ⟨g,0,none⟩) 1 1) 1 (Ag [0])):Bn u Tm (Yd g) [] 0 where
 att:=⟨Nw (by decide +kernel),fun a ha=>by simp [Tm] at ha; subst ha; decide⟩
 rel:=⟨Nw (by show (([[114]]:List (List UInt8)).all Gw && decide ([[114]]:List (List UInt8)).Nodup)=true; decide +kernel),fun r hr=>by simp [Yd] at hr; subst hr; simp,fun r hr a ha=>by simp [Yd] at hr; subst hr; simp at ha; show a < 1; omega,fun r hr=>by simp [Yd] at hr; subst hr; simp,fun r hr k x y h1 h2=>by
  simp [Yd] at hr; subst hr;simp at h2,fun a ha=>⟨_,List.mem_singleton.2 rfl,by
  have:a < 1:=ha;simp; omega⟩,fun r hr=>by simp [Yd] at hr; subst hr; exact h⟩
 feat:=⟨fun f hf=>by simp at hf,by decide⟩
 t1:=by decide
 t2:=by decide
 r1:=by show 0 < 1; omega
 r2:=by show 1≤6; omega
 f2:=by decide
 l1:=by decide
 l2:=fun l hl=>by
  have:l=0:=by omega
  subst this; exact ⟨[121],rfl⟩
theorem Am7 (t:List UInt8)(v:Rat)(h:∀ n:Fin 19,∀ d:Fin 13,d.val≠0→Af (Rat.divInt ((n.val:Int) - 9) (d.val:Int))=t→Rat.divInt ((n.val:Int) - 9) (d.val:Int)=v){q:Rat}(hq:SmR q)(e:Af q=t):q=v:=by
 have h1:=hq.num;have h2:=hq.le;have h3:=q.den_pos;have h4:=h ⟨(q.num+9).toNat,by omega⟩ ⟨q.den,by omega⟩ (by simpa using by omega);simp only at h4;rw [show (((q.num+9).toNat:Nat):Int) - 9=q.num by omega,Rat.num_divInt_den] at h4;exact h4 e
theorem Alj:SmR 2:=⟨by decide +kernel,by decide +kernel⟩
theorem Vb:SmR 3:=⟨by decide +kernel,by decide +kernel⟩
theorem Amh:K6 [49]=1:=by
 obtain ⟨h1,h2⟩:=P4 (t:=[49]) ⟨1,Ih,by decide +kernel⟩;exact Am7 [49] 1 (by decide +kernel) h1 h2
theorem Alk:K6 [51]=3:=by
 obtain ⟨h1,h2⟩:=P4 (t:=[51]) ⟨3,Vb,by decide +kernel⟩;exact Am7 [51] 3 (by decide +kernel) h1 h2
theorem Adu:Cr Tm [[49]]:=⟨rfl,fun i x t hx ht=>by
 match i,hx,ht with
 | 0,hx,ht=>cases hx; cases ht; exact .inr (.inr (.inr ⟨rfl,1,Ih,by decide +kernel⟩))
 | i+1,hx,ht=>simp [Tm] at hx⟩
theorem Ac6:Cr Tm [[51]]:=⟨rfl,fun i x t hx ht=>by
 match i,hx,ht with
 | 0,hx,ht=>cases hx; cases ht; exact .inr (.inr (.inr ⟨rfl,3,Vb,by decide +kernel⟩))
 | i+1,hx,ht=>simp [Tm] at hx⟩
theorem Amz {t:List UInt8}(ht:Cr Tm [t])(hc:T4 [] 0 [t]=true)(hne:t≠[]):(cfT [] 0 [t]).c=1∧(cfT [] 0 [t]).s Aq=K6 t∧(cfT [] 0 [t]).t (Ap Aq Aq)=K6 t*K6 t:=by
 have hF:Dk Tm [] 0:=⟨fun f hf=>by simp at hf,by decide⟩;have hl:∀ l:Nat,(0:Int)=(l:Int)→l < [t].length:=fun l hl=>by simp; omega
 have hs:(cfT [] 0 [t]).s Aq=K6 t:=Ajr hF ht (by omega) hl hc (a:=0) (by
  rw [Gq (w:=t) rfl];unfold Fg O7;rw [if_pos (show ((0:Nat):Int)=0 from rfl),if_neg hne]; rfl)
 rcases L9 hF ht (by omega) hl with ⟨_,h⟩ | ⟨h,_⟩
 ·exact ⟨h.c,hs,by rw [h.t,hs]⟩
 ·rw [h] at hc; cases hc
theorem Anh (g h:Nat):(C8 [] 0 (Ug g h)).c=2∧(C8 [] 0 (Ug g h)).s Aq=4∧(C8 [] 0 (Ug g h)).t (Ap Aq Aq)=10:=by
 obtain ⟨a1,a2,a3⟩:=Amz Adu (by decide +kernel) (by decide);obtain ⟨b1,b2,b3⟩:=Amz Ac6 (by decide +kernel) (by decide);rw [Amh] at a2 a3;rw [Alk] at b2 b3;refine ⟨?_,?_,?_⟩
 ·show 0+(cfT [] 0 [[49]]).c*((1:Nat):Rat)+(cfT [] 0 [[51]]).c*((1:Nat):Rat)=2;rw [a1,b1]; decide +kernel
 ·show 0+(cfT [] 0 [[49]]).s Aq*((1:Nat):Rat)+(cfT [] 0 [[51]]).s Aq*((1:Nat):Rat)=4;rw [a2,b2]; decide +kernel
 ·show 0+(cfT [] 0 [[49]]).t (Ap Aq Aq)*((1:Nat):Rat)+(cfT [] 0 [[51]]).t (Ap Aq Aq)*((1:Nat):Rat)=10;rw [a3,b3]; decide +kernel
theorem An9 (C:CF):R1 [] C []:=⟨List.Pairwise.nil,fun p=>⟨fun h=>by simp at h,fun h=>by
 rcases h with ⟨i,f,_,hf,_⟩ | ⟨_,i,f,_,hf,_⟩ <;> simp at hf⟩⟩
theorem Abf:Ew [] 2 []:=⟨Alj.tx,fun x hx=>by simp at hx,List.Pairwise.nil,fun x hx=>by simp at hx,by simp⟩
theorem Amk {C:CF}(h1:C.c=2)(h2:C.s Aq=4)(h3:C.t (Ap Aq Aq)=10) :
  Kf (cfE 2 []) [] C / C.c=0∧sqC (cfE 2 []) [] C / C.c=1∧Hv C Aq Aq=1:=by
 have n:Bm (cfE 2 []) [] C=8:=by
  unfold Bm Ak;show 2*C.c*2+0+0=8;rw [h1]; decide +kernel
 refine ⟨?_,?_,?_⟩
 ·unfold Kf Ak;show (C.s Aq - (2*C.c+0)) / C.c=0;rw [h1,h2]; decide +kernel
 ·unfold sqC Ak;rw [n];show (8+C.t (Ap Aq Aq) - 2*(2*C.s Aq+0)) / C.c=1;rw [h1,h2,h3]; decide +kernel
 ·unfold Hv;rw [h1,h2,h3]; decide +kernel
end
section
open Go.RowKit Go.MapKept
theorem We {u:PH}(ht:Lb u):Fn0 prog 8 [] u fun r _=>r=.bool true:=by
 refine Fn0.o func8 ?_;refine G.buildU 92 2 24 (.agg #[.string (mkS []),.int .i64 0]) [.agg #[.string (mkS [121]),.int .i64 ((2:Nat):Int)]] (by kernel_rfl) (fun x hx=>by
  simp only [List.mem_cons,List.not_mem_nil,or_false] at hx;subst hx; exact ⟨rfl,List.all_eq_true.1 rfl⟩) rfl (by omega) (by simp) (by simp) ?_
 intro g1 u1 l1 e1;refine G.B 3 1 8 (.int .i64 0) [.int .i64 ((0:Nat):Int)] (Ax [0]) ?_;intro g2 u2 l2 e2;refine G.buildU 94 2 40 (.agg #[.string (mkS []),.slice none 0 0]) [.agg #[.string (mkS [114]),.slice (some ⟨g2,0,none⟩) 1 1]] (by kernel_rfl) (fun x hx=>by
  simp only [List.mem_cons,List.not_mem_nil,or_false] at hx;subst hx; exact ⟨rfl,List.all_eq_true.1 rfl⟩) rfl (by omega) (by simp) (by simp) ?_
 intro g3 u3 l3 e3;have hsch:F1 u3 (.agg #[.slice (some ⟨g1,0,none⟩) 1 1,.slice (some ⟨g3,0,none⟩) 1 1,.slice none 0 0,.int .i64 0]) Tm (Yd g2) [] 0 :=
  ⟨_,_,_,_,_,_,rfl,e1.listP.mono (l2.trans l3),e3.listP,Ab.nil _ _ _ _⟩
 have hok:Bn u3 Tm (Yd g2) [] 0:=Apv (e2.listP.mono l3);refine G.B 9 1 16 (.string (mkS [])) [.string (mkS [49])] (G4 [[49]]) ?_;intro g4 u4 l4 e4;refine G.B 9 1 16 (.string (mkS [])) [.string (mkS [51])] (G4 [[51]]) ?_;intro g5 u5 l5 e5;refine G.buildU 72 2 32 (.agg #[.slice none 0 0,.int .i64 0]) [.agg #[.slice (some ⟨g4,0,none⟩) 1 1,.int .i64 1],.agg #[.slice (some ⟨g5,0,none⟩) 1 1,.int .i64 1]] (by kernel_rfl) (fun x hx=>by
  simp only [List.mem_cons,List.not_mem_nil,or_false] at hx;rcases hx with rfl | rfl <;> exact ⟨rfl,List.all_eq_true.1 rfl⟩) rfl (by omega) (by simp) (by simp) ?_
 intro g6 u6 l6 e6;have l36:=(l4.trans l5).trans l6;have hrows:Ab u6 (.slice (some ⟨g6,0,none⟩) (Ug g4 g5).length 2) 2 ((Ug g4 g5).map Id):=e6.listP;have hW:WOK u6 Tm (Ug g4 g5):=fun y hy=>by
  simp only [Ug,List.mem_cons,List.not_mem_nil,or_false] at hy;rcases hy with rfl | rfl
  ·exact ⟨e4.listP.mono (l5.trans l6),Adu,Nat.le_refl 1,by show 1≤7; omega⟩
  ·exact ⟨e5.listP.mono l6,Ac6,Nat.le_refl 1,by show 1≤7; omega⟩
 refine G.c call21 (Nl (hsch.mono l36) (hok.mono l36) (by decide) hrows hW (by simp [Ug])) ?_;rintro v7 u7 l7 ⟨x,rfl,k7⟩;have l37:=l36.trans l7;obtain ⟨h1,h2,h3⟩:=Anh g4 g5;obtain ⟨hb0,hq1,hv1⟩:=Amk h1 h2 h3;obtain ⟨k,hMe⟩:=Ad3 (P:=[]) (hsch.mono l37) (hok.mono l37) (by decide) hW.tup (by simp [Ug]) k7 (An9 _) (by simp) (by omega);generalize C8 [] 0 (Ug g4 g5)=C at hMe h1 hb0 hq1 hv1 k7;have h0:k≠0:=by
  rintro rfl;have:=hMe.mom.c;rw [h1] at this;exact absurd this (by decide +kernel)
 obtain ⟨a1,n1,c1,a2,n2,c2,rfl⟩:=k7.opn;have hmv:Jy u7 (.agg #[.string (mkS [50]),.slice none 0 0]) 2 []:=⟨none,0,by rw [Ahw]; rfl,Ab.nil _ _ _ _⟩;have ht7:=ht.mono (((l1.trans l2).trans l3).trans l37);have hvar:Hv C Aq Aq≠0:=by rw [hv1]; decide
 have hB:=Yl ht7 hMe h0 hmv Abf (by rw [hb0]; exact W4);rw [hb0,Hf] at hB;refine G.c call16 hB ?_;rintro v8 u8 l8 rfl;have hE:=Pk (ht7.mono l8) (hMe.mono l8) h0 (hmv.mono l8) Abf (by rw [hq1]; exact Ih.tx);rw [hq1,Yw] at hE;refine G.c call15 hE ?_;rintro v9 u9 l9 rfl;have le9:=l8.trans l9;have hS:=Af8 (ht7.mono le9) (hMe.mono le9) h0 (hmv.mono le9) Abf hvar (by rw [hq1,hv1,show (1:Rat) - 1 / 1=0 by decide +kernel]; exact W4);rw [hq1,hv1,show (1:Rat) - 1 / 1=0 by decide +kernel,Hf] at hS;refine G.c call43 hS ?_;rintro v10 u10 l10 rfl;have le10:=le9.trans l10;have hV:=Wl Aq (ht7.mono le10) (k7.mono le10) hMe.sC hMe.vC (by omega) hMe.mom h0;rw [hv1,Yw] at hV;refine G.c call44 hV ?_;rintro v11 u11 l11 rfl;refine G.eT' 0 0 rfl ?_;refine G.eT' 0 0 rfl ?_;refine G.eT' 0 0 rfl ?_;refine G.eT' 0 0 rfl ?_;refine G.q [48] [48] rfl ?_;refine G.q [49] [49] rfl ?_;refine G.q [48] [48] rfl ?_;refine G.q [49] [49] rfl ?_;exact G.r (.bool true) ⟨rfl,rfl⟩
end
section
open Go.RowKit Go.MapKept
section
variable {u:PH} {v cv mv:Value} {T:List (List UInt8×Nat)} {R:List Bk} {F:List Ao} {lab:Int} {C:CF} {K k:Nat} {P:List Par} {m0:Rat} {M:List (Par×Rat)}
end
end
section
open Go.RowKit Go.MapKept
section
variable [Cc] {P:Program} [Ba P] {fn:Func} {Post:B0} {st:List KI×S} {u m:PH}
theorem G.negI (x z:Int)(h:Al P (adv P st)=.un .neg (.int .i64 x))(hz:IntKind.i64.wrap (-x)=z)(k:G P fn Post (nx (adv P st) (.int .i64 z)) u m):G P fn Post st u m:=by
 refine G.ask h (by simp) (fun env o hview w hp=>?_) k;obtain ⟨t,X,e1,e2⟩:=Xc hview;obtain ⟨dst,opp,type,pos,after,guard⟩:=o;simp only at e1; subst e1;simp [execOp,Op.unary,e2,Op.intArith,hz]
end
theorem Akc {u:PH}{v:Value}{ts:List Int}{d:Int}(hd1:-128≤d)(hd2:d≤127)(ht:Lb u)(hv:Ab u v 1 (Dx ts))(hlo:∀ t∈ts,-9223372036854775808≤t)(hhi:∀ t∈ts,t≤9223372036854775807) :
  Fn0 prog 3 [v,.int .i8 d] u fun v' _=>v'=.bool true:=by
 obtain ⟨a,c,rfl⟩:=hv.opn;rw [B1] at hv ⊢;refine Fn0.o func3 ?_;by_cases h400:400 < ts.length
 ·refine G.gT (ts.length:Int) 400 ?_;refine G.c call8 (We ht) ?_;rintro v1 u1 l1 rfl;exact G.r (.bool true) ⟨rfl,rfl⟩
 refine G.gF (ts.length:Int) 400 ?_;refine G.callO _ _ (by kernel_rfl) call9 (Alv hv (by omega) hlo hhi) ?_;rintro v1 u1 m1 l1 ⟨s,rfl,rfl,hs⟩ _;rw [C2];refine G.A call10 (Aoq hs (Nat.zero_le _)) ?_;rintro v2 u2 m2 l2 ⟨T,R,F,lab,L,xv,lv,cv,pv,ev,k2,rfl,w,hk2,rfl⟩ _;rw [C2];obtain ⟨P,k,hP,hP20,hMe⟩:=w.meas;have ht2:=ht.mono (l1.trans l2);have hPs:=hMe.prm.1;have hcd:=Ae2 w.ok w.ok.l1 (Xi w.ok) (w.wok.tup);have hN:L.length*81648≤489888:=by have:=w.l6; omega
 have hpsd:∀ z,0≤Bm z P (C8 F lab L):=fun z=>Ahu w.ok.feat w.ok.l1 (Xi w.ok) z P fun y hy=>(w.wok.tup y hy).1;have hsq:∀ z,0≤sqC z P (C8 F lab L):=fun z=>Aoh w.ok.feat w.ok.l1 (Xi w.ok) z P fun y hy=>(w.wok.tup y hy).1;obtain ⟨xa,xc,xb,xd,xe,xf,rfl,_⟩:=id w.sch;have hC:=w.cof;clear w;generalize C8 F lab L=C at hMe hC hcd hpsd hsq;generalize L.length*81648=N at hcd hN;obtain ⟨a1,n1,c1,a2,n2,c2,rfl⟩:=id hC.opn;refine G.A call12 (Y7 (hs.mono l2) hk2) ?_;rintro v3 u3 m3 l3 ⟨q,k3,rfl,hq,hk3,rfl⟩ _;rw [C2];refine G.c call11 (Aa8 (hMe.mono l3) hq hcd hN hpsd hsq) ?_;rintro v4 u4 l4 (⟨e,he,rfl⟩ | ⟨h0,hP11,mv,m0,qs,rfl,hmv,hm,hn,hd⟩)
 ·refine G.nT' e 0 he ?_;refine G.drop PH.mt (by kernel_rfl) (PH.mt_le _) ?_;refine G.c call8 (We (ht2.mono (l3.trans l4))) ?_;rintro v5 u5 l5 rfl;exact G.r (.bool true) ⟨rfl,rfl⟩
 obtain ⟨na,nc,rfl,_⟩:=id hmv.val;refine G.nF 0 0 ?_;refine G.drop PH.mt (by kernel_rfl) (PH.mt_le _) ?_;have le4:=l3.trans l4;have hS:=hMe.mom;have hc0:=hS.cpos h0;have hcn:=hS.cne h0;have hcp:1≤C.c:=by
  rw [hS.c];have:((1:Nat):Rat)≤(k:Rat):=Rat.natCast_le_natCast.2 (by omega);simpa using this
 have hdd:(d*d).natAbs≤128*128:=by rw [Int.natAbs_mul]; exact Nat.mul_le_mul (by omega) (by omega)
 have hdD:De 3 1 (d:Rat):=⟨d,1,by rw [show ((1:Nat):Rat)=1 by decide +kernel,Rat.mul_one],by omega,by omega,by decide⟩;have hd2D:De 5 1 ((d:Rat)*(d:Rat)):=⟨d*d,1,by rw [show ((1:Nat):Rat)=1 by decide +kernel,Rat.mul_one,Rat.intCast_mul],by omega,by omega,by decide⟩;have hdT:=hdD.tx (by omega) (by omega) (by omega) (by omega);have hd2T:=hd2D.tx (by omega) (by omega) (by omega) (by omega);have hm0:=hd none (by simp [Ak]);have hm0:De 111 103 m0:=hm0;have hmvT:De 200 104 (m0+(d:Rat)):=(hm0.add hdD (f:=199) (by omega) (by omega)).mono (by omega) (by omega);have hmvx:=hmvT.tx (by omega) (by omega) (by omega) (by omega);have hm':Ew P (m0+(d:Rat)) (P.zip qs):=⟨hmvx,hm.t,hm.srt,hm.sub,hm.len⟩;have her:=Aol hcd hN hq hP11 hS hcp hpsd hsq hn;have herT:=her.tx (by omega) (by omega) (by omega) (by omega);have hsT:Tx (sqC (cfE m0 (P.zip qs)) P C / C.c+(d:Rat)*(d:Rat)):=((her.add hd2D (f:=250) (by omega) (by omega)).mono (c:=300) (d:=300) (by omega) (by omega)).tx (by omega) (by omega) (by omega) (by omega);have e1:sqC (cfE (m0+(d:Rat)) (P.zip qs)) P C / C.c=sqC (cfE m0 (P.zip qs)) P C / C.c+(d:Rat)*(d:Rat):=by rw [Y9 hn]; grind
 have e2:Kf (cfE (m0+(d:Rat)) (P.zip qs)) P C / C.c=((-d:Int):Rat):=by rw [Aaw hn,Rat.intCast_neg]; grind
 have e3:Bm (Uh m0 (P.zip qs) (m0+(d:Rat)) (P.zip qs)) P C / C.c=(d:Rat)*(d:Rat):=by rw [Afy]; grind
 have e4:sqC (cfE (m0+(d:Rat)) (P.zip qs)) P C - sqC (cfE m0 (P.zip qs)) P C=(d:Rat)*(d:Rat)*C.c:=by rw [Y9 hn]; grind
 have hw:=fun (u':PH)=>P3 (u:=u') (z:=d) (by omega) (by omega);simp only [← Oe] at hw;refine G.convI .i8 .i64 .i8 d d (by kernel_rfl) (Cl (by omega) (by omega)) ?_;refine G.c call14 (hw _) ?_;rintro v5 u5 l5 rfl;refine G.c call13 (Wm hm.c hdT hmvx) ?_;rintro v6 u6 l6 rfl;have le6:=(le4.trans l5).trans l6;have hmv6:=hmv.mono (l5.trans l6);have hmw6:Jy u6 (.agg #[.string (mkS (Af (m0+(d:Rat)))),.slice na (P.zip qs).length nc]) (m0+(d:Rat)) (P.zip qs):=by
  obtain ⟨a',c',e',h'⟩:=hmv6.val;simp only [Value.agg.injEq] at e';cases e';exact ⟨_,_,rfl,h'⟩
 refine G.c call15 (Pk (ht2.mono le6) (hMe.mono le6) h0 hmv6 hm herT) ?_;rintro v7 u7 l7 rfl;have le7:=le6.trans l7;have hE7:=Pk (ht2.mono le7) (hMe.mono le7) h0 (hmw6.mono l7) hm' (by rw [e1]; exact hsT);rw [e1] at hE7;refine G.c call15 hE7 ?_;rintro v8 u8 l8 rfl;have le8:=le7.trans l8;have hndT:Tx (((-d:Int):Rat)):=(De.tx (a:=3) (b:=1) ⟨-d,1,by rw [show ((1:Nat):Rat)=1 by decide +kernel,Rat.mul_one],by omega,by omega,by decide⟩) (by omega) (by omega) (by omega) (by omega);have hB8:=Yl (ht2.mono le8) (hMe.mono le8) h0 (hmw6.mono (l7.trans l8)) hm' (by rw [e2]; exact hndT);rw [e2] at hB8;refine G.c call16 hB8 ?_;rintro v9 u9 l9 rfl;have le9:=le8.trans l9;have hD9:=Ahs (ht2.mono le9) (hMe.mono le9) h0 (hmv6.mono ((l7.trans l8).trans l9)) hm (hmw6.mono ((l7.trans l8).trans l9)) hm' (by rw [e3]; exact hd2T);rw [e3] at hD9;refine G.c call17 hD9 ?_;rintro v10 u10 l10 rfl;have le10:=le9.trans l10;have hX10:=Acw (ht2.mono le10) (hMe.mono le10) h0 (hmv6.mono (((l7.trans l8).trans l9).trans l10)) hm (hmw6.mono (((l7.trans l8).trans l9).trans l10)) hm';rw [e4] at hX10;refine G.c call18 hX10 ?_;rintro v11 u11 l11 rfl;have le11:=le10.trans l11;refine G.convI .i8 .i64 .i8 d d (by kernel_rfl) (Cl (by omega) (by omega)) ?_;refine G.convI .i8 .i64 .i8 d d (by kernel_rfl) (Cl (by omega) (by omega)) ?_;refine G.mul d d (d*d) (by kernel_rfl) rfl (by omega) (by omega) ?_;have hw2:=P3 (u:=u11) (z:=d*d) (by omega) (by omega);rw [← Oe,Rat.intCast_mul] at hw2;refine G.c call14 hw2 ?_;rintro v12 u12 l12 rfl;refine G.c call13 (Wm herT hd2T hsT) ?_;rintro v13 u13 l13 rfl;have le13:=(le11.trans l12).trans l13;refine G.nF 0 0 ?_;refine G.nF 0 0 ?_;refine G.nF 0 0 ?_;refine G.nF 0 0 ?_;refine G.nF 0 0 ?_;refine G.y (Af (sqC (cfE m0 (P.zip qs)) P C / C.c+(d:Rat)*(d:Rat))) (Af (sqC (cfE m0 (P.zip qs)) P C / C.c+(d:Rat)*(d:Rat))) rfl ?_;refine G.convI .i8 .i64 .i8 d d (by kernel_rfl) (Cl (by omega) (by omega)) ?_;refine G.negI d (-d) (by kernel_rfl) (Cl (by omega) (by omega)) ?_;have hw3:=P3 (u:=u13) (z:=-d) (by omega) (by omega);rw [← Oe] at hw3;refine G.c call14 hw3 ?_;rintro v14 u14 l14 rfl;refine G.y (Af ((-d:Int):Rat)) (Af ((-d:Int):Rat)) rfl ?_;refine G.y (Af ((d:Rat)*(d:Rat))) (Af ((d:Rat)*(d:Rat))) rfl ?_;by_cases hz:d=0
 ·have es:sg ((d:Rat)*(d:Rat)*C.c)=0:=by
   have e0:(d:Rat)*(d:Rat)*C.c=0:=by rw [hz]; show (0:Rat)*0*C.c=0; grind
   rw [e0]; exact Aed
  refine G.eF (sg ((d:Rat)*(d:Rat)*C.c)) 1 ?_;refine G.cmpG .neq .i8 d 0 false (by kernel_rfl) rfl (by simp [B4,hz]) ?_;refine G.eqB false false (by kernel_rfl) ?_;refine G.c call8 (We (ht2.mono (le13.trans l14))) ?_;rintro v15 u15 l15 rfl;exact G.r (.bool true) ⟨rfl,rfl⟩
 ·have hdr:(d:Rat)≠0:=fun e=>hz (Rat.intCast_inj.1 e);have hpos:0 < (d:Rat)*(d:Rat):=by
   rcases (Rat.le_total:0≤(d:Rat)∨(d:Rat)≤0) with h | h
   ·exact Rat.mul_pos (by grind) (by grind)
   ·have:=Rat.mul_pos (a:=-(d:Rat)) (b:=-(d:Rat)) (by grind) (by grind);grind
  have es:sg ((d:Rat)*(d:Rat)*C.c)=1:=Xs (Rat.mul_pos hpos hc0);refine G.eT' (sg ((d:Rat)*(d:Rat)*C.c)) 1 es ?_;refine G.cmpG .neq .i8 d 0 true (by kernel_rfl) rfl (by simp [B4,hz]) ?_;refine G.eqB true true (by kernel_rfl) ?_;refine G.c call8 (We (ht2.mono (le13.trans l14))) ?_;rintro v15 u15 l15 rfl;exact G.r (.bool true) ⟨rfl,rfl⟩
end
end Go.Proofs.YtanfagpabkdmiaaGreatDoor
