/- Parts of one proof, joined by a program. -/
import Derived.Test.YtabiglokbnfciaaGreatDoorK11
set_option linter.unusedVariables false
set_option linter.unusedSimpArgs false
set_option linter.unusedSectionVars false
set_option maxHeartbeats 16000000
namespace Go.Proofs.YtabiglokbnfciaaGreatDoor
open Go.Proofs.Tryz
section
open Go.RowKit Go.MapKept
variable {A:List (List Rat)}{b l:List Rat}{i j:Nat}{q:Rat}
theorem Apd {m0 m:PH}{v:Value}{t:TypeId}{sz:Nat}{es:List Value}(h:Ae m0 m v t sz es):PH.le m0 m:=by
 rcases h.2 with ⟨_,_,rfl⟩ | ⟨g,cap,rest,hg0,rfl,_⟩
 ·exact PH.le_refl _
 ·exact Kc _ hg0
theorem S7 {n w:Nat}:∀ f c P X d,Rec n w X→Rec n w (Bv f c P X d).2.1
 | 0,_,_,_,_,h=>h
 | f+1,c,P,X,d,h=>by
  rw [Bv];by_cases hP:P.length < X.length
  ·rw [if_pos hP];by_cases hp:Eg X c (X.length - P.length) P.length=X.length
   ·rw [if_pos hp]; exact S7 f _ _ _ _ h
   ·rw [if_neg hp];have hle:=Ry X c (X.length - P.length) P.length;have hn:=h.1;exact S7 f _ _ _ _ (Y0 h (by omega) (by omega))
  ·rw [if_neg hP]; exact h
def Mr (A:List (List Rat))(b:List Rat):List (List Rat):=(List.range A.length).map fun i=>gM A i++[gR b i]
theorem W8 (h:i < A.length):gM (Mr A b) i=gM A i++[gR b i]:=by
 unfold Mr;rw [Amx (r:=gM A i++[gR b i])];rw [List.getElem?_map,List.getElem?_range h]; rfl
theorem Adt (hs:Sq A):Rec A.length (A.length+1) (Mr A b) :=
 ⟨by simp [Mr],fun i hi=>by rw [W8 hi,List.length_append,Ow hi,hs.len hi]; rfl⟩
theorem Anv (h:j < l.length):gR (l++[q]) j=gR l j:=by
 unfold gR; rw [List.getD_eq_getElem?_getD,List.getD_eq_getElem?_getD,List.getElem?_append_left h]
theorem Aml (h:j=l.length):gR (l++[q]) j=q:=by
 subst h;unfold gR; rw [List.getD_eq_getElem?_getD,List.getElem?_append_right (Nat.le_refl _)]; simp
theorem Ajh (hs:Sq A)(hi:i < A.length)(hj:j < A.length):en (Mr A b) i j=en A i j:=by
 unfold en; rw [W8 hi,Anv (by rw [Ow hi,hs.len hi]; exact hj)]
theorem Amt (hs:Sq A)(hi:i < A.length):en (Mr A b) i A.length=gR b i:=by
 unfold en; rw [W8 hi,Aml (by rw [Ow hi,hs.len hi])]
theorem Tq.sz (h:Tq q):Sz q 1:=by
 have h1:=h.num;have h2:=(leW h.den).2;exact ⟨A8 (by simpa using (by omega:q.num.natAbs < 1000000000)),A8 (by simpa using (by omega:q.den < 1000000000))⟩
theorem Anb (hs:Sq A)(hbl:b.length=A.length)(hT:∀ r∈A,∀ q∈r,Tq q)(hbT:∀ q∈b,Tq q):SzM (Mr A b) 1:=W9 (Adt hs) (fun i j hi hj=>by
 by_cases hjn:j < A.length
 ·have hj':j < A[i].length:=by rw [hs.len hi]; exact hjn
  have e:=Ajh (b:=b) hs hi hjn;unfold en at e;rw [e,Ow hi,Mn hj'];exact (hT _ (List.getElem_mem hi) _ (List.getElem_mem hj')).sz
 ·obtain rfl:j=A.length:=by omega
  have e:=Amt (b:=b) hs hi;unfold en at e;have hib:i < b.length:=by omega
  rw [e,Mn hib];exact (hbT _ (List.getElem_mem hib)).sz)
theorem es1 {n:Nat}(h:n≤12):es 1 n≤1000000000:=Nat.le_trans (Agd 1 h) (by decide)
theorem Ae3 {u:PH}{v bv:Value}{A:List (List Rat)}{b:List Rat}(h:N9 u v (Jx A))(hb:Fe u bv (b.map Af))(hs:Sq A)(hbl:b.length=A.length)(h0:0 < A.length)(hT:∀ r∈A,∀ q∈r,Tq q)(hbT:∀ q∈b,Tq q)
  (hsol:∀ y:Nat→Rat,Abz A.length (Mr A b) y→∀ i,i < A.length→Tx (y i)) :
  Fn0 prog 26 [v,bv] u fun r u'=>(∃ e:Int,e≠0∧r=.tuple #[.slice none 0 0,.int .i64 e]) ∨
   ∃ qs lv,r=.tuple #[lv,.int .i64 0]∧qs.length=A.length∧Abz A.length (Mr A b) (gR qs)∧Fe u' lv (qs.map Af):=by
 obtain ⟨a0,c0,rfl⟩:=h.opn;rw [Im] at h ⊢;obtain ⟨a1,c1,rfl⟩:=Ac.opn hb;have hbs:(Cu (b.map Af)).length=A.length:=by simp [Cu,hbl]
 rw [hbs] at hb ⊢;have hle:=hs.le;refine Fn0.o func26 ?_;refine G.c call67 (Afp h hs) ?_;rintro v1 u1 l1 rfl;refine G.nF 0 0 ?_;refine G.nF (A.length:Int) (A.length:Int) ?_;refine G.nF (A.length:Int) (A.length:Int) ?_;have h1:=h.mono l1;have hb1:Fe u1 (.slice a1 A.length c1) (b.map Af):=Ac.mono hb l1;clear h hb;refine G.l (ι:=Nat) (fun i=>[(0,.v (.slice a0 A.length c0)),(1,.v (.slice a1 A.length c1)),(6,.v (.int .i64 (A.length:Int))),(7,.v (.int .i64 (A.length:Int))),(35,.v (.slice a1 A.length c1)),(36,.v (.int .i64 (A.length:Int))),(37,.v (.int .i64 (i:Int)))]) (fun _=>[])
  (fun i u' m'=>i≤A.length∧m'=PH.mt) (fun i=>A.length - i) 0 ⟨by omega,rfl⟩ ?_
 rintro J i hJ u2 m2 l2 ⟨hi,rfl⟩;by_cases hlt:i < A.length
 ·refine G.lT (i:Int) (A.length:Int) ?_;have hib:i < b.length:=by omega
  obtain ⟨b2,o2,rfl,e3⟩:=Ac.at' (Ac.mono hb1 l2) (j:=i) (e:=.string (mkS (Af b[i]))) (by simp [Cu,List.getElem?_eq_getElem hib]);refine G.a b2 o2 A.length c1 i 1 hlt ?_;refine G.lU none b2 (o2+i*1) _ e3 ?_;refine G.c call43 (Cp (hbT _ (List.getElem_mem hib)).tx) ?_;rintro v3 u3 l3 rfl;refine G.i i ?_;exact G.b (hJ (i+1) _ _ _ cv (l2.trans l3) ⟨by omega,rfl⟩ (by omega))
 clear hJ;refine G.lF (i:Int) (A.length:Int) ?_;have h2:=h1.mono l2;have hb2:Fe u2 (.slice a1 A.length c1) (b.map Af):=Ac.mono hb1 l2;clear h1 hb1;refine G.c call68 (Ui (n:=A.length) (w:=A.length) h2 hle hs.row hle hT hle) ?_;rintro v3 u3 l3 rfl;refine G.c call69 (Abh (Ac.mono hb2 l3) (by omega)) ?_;intro v4 u4 l4 hc;refine G.c call68 (Ui (n:=A.length) (w:=1) hc (by simp [T8,hbl,hle]) (by simp [T8]) (by omega) (by simpa [T8] using hbT) hle) ?_;rintro v5 u5 l5 rfl;have lx:=(l3.trans l4).trans l5;refine G.callO _ _ (by kernel_rfl) call70 (Ae2 (h2.mono lx) hs) ?_;rintro v6 u6 m6 l6 ⟨a6,co,rows0,rfl,hQ0,hbag0⟩ _;rw [C2];have hb6:Fe u6 (.slice a1 A.length c1) (b.map Af):=Ac.mono hb2 (lx.trans l6);have hr0:rows0.length=A.length:=hQ0.1;obtain ⟨go,co',eo⟩:=hbag0.ptr 0 rfl (by intro e; simp only [oQ,List.map_eq_nil_iff] at e; rw [e] at hr0; simp at hr0; omega);simp only [oQ,List.length_map,hr0,Value.slice.injEq,true_and] at eo;obtain ⟨rfl,rfl⟩:=eo;clear h2 hb2 hc;refine G.l (ι:=Nat×List (Value×List Value)) (fun i=>[(1,.v (.slice a1 A.length c1)),(6,.v (.int .i64 (A.length:Int))),(7,.v (.int .i64 (A.length:Int))),(11,.v (.slice (some ⟨go,0,none⟩) A.length co)),(57,.v (.int .i64 (A.length:Int))),(58,.v (.int .i64 (i.1:Int)))]) (fun _=>[])
  (fun i u' m'=>i.1≤A.length∧i.2.length=A.length∧(∀ j r,i.2[j]?=some r→AtP QP u' r.2 (gM A j++if j < i.1 then [gR b j] else []))∧Bag m' (oQ (.slice (some ⟨go,0,none⟩) A.length co) i.2::i.2.map Dx)) (fun i=>A.length - i.1) (0,rows0)
  ⟨by omega,hr0,fun j r hj=>by rw [if_neg (by omega),List.append_nil]; exact hQ0.2 j r hj,hbag0⟩ ?_
 clear hbag0 hQ0 hr0;rintro J ⟨i,rows⟩ hJ u7 m7 l7 ⟨hi,hrl,hQ,hbag⟩;simp only at hi hrl hQ hbag hJ;by_cases hlt:i < A.length
 ·refine G.lT (i:Int) (A.length:Int) ?_;have hri:rows[i]?=some rows[i]:=List.getElem?_eq_getElem (by omega);have hAt:=hQ i _ hri;rw [if_neg (Nat.lt_irrefl _),List.append_nil] at hAt;obtain ⟨⟨vi,ei⟩,he⟩:∃ x,rows[i]=x:=⟨_,rfl⟩;rw [he] at hri hAt;simp only at hAt;have hel:ei.length=A.length:=by rw [hAt.1,Ow hlt,hs.len hlt]
  have hqi:(oQ (.slice (some ⟨go,0,none⟩) A.length co) rows::rows.map Dx)[i+1]?=some (Dx (vi,ei)):=by simp [hri]
  obtain ⟨gi,ci,e⟩:=hbag.ptr (i+1) hqi (by intro e; simp only [Dx] at e; rw [e] at hel; simp at hel; omega);simp only [Dx] at e;rw [hel] at e;subst e;have hop:ElP m7 go (0+i*1) (.slice (some ⟨gi,0,none⟩) A.length ci):=hbag.el 0 (x:=oQ _ _) rfl rfl (by simp [oQ,hri]);refine G.a go 0 A.length co i 1 hlt ?_;refine G.lM none go (0+i*1) _ hop ?_;have hib:i < b.length:=by omega
  obtain ⟨b2,o2,rfl,e3⟩:=Ac.at' (Ac.mono hb6 l7) (j:=i) (e:=.string (mkS (Af b[i]))) (by simp [Cu,List.getElem?_eq_getElem hib]);refine G.a b2 o2 A.length c1 i 1 hlt ?_;refine G.lU none b2 (o2+i*1) _ e3 ?_;refine G.c call44 (Eh (hbT _ (List.getElem_mem hib)).tx) ?_;intro v8 u8 l8 k8;obtain ⟨f8,rfl⟩:=k8.opQ;refine G.B 119 4 64 zQ [qv f8] (U9 f8) ?_;intro g9 u9 l9 e9;obtain ⟨mm,hx0,hput⟩:=hbag.focus (i+1) hqi;rw [L5] at hx0;refine G.append 119 4 64 zQ mm ei [qv f8] (.slice (some ⟨gi,0,none⟩) A.length ci) g9 0 1 1 (by kernel_rfl) rfl rfl (by omega) hx0 e9 (U9 f8) rfl (by omega) (by omega) (by omega) ?_;intro v10 m10 hx10;have hb10:=hput (Dx (v10,ei++[qv f8])) m10 hx10;obtain ⟨a10,c10,rfl⟩:=hx10.shape;rw [List.set_cons_succ] at hb10;obtain ⟨mo,hxo,hputo⟩:=hb10.focus 0 rfl;rw [Ahr] at hxo;refine G.a go 0 A.length co i 1 hlt ?_;refine G.storeA 1 mo _ go A.length co i (.slice a10 (ei++[qv f8]).length c10) (by kernel_rfl) hxo (by simp; omega) rfl rfl ?_;intro m11 hx11;rw [show (rows.map (·.1)).set i (Value.slice a10 (ei++[qv f8]).length c10)=(rows.set i (Value.slice a10 (ei++[qv f8]).length c10,ei++[qv f8])).map (·.1) by rw [List.map_set]] at hx11;have hb11:=hputo (oQ (.slice (some ⟨go,0,none⟩) A.length co) (rows.set i (Value.slice a10 (ei++[qv f8]).length c10,ei++[qv f8]))) m11 hx11;rw [List.set_cons_zero,← List.map_set] at hb11;refine G.i i ?_;refine G.b (hJ (i+1,rows.set i (Value.slice a10 (ei++[qv f8]).length c10,ei++[qv f8])) _ _ _ cv ((l7.trans l8).trans l9) ⟨by dsimp only; omega,by dsimp only; rw [List.length_set]; exact hrl,?_,hb11⟩ (by dsimp only; omega));intro j r hj;dsimp only at hj ⊢;rw [List.getElem?_set] at hj;by_cases hij:i=j
  ·subst hij;rw [if_pos rfl,if_pos (by omega)] at hj;cases hj;rw [if_pos (by omega),Mn hib];exact (hAt.mono (fun _ _ k=>k.mono (l8.trans l9))).snoc (k8.mono l9)
  ·rw [if_neg hij] at hj;have h9:=(hQ j r hj).mono (fun _ _ k=>k.mono (l8.trans l9));by_cases hji:j < i
   ·rw [if_pos hji] at h9; rw [if_pos (by omega)]; exact h9
   ·rw [if_neg hji] at h9; rw [if_neg (by omega)]; exact h9
 clear hJ;obtain rfl:i=A.length:=by omega
 refine G.lF (A.length:Int) (A.length:Int) ?_;have hXr:=Adt (b:=b) hs;have hXz:=Anb hs hbl hT hbT;have hQX:QAt u7 rows (Mr A b):=⟨by rw [hrl,hXr.1],fun j r hj=>by
  have hj':j < A.length:=by
   obtain ⟨q1,_⟩:=List.getElem?_eq_some_iff.1 hj;omega
  have h9:=hQ j r hj;rw [if_pos hj'] at h9;rw [W8 hj']; exact h9⟩
 clear hQ hb6;refine G.A call71 (Aie hXr (by omega) (by omega) (by omega) hXz (Nat.le_refl 1) (es1 hle) hQX hbag) ?_;rintro v8 u8 m8 l8 ⟨pa,pc,f,rows',rfl,_,hQ',hbag'⟩ _;rw [C2];have hsol1:=Aae A.length 0 [] (Mr A b) 1 (by omega) rfl hXr (fun i j _ hj=>absurd hj (Nat.not_lt_zero _));have hE:=S7 A.length 0 [] (Mr A b) 1 hXr;generalize hEe:Bv A.length 0 [] (Mr A b) 1=E at *
 by_cases hlt:E.1.length < A.length
 ·refine G.lT (E.1.length:Int) (A.length:Int) ?_;refine G.drop PH.mt (by kernel_rfl) (PH.mt_le _) ?_;exact G.r (.tuple #[.slice none 0 0,.int .i64 6]) ⟨rfl,.inl ⟨6,by omega,rfl⟩⟩
 have hsol2:=hsol1 hlt;have hTx:=hsol _ hsol2;refine G.lF (E.1.length:Int) (A.length:Int) ?_;obtain ⟨m9,hx9,hb9⟩:=hbag';refine G.drop m9 (by kernel_rfl) (Apd hx9) ?_;clear hx9;refine G.l (ι:=Nat×(Option Addr×Nat)×List Value) (fun i=>[(7,.v (.int .i64 (A.length:Int))),(11,.v (.slice (some ⟨go,0,none⟩) A.length co)),(15,.v (.slice i.2.1.1 i.1 i.2.1.2)),(87,.v (.int .i64 (A.length:Int))),(88,.v (.int .i64 (i.1:Int)))]) (fun _=>[])
  (fun i u' m'=>i.1≤A.length∧AtP QP u' i.2.2 ((List.range i.1).map fun k=>en E.2.1 k A.length)∧Bag m' (Dx (.slice i.2.1.1 i.1 i.2.1.2,i.2.2)::oQ (.slice (some ⟨go,0,none⟩) A.length co) rows'::rows'.map Dx)) (fun i=>A.length - i.1) (0,(none,0),[])
  ⟨by omega,AtP.nil,m9,Ae.nil _ _ _,hb9⟩ ?_
 rintro J ⟨i,⟨ra,rc⟩,es⟩ hJ u10 m10 l10 ⟨hi,hAt,hbk⟩;simp only at hi hAt hbk hJ;have hel:es.length=i:=by rw [hAt.1]; simp
 by_cases hli:i < A.length
 ·refine G.lT (i:Int) (A.length:Int) ?_;obtain ⟨gi,ci,ei,hri,hrl2,hAi,hoi,hci⟩:=U5 hbk (hQ'.mono l10) hE hli (by omega);obtain ⟨fi,h5,h6,h7⟩:=hci A.length (by omega);refine G.a go 0 A.length co i 1 hli ?_;refine G.lM none go (0+i*1) _ hoi ?_;refine G.a gi 0 (A.length+1) ci A.length 4 (by omega) ?_;refine G.lM (some 4) gi (0+A.length*4) (qv fi) h7 ?_;refine G.B 119 4 64 zQ [qv fi] (U9 fi) ?_;intro g11 u11 l11 e11;obtain ⟨mm,hx0,hbr⟩:=hbk;rw [L5] at hx0;refine G.append 119 4 64 zQ mm es [qv fi] (.slice ra i rc) g11 0 1 1 (by kernel_rfl) rfl rfl (by omega) hx0 e11 (U9 fi) rfl (by omega) (by omega) (by omega) ?_;intro v12 m12 hx12;obtain ⟨a12,c12,rfl⟩:=hx12.shape;have el:(es++[qv fi]).length=i+1:=by simp [hel]
  rw [el] at hx12 ⊢;refine G.i i ?_;refine G.b (hJ (i+1,(a12,c12),es++[qv fi]) _ _ _ cv (l10.trans l11) ⟨by dsimp only; omega,?_,mm,hx12,hbr⟩ (by dsimp only; omega));dsimp only;rw [List.range_succ,List.map_append];exact (hAt.mono (fun _ _ k=>k.mono l11)).snoc (h6.mono l11)
 clear hJ;obtain rfl:i=A.length:=by omega
 refine G.lF (A.length:Int) (A.length:Int) ?_;refine G.giveP (ma:=m10) (sm:=PH.mt) (by kernel_rfl) (by funext g; unfold PH.or; cases m10 g <;> rfl) (fun g=>.inr rfl) (fun g=>.inl rfl) ?_
 intro u12 l12 hm12;obtain ⟨mf,hxf,_⟩:=hbk.focus 0 rfl;rw [L5] at hxf;have hL:Ac u12 (.slice ra es.length rc) 4 es:=by rw [hel]; simpa [hel] using hxf.list hm12
 rw [hel] at hL;refine G.c call72 (Aiy hL (hAt.mono (fun _ _ k=>k.mono l12)) (by
  intro q hq;obtain ⟨k,hk,rfl⟩:=List.mem_map.1 hq;exact hTx k (List.mem_range.1 hk)) (by simp; omega)) ?_
 rintro v13 u13 l13 ⟨lv,rfl,hS⟩;refine G.r (.tuple #[lv,.int .i64 0]) ⟨rfl,.inr ⟨_,lv,rfl,by simp,?_,hS⟩⟩;have hg:∀ k,k < A.length→gR ((List.range A.length).map fun k=>en E.2.1 k A.length) k=en E.2.1 k A.length:=fun k hk=>Ac9 (by rw [List.getElem?_map,List.getElem?_range hk]; rfl);intro k hk;rw [← hsol2 k hk];exact Er (fun j hj=>by rw [hg j hj])
end
section
open Go.RowKit Go.MapKept
variable {i j:Nat}{m0:Rat}{qs:List Rat}{z:Int}
theorem Ag4 {q:Rat}{D:Nat}(h:q*(D:Rat)=(z:Rat))(h0:0 < D):q.den ∣ D∧q.num.natAbs≤z.natAbs:=by
 have hq:q=Rat.divInt z (D:Int):=by
  rw [Rat.divInt_eq_div,Rat.intCast_natCast,← h];have:=Pw h0;grind
 obtain ⟨e1,e2,e3⟩:=Ju (y:=z) (z:=(D:Int)) (by omega);rw [hq];constructor
 ·have h2:((Rat.divInt z (D:Int)).den:Int)=((D / Nat.gcd z.natAbs D:Nat):Int):=by
   rw [e2,show ((D:Int)).natAbs=D from rfl,Int.tdiv_eq_ediv_of_nonneg (by omega),← Int.natCast_ediv]
  rw [Int.ofNat.inj h2];exact Nat.div_dvd_of_dvd (Nat.gcd_dvd_right _ _)
 ·rw [e1,Int.natAbs_tdiv];exact Nat.div_le_self _ _
theorem Apc {q:Rat}(h:q*((4320:Nat):Rat)=(z:Rat))(hz:z.natAbs≤15000000):Tq q:=by
 obtain ⟨h1,h2⟩:=Ag4 h (by omega);exact ⟨De.tx (a:=8) (b:=4) ⟨z,4320,h,by omega,by omega,by omega⟩ (by omega) (by omega) (by omega) (by omega),h1,by omega⟩
theorem Am9 {x t:Rat}{N:Nat}(h:Dn 2 N x)(hN:N≤489888)(ht:∃ p:Int,t*30=p∧p.natAbs≤90):Tq (x+t):=by
 obtain ⟨z,h1,h2⟩:=h;obtain ⟨p,h3,h4⟩:=ht;refine Apc (z:=z*30+p*144) ?_ (by omega);have e:((12 ^ 2:Nat):Rat)=144:=by decide +kernel
 have e2:((4320:Nat):Rat)=4320:=by decide +kernel
 have e3:((30:Int):Rat)=30:=by decide +kernel
 have e4:((144:Int):Rat)=144:=by decide +kernel
 rw [e] at h1;rw [Rat.intCast_add,Rat.intCast_mul,Rat.intCast_mul,← h1,← h3,e2,e3,e4];grind
section
variable {P:List Par} {C:CF} {q:Rat} {N:Nat}
def P0 (C:CF)(P:List Par)(q:Rat):List (List Rat):=Gg q (Na C P) (P.length+1)
def Zo (C:CF)(P:List Par):List Rat:=(Am P).map (Ay C)
theorem Nu:Rec (P.length+1) (P.length+1) (P0 C P q):=No (Ti C P) _ (Nat.le_refl _)
theorem Aii (hi:i < P.length+1)(hj:j < P.length+1):en (P0 C P q) i j=Av C ((Am P).getD i none) ((Am P).getD j none)+if i=j∧0 < i then q else 0:=by
 unfold P0;rw [Wp (Ti C P) _ (Nat.le_refl _) i j hi hj,Ady C P hi hj];have:(if i=j∧0 < i∧i < P.length+1 then q else 0)=if i=j∧0 < i then q else 0:=by simp [hi]
 rw [this]
theorem Ag7:(Zo C P).length=P.length+1:=by unfold Zo; rw [List.length_map,Bt]
theorem Alz (hi:i < P.length+1):gR (Zo C P) i=Ay C ((Am P).getD i none):=by
 have h1:=Bt P;refine Ac9 ?_;unfold Zo;rw [List.getElem?_map,List.getD_eq_getElem?_getD,List.getElem?_eq_getElem (by omega)]; rfl
theorem Ai8 (hcd:Gk N C)(hN:N≤489888)(hq:Kk q):∀ r∈P0 C P q,∀ x∈r,Tq x:=by
 intro r hr x hx;have hA:=Nu (P:=P) (C:=C) (q:=q);obtain ⟨i,hi,rfl⟩:=List.mem_iff_getElem.1 hr;obtain ⟨j,hj,rfl⟩:=List.mem_iff_getElem.1 hx;have hi':i < P.length+1:=by have:=hA.1; omega
 have hj':j < P.length+1:=by have:=hA.2 i hi'; rw [Ow hi] at this; omega
 have e:=Aii (P:=P) (C:=C) (q:=q) hi' hj';unfold en at e;rw [Ow hi,Mn hj] at e;rw [e];refine Am9 (hcd.c _ _) hN ?_;split
 ·exact hq.thirty
 ·exact ⟨0,by decide +kernel,by decide⟩
theorem Amm (hcd:Gk N C)(hN:N≤489888):∀ x∈Zo C P,Tq x:=by
 intro x hx;obtain ⟨e,_,rfl⟩:=List.mem_map.1 hx;have h:=Am9 (t:=0) (hcd.r e) hN ⟨0,by decide +kernel,by decide⟩;rwa [Rat.add_zero] at h
theorem Aga (hcd:Gk N C)(hN:N≤489888)(hq:Kk q)(hP:P.length≤11):Sq (P0 C P q):=by
 have hA:=Nu (P:=P) (C:=C) (q:=q);refine ⟨by rw [hA.1]; omega,fun r hr=>?_,fun r hr x hx=>(Ai8 hcd hN hq r hr x hx).tx⟩;obtain ⟨i,hi,rfl⟩:=List.mem_iff_getElem.1 hr;have:=hA.2 i (by have:=hA.1; omega);rw [Ow hi] at this;rw [this,hA.1]
theorem Qp {y:Nat→Rat}{bE:Option Par→Rat}(hs:Sq (P0 C P q))(h:Abz (P0 C P q).length (Mr (P0 C P q) (Zo C P)) y)(hb:∀ j,j < P.length+1→bE ((Am P).getD j none)=y j):G4 P C q bE:=by
 have hA:=Nu (P:=P) (C:=C) (q:=q);intro e he;obtain ⟨i,hi,rfl⟩:=List.mem_iff_getElem.1 he;have hei:(Am P)[i]=(Am P).getD i none:=by rw [List.getD_eq_getElem?_getD,List.getElem?_eq_getElem hi]; rfl
 rw [hei];rw [Bt] at hi;have hiA:i < (P0 C P q).length:=by rw [hA.1]; exact hi
 have h1:=h i hiA;rw [Amt hs hiA,Alz hi,Er (g:=fun j=>Av C ((Am P).getD i none) ((Am P).getD j none)*bE ((Am P).getD j none)+(if i=j∧0 < i then q else 0)*y j) (fun j hj=>by
  have hj':j < P.length+1:=by have:=hA.1; omega
  rw [Ajh hs hiA hj,Aii hi hj',hb j hj']; grind),hA.1,Zt,Zc] at h1
 have hpen:Ko q bE ((Am P).getD i none)=if i < P.length+1∧0 < i then q*y i else 0:=by
  cases i with
  | zero=>rw [if_neg (by omega)]; rfl
  | succ j =>
   rw [if_pos ⟨hi,by omega⟩,← hb _ hi];unfold Am;rw [List.getD_cons_succ,List.getD_eq_getElem?_getD,List.getElem?_map,List.getElem?_eq_getElem (by omega)]; rfl
 rw [Rx _ (Am P) none,Bt,hpen];exact h1
theorem Afu (hP:P.Nodup)(hl:qs.length=P.length)(hj:j < P.length):Bm P[j] (P.zip qs)=gR qs j:=by
 have hjq:j < qs.length:=by omega
 rw [Mn hjq];refine F4 ?_ (List.mem_iff_getElem.2 ⟨j,by simp; omega,by simp⟩);have e:(P.zip qs).map (·.1)=P:=List.map_fst_zip (by omega);rw [e]; exact hP
theorem Ahk (hP:P.Nodup)(hl:qs.length=P.length):∀ j,j < P.length+1→cfE m0 (P.zip qs) ((Am P).getD j none)=gR (m0::qs) j:=by
 intro j hj;cases j with
 | zero=>rfl
 | succ j =>
  unfold Am;rw [List.getD_cons_succ,List.getD_eq_getElem?_getD,List.getElem?_map,List.getElem?_eq_getElem (by omega)];show Bm P[j] (P.zip qs)=gR (m0::qs) (j+1);rw [Afu hP hl (by omega)]; rfl
theorem Aj5 (hi:i < P.length+1):(Am P).getD i none∈Am P:=by
 have:=Bt P;rw [List.getD_eq_getElem?_getD,List.getElem?_eq_getElem (by omega)]; exact List.getElem_mem _
theorem Ac2 {b:Option Par→Rat}(hcd:Gk N C)(hN:N≤489888)(hq:Kk q)(hP:P.length≤11)(hcp:1≤C.c)(hpsd:∀ z,0≤Bx z P C)(hsq:∀ z,0≤sqC z P C)(h:G4 P C q b):∀ e∈Am P,De 111 103 (b e):=by
 have hc0:0 < C.c:=by
  have h1:(0:Rat) < 1:=by decide +kernel
  grind
 obtain ⟨D,h0,h1,h2⟩:=Adl hcd hN hP hq.thirty hq.pos hc0 hpsd h;exact An2 h0 h1 h2 (Alp hcd hN hP hq.thirty hq.pos hcp hpsd (hsq b) h)
theorem Anf (hnd:P.Nodup)(hcd:Gk N C)(hN:N≤489888)(hq:Kk q)(hP:P.length≤11)(hcp:1≤C.c)(hpsd:∀ z,0≤Bx z P C)(hsq:∀ z,0≤sqC z P C)(y:Nat→Rat)(h:Abz (P0 C P q).length (Mr (P0 C P q) (Zo C P)) y) :
  ∀ i,i < (P0 C P q).length→Tx (y i):=by
 intro i hi;have hA:=Nu (P:=P) (C:=C) (q:=q);have hi':i < P.length+1:=by have:=hA.1; omega
 have hb:∀ j,j < P.length+1→cfE (y 0) (P.zip ((List.range P.length).map fun j=>y (j+1))) ((Am P).getD j none)=y j:=fun j hj=>by
  rw [Ahk hnd (by simp) j hj];cases j with
  | zero=>rfl
  | succ j=>exact Ac9 (by rw [List.getElem?_cons_succ,List.getElem?_map,List.getElem?_range (by omega)]; rfl)
 have hn:=Qp (Aga hcd hN hq hP) h hb;have hd:=Ac2 hcd hN hq hP hcp hpsd hsq hn _ (Aj5 hi');rw [hb i hi'] at hd;exact hd.tx (by omega) (by omega) (by omega) (by omega)
theorem An4 (hs:Ee A7 P)(hl:qs.length=P.length)(hd:∀ e∈Am P,De 111 103 (cfE m0 (P.zip qs) e)):Gh P m0 (P.zip qs):=by
 have e:(P.zip qs).map (·.1)=P:=List.map_fst_zip (by omega);have hnd:=hs.nodup Do;refine ⟨(hd none (by simp [Am])).tx (by omega) (by omega) (by omega) (by omega),fun x hx=>?_,by rw [e]; exact hs,fun x hx=>?_,by simp; omega⟩
 ·have hm:x.1∈P:=by rw [← e]; exact List.mem_map_of_mem hx
  have h1:=hd (some x.1) (by simp [Am,hm]);have h2:cfE m0 (P.zip qs) (some x.1)=x.2:=F4 (by rw [e]; exact hnd) hx;rw [h2] at h1;exact h1.tx (by omega) (by omega) (by omega) (by omega)
 ·rw [← e]; exact List.mem_map_of_mem hx
end
theorem Acq {u:PH}{v cv:Value}{T:List (List UInt8×Nat)}{R:List Bi}{F:List Ap}{lab:Int}{C:CF}{K k N:Nat}{P:List Par}{q:Rat}(h:G3 u v cv T R F lab C K k P)(hq:Kk q)(hcd:Gk N C)(hN:N≤489888)(hpsd:∀ z,0≤Bx z P C)(hsq:∀ z,0≤sqC z P C) :
  Fn0 prog 8 [v,cv,.string (mkS (Af q))] u fun r u'=>(∃ e:Int,e≠0∧r=.tuple #[.agg #[.string (mkS []),.slice none 0 0],.int .i64 e]) ∨
   (k≠0∧P.length≤11∧∃ mv m0 qs,r=.tuple #[mv,.int .i64 0]∧Kn u' mv m0 (P.zip qs)∧Gh P m0 (P.zip qs)∧G4 P C q (cfE m0 (P.zip qs))∧∀ e∈Am P,De 111 103 (cfE m0 (P.zip qs) e)):=by
 have hsy:=Zs h hq;have hss:=h.prm.1;have hmom:=h.mom;obtain ⟨xa,xc,xb,xd,xe,xf,rfl,_⟩:=id h.sch;obtain ⟨a1,n1,c1,a2,n2,c2,rfl⟩:=id h.cof.opn;refine Fn0.o func8 ?_;refine G.c call25 hsy ?_;rintro v1 u1 l1 (⟨e,he,rfl⟩ | ⟨hk,hP11,pa,pc,ya,yc,ra,rc,rfl,hPL,hM,hR⟩)
 ·refine G.nT' e 0 he ?_;exact G.r (.tuple #[.agg #[.string (mkS []),.slice none 0 0],.int .i64 e]) ⟨rfl,.inl ⟨e,he,rfl⟩⟩
 refine G.nF 0 0 ?_;have hcp:1≤C.c:=by
  rw [hmom.c];have:((1:Nat):Rat)≤(k:Rat):=Rat.natCast_le_natCast.2 (by omega);simpa using this
 have hA:=Nu (P:=P) (C:=C) (q:=q);have hnd:=hss.nodup Do;have hsQ:=Aga hcd hN hq hP11;refine G.c call26 (Ae3 (A:=P0 C P q) (b:=Zo C P) hM hR hsQ (by rw [Ag7,hA.1]) (by rw [hA.1]; omega) (Ai8 hcd hN hq) (Amm hcd hN) (Anf hnd hcd hN hq hP11 hcp hpsd hsq)) ?_;rintro v2 u2 l2 (⟨e,he,rfl⟩ | ⟨qs,lv,rfl,hql,hsol,hS⟩)
 ·refine G.nT' e 0 he ?_;exact G.r (.tuple #[.agg #[.string (mkS []),.slice none 0 0],.int .i64 e]) ⟨rfl,.inl ⟨e,he,rfl⟩⟩
 rw [hA.1] at hql;cases qs with
 | nil=>simp at hql
 | cons m0 qs =>
  have hlen:qs.length=P.length:=by simpa using hql
  have hn:=Qp hsQ hsol (Ahk hnd hlen);have hd:=Ac2 hcd hN hq hP11 hcp hpsd hsq hn;have hok:=An4 hss hlen hd;have hT:∀ x∈qs,Tx x:=fun x hx=>by
   obtain ⟨j,hj,rfl⟩:=List.mem_iff_getElem.1 hx;exact hok.t (P[j],qs[j]) (List.mem_iff_getElem.2 ⟨j,by simp; omega,by simp⟩)
  obtain ⟨la,lc,hlv⟩:=Ac.opn hS;subst hlv;refine G.nF 0 0 ?_;refine G.c call27 (Acs (hPL.mono l2) hS hss hlen (by omega) hok.c hT) ?_;rintro v3 u3 l3 ⟨mv,rfl,hmv⟩;obtain ⟨ma,mc,rfl,_⟩:=id hmv.val;exact G.r (.tuple #[.agg #[.string (mkS (Af m0)),.slice ma (P.zip qs).length mc],.int .i64 0]) ⟨rfl,.inr ⟨hk,hP11,_,m0,qs,rfl,hmv,hok,hn,hd⟩⟩
end
section
open Go.RowKit Go.MapKept
section
variable {P:List Par} {C:CF} {q:Rat} {N k:Nat} {b:Option Par→Rat}
theorem Akj (hcd:Gk N C)(hN:N≤489888)(hS:Hy C k)(hv:0 < Cq C Al Al)(hc:0 < C.c):∃ w:Nat,0 < w∧w < 10 ^ 10∧(w:Rat)=Cq C Al Al*(C.c*C.c*144*144):=by
 obtain ⟨z1,h1,h1b⟩:=hcd.l;obtain ⟨z2,h2,h2b⟩:=hcd.r none;have e:((12 ^ 2:Nat):Rat)=144:=by decide +kernel
 rw [e] at h1 h2;have h2:C.s Al*144=(z2:Rat):=h2;have hne:C.c≠0:=fun e=>by rw [e] at hc; exact absurd hc (by decide +kernel)
 have hW:Cq C Al Al*(C.c*C.c*144*144)=((z1*((k*144:Nat):Int) - z2*z2:Int):Rat):=by
  rw [Rat.intCast_sub,Rat.intCast_mul,Rat.intCast_mul,← h1,← h2,Rat.intCast_natCast,Rat.natCast_mul,← hS.c];have e3:((144:Nat):Rat)=144:=by decide +kernel
  rw [e3];unfold Cq;grind
 have hcc:0 < C.c*C.c:=Rat.mul_pos hc hc;have h144:(0:Rat) < 144:=by decide +kernel
 have hpos:0 < Cq C Al Al*(C.c*C.c*144*144):=Rat.mul_pos hv (Rat.mul_pos (Rat.mul_pos hcc h144) h144);rw [hW] at hpos;have hp:0 < z1*((k*144:Nat):Int) - z2*z2:=Rat.intCast_pos.1 hpos;obtain ⟨w,hw⟩:∃ w:Nat,z1*((k*144:Nat):Int) - z2*z2=(w:Int):=⟨(z1*((k*144:Nat):Int) - z2*z2).toNat,by omega⟩;refine ⟨w,by omega,?_,by rw [hW,hw,Rat.intCast_natCast]⟩;have hk:=hS.lt;have hb1:(z1*((k*144:Nat):Int)).natAbs≤489888*14400:=by
  rw [Int.natAbs_mul,Int.natAbs_natCast];exact Nat.mul_le_mul (by omega) (by omega)
 have hb2:0≤z2*z2:=by rw [← Int.natAbs_mul_self]; omega
 have e10:(10:Nat) ^ 10=10000000000:=by decide
 rw [e10];generalize z1*((k*144:Nat):Int)=A at *
 generalize z2*z2=B at *
 omega
theorem Z2 (hcd:Gk N C)(hN:N≤489888)(hq:Kk q)(hP:P.length≤11)(hS:Hy C k)(hcp:1≤C.c)(hpsd:∀ z,0≤Bx z P C)(hsq:∀ z,0≤sqC z P C)(hv:Cq C Al Al≠0)(h:G4 P C q b) :
  De 217 216 (1 - sqC b P C / C.c / Cq C Al Al)∧0≤1 - sqC b P C / C.c / Cq C Al Al∧1 - sqC b P C / C.c / Cq C Al Al≤1:=by
 have hc0:0 < C.c:=by
  have h1:(0:Rat) < 1:=by decide +kernel
  grind
 have hne:C.c≠0:=fun e=>by rw [e] at hc0; exact absurd hc0 (by decide +kernel)
 obtain ⟨D,h0,h1,h2⟩:=Adl hcd hN hP hq.thirty hq.pos hc0 hpsd h;have hz:=Apv hcd h2;have hvar:=(h.var (Rat.le_of_lt hq.pos) hc0 hpsd).1;have hi:0 < 1 / C.c:=by rw [Rat.div_def,Rat.one_mul]; exact Rat.inv_pos.2 hc0
 have hs0:0≤sqC b P C / C.c:=by
  have:=Rat.mul_nonneg (hsq b) (Rat.le_of_lt hi);grind
 have hv0:0 < Cq C Al Al:=by grind
 have hiv:0 < 1 / Cq C Al Al:=by rw [Rat.div_def,Rat.one_mul]; exact Rat.inv_pos.2 hv0
 have hr0:0≤sqC b P C / C.c / Cq C Al Al:=by
  have:=Rat.mul_nonneg hs0 (Rat.le_of_lt hiv);grind
 have hr1:sqC b P C / C.c / Cq C Al Al≤1:=by
  have:=Rat.mul_nonneg (a:=Cq C Al Al - sqC b P C / C.c) (b:=1 / Cq C Al Al) (by grind) (Rat.le_of_lt hiv);grind
 refine ⟨?_,by grind,by grind⟩;obtain ⟨w,hw0,hw,hwe⟩:=Akj hcd hN hS hv0 hc0;refine Amr (D:=D*D*w) (m:=1) (Nat.mul_pos (Nat.mul_pos h0 h0) hw0) ?_ ?_ ⟨?_,?_⟩ (by decide +kernel)
 ·have:=D1 (D1 h1 h1) hw;exact this
 ·have e:(1 - sqC b P C / C.c / Cq C Al Al)*((D*D*w:Nat):Rat)=(D:Rat)*(D:Rat)*(w:Rat) - (sqC b P C*((D*D*144:Nat):Rat))*(C.c*144):=by
   rw [Rat.natCast_mul,Rat.natCast_mul,Rat.natCast_mul,Rat.natCast_mul,show ((144:Nat):Rat)=144 by decide +kernel];have hx:sqC b P C / C.c / Cq C Al Al*((D:Rat)*(D:Rat)*(w:Rat))=sqC b P C*((D:Rat)*(D:Rat)*144)*(C.c*144):=by
    rw [hwe]; grind
   rw [← hx];generalize sqC b P C / C.c / Cq C Al Al=x;grind
  rw [e];refine (((IsZ.nat D).mul (IsZ.nat D)).mul (IsZ.nat w)).sub (hz.mul ?_);rw [hS.c];exact (IsZ.nat k).mul (IsZ.nat 144)
 ·have e1:(((1:Nat)):Rat)=1:=by decide +kernel
  rw [e1]; grind
 ·have e1:(((1:Nat)):Rat)=1:=by decide +kernel
  rw [e1]; grind
end
end
section
open Go.RowKit Go.MapKept
variable {P:List Par}{a:Option Addr}{c n:Nat}{u:PH}
abbrev Ako:Type:=List (Value×Rat×List (Par×Rat))
def Hi (u:PH)(es:List Value)(P:List Par)(Ms:Ako):Prop:=es.length=Ms.length∧∀ (j:Nat) (x:Value×Rat×List (Par×Rat)),Ms[j]?=some x→∃ e,es[j]?=some e∧Pq u e P (cfE x.2.1 x.2.2)
theorem Hi.mono {u u':PH}{es:List Value}{P:List Par}{Ms:Ako}(h:Hi u es P Ms)(hl:PH.le u u'):Hi u' es P Ms :=
 ⟨h.1,fun j x hx=>by obtain ⟨e,h1,h2⟩:=h.2 j x hx; exact ⟨e,h1,h2.mono hl⟩⟩
theorem Hi.snoc {es:List Value}{Ms:Ako}{e:Value}{x:Value×Rat×List (Par×Rat)}(h:Hi u es P Ms)(he:Pq u e P (cfE x.2.1 x.2.2)):Hi u (es++[e]) P (Ms++[x]):=by
 refine ⟨by simp [h.1],fun j y hy=>?_⟩;rcases Nat.lt_or_ge j Ms.length with hj | hj
 ·rw [List.getElem?_append_left hj] at hy;obtain ⟨e',h1,h2⟩:=h.2 j y hy;exact ⟨e',by rw [List.getElem?_append_left (by rw [h.1]; exact hj)]; exact h1,h2⟩
 ·rw [List.getElem?_append_right hj] at hy;have h0:j - Ms.length=0:=by
   have:=(List.getElem?_eq_some_iff.1 hy).1;simp at this; omega
  rw [h0] at hy;cases hy;exact ⟨e,by rw [List.getElem?_append_right (by rw [h.1]; exact hj),h.1,h0]; rfl,he⟩
theorem Aip {a a':Option Addr}{n c n' c':Nat}:A3 2 [.agg #[.slice a n c,.slice a' n' c']]:=by
 intro x hx;simp only [List.mem_cons,List.not_mem_nil,or_false] at hx;subst hx; exact ⟨rfl,List.all_eq_true.1 rfl⟩
theorem Xg {s:List UInt8}:A3 2 [.agg #[.string (mkS s),.slice a n c]]:=by
 intro x hx;simp only [List.mem_cons,List.not_mem_nil,or_false] at hx;subst hx; exact ⟨rfl,List.all_eq_true.1 rfl⟩
theorem G3.csgn {v cv:Value}{T:List (List UInt8×Nat)}{R:List Bi}{F:List Ap}{lab:Int}{C:CF}{K k:Nat}(h:G3 u v cv T R F lab C K k P)(h0:k≠0):¬ sgn C.c.num≤0:=by
 have h1:C.c.num=(k:Int):=by rw [h.mom.c]; exact Rat.num_natCast k
 rw [h1,B8 (by omega)]; omega
theorem K1 {u:PH}{v cv mv:Value}{T:List (List UInt8×Nat)}{R:List Bi}{F:List Ap}{lab:Int}{C:CF}{K k:Nat}{P:List Par}{Ms:Ako}(lb:Bool)(h:G3 u v cv T R F lab C K k P)(h0:k≠0)
  (hL:Ac u mv 2 (Ms.map (·.1))) (hM:∀ x∈Ms,Kn u x.1 x.2.1 x.2.2∧Gh P x.2.1 x.2.2) (hl:Ms.length≤1000) :
  Fn0 prog 29 [v,cv,.bool lb,mv] u fun r u'=>∃ x ls es,r=.tuple #[x,ls,.int .i64 0]∧Me u' x C K∧Ac u' ls 2 es∧Hi u' es P Ms:=by
 have hK:=h.K;have hprm:=Ab3 h.sch h.ok h.cof h.sC h.vC (by omega) h.bel;have hof:=fun (u':PH) (l:PH.le u u')=>Fn0.weak (Ai.giveAll (of0 (h.cof.mono l) h.sC (by omega))) fun v u' ⟨u1,m1,l1,l2,h⟩=>h.give l1 l2;have hpar:=h.par;have hX:=h.sch;have ok:=h.ok;have hS:=h.mom;have hsg:=h.csgn h0;have hlab:=h.lab0;have hP24:=h.p24;have hPL:=h.prm;obtain ⟨xa,xc,xb,xd,xe,xf,rfl,hTL,hRL,hFL⟩:=id h.sch;obtain ⟨a1,n1,c1,a2,n2,c2,rfl⟩:=h.cof.opn;obtain ⟨ma,mc,rfl⟩:=hL.opn;rw [List.length_map] at hL ⊢;refine Fn0.o func29 ?_;refine G.c call74 hprm ?_;rintro v1 u1 l1 (⟨rfl,Q,hQ,hQP⟩ | ⟨ps,Q,rfl,hP,_,hQP⟩)
 ·have:=hPL.eq hQP;subst this; omega
 obtain rfl:=hPL.eq hQP;obtain ⟨pa,pc,rfl⟩:=hP.opn;rw [List.length_map] at hP ⊢;refine G.nF 0 0 ?_;have hsign:∀ (u':PH),Fn0 prog 75 [.string (mkS (Af C.c))] u' fun v _=>v=.int .i64 (sgn C.c.num):=fun u'=>Zh hS.tx;cases lb
 case' true=>refine G.lF lab 0 ?_
 all_goals
  refine G.c call75 (hsign u1) ?_;rintro v2 u2 l2 rfl;refine G.kF (sgn C.c.num) 0 ?_;refine G.l (ι:=Nat×(Option Addr×Nat)×List Value) (fun i=>[(4,.p 0 0),(5,.p 1 0),(8,.p 2 0),(11,.v (.slice pa P.length pc)),(13,.v (.slice i.2.1.1 i.2.2.length i.2.1.2)),(41,.v (.slice ma Ms.length mc)),(42,.v (.int .i64 (Ms.length:Int))),(43,.v (.int .i64 (i.1:Int)))])
   (fun _=>[(0,⟨30,[.v (.slice xa T.length xc),.v (.slice xb R.length xd),.v (.slice xe F.length xf),.v (.int .i64 lab)]⟩),(1,⟨36,[.v (.string (mkS (Af C.c))),.v (.slice a1 n1 c1),.v (.slice a2 n2 c2)]⟩),(2,⟨96,[.v (.bool false),.v (.slice none 0 0),.v (.bool false),.v (.slice none 0 0),.v (.map none),.v (.map none)]⟩)])
   (fun i u' m'=>i.1≤Ms.length∧Hi u' i.2.2 P (Ms.take i.1)∧Ae PH.mt m' (.slice i.2.1.1 i.2.2.length i.2.1.2) 102 2 i.2.2) (fun i=>Ms.length - i.1) (0,(none,0),[]) ⟨by omega,⟨rfl,fun j x hx=>by simp at hx⟩,Ae.nil _ _ _⟩ ?_
  rintro J ⟨i,⟨oa,oc⟩,es⟩ hJ u3 m3 l3 ⟨hi,hE,hA⟩;simp only at hi hE hA hJ;have le3:=(l1.trans l2).trans l3;by_cases hlt:i < Ms.length
  ·refine G.lT (i:Int) (Ms.length:Int) ?_;obtain ⟨x,hMi⟩:∃ x,Ms[i]?=some x:=⟨_,List.getElem?_eq_getElem hlt⟩;obtain ⟨hmv,hmo⟩:=hM x (List.mem_of_getElem? hMi);have htk:=F0 hMi;obtain ⟨ba,ob,rfl,ea⟩:=Ac.at' (hL.mono le3) (j:=i) (e:=x.1) (by simp [hMi]);obtain ⟨xv,m0,M⟩:=x;simp only at hmv hmo ea;obtain ⟨na,nc,rfl,_⟩:=hmv.val;refine G.a ba ob Ms.length mc i 2 hlt ?_;refine G.lU (some 2) ba (ob+i*2) (.agg #[.string (mkS (Af m0)),.slice na M.length nc]) ea ?_;refine G.c call76 (Aji (hP.mono (l2.trans l3)) hPL.1 (by omega) (hmv.mono le3) hmo) ?_;rintro v4 u4 l4 ⟨lv,rfl,hlv⟩;obtain ⟨la,lc,rfl⟩:=Ac.opn hlv;refine G.nF 0 0 ?_;refine G.c call77 (Ae7 (hX.mono (le3.trans l4)) (ok.mono (le3.trans l4)) (hmv.mono (le3.trans l4)) hmo (by omega) hpar) ?_;rintro v5 u5 l5 rfl;refine G.c call78 (Afl (hlv.mono l5) (fun q hq=>?_) (by rw [List.length_map,Bt]; omega)) ?_
   ·obtain ⟨e,_,rfl⟩:=List.mem_map.1 hq;cases e with
    | none=>exact hmo.tx.1
    | some p =>
     show Tx (Bm p M);by_cases hp:p∈M.map (·.1)
     ·obtain ⟨y,hy,rfl⟩:=List.mem_map.1 hp;rw [F4 (hmo.srt.nodup Do) hy]; exact hmo.tx.2 y hy
     ·rw [Jt hp]; exact Aj3.tx
   intro v6 u6 l6 k6;obtain ⟨es6,hL6,hF6⟩:=id k6;obtain ⟨fa,fc,rfl⟩:=hL6.opn;have hel:es6.length=P.length+1:=by rw [hF6.1,List.length_map,Bt]
   rw [hel] at k6 ⊢;have hesl:es.length≤1000:=by
    have:=hE.1;rw [List.length_take] at this; omega
   refine G.B 102 2 48 (.agg #[.slice none 0 0,.slice none 0 0]) [.agg #[.slice pa P.length pc,.slice fa (P.length+1) fc]] Aip ?_;intro g7 u7 l7 e7;refine G.append 102 2 48 (.agg #[.slice none 0 0,.slice none 0 0]) PH.mt es [.agg #[.slice pa P.length pc,.slice fa (P.length+1) fc]] _ g7 0 1 1 (by kernel_rfl) rfl rfl (by omega) hA e7 Aip rfl (by omega) (by show (es.length+1)*48≤140737488355328; omega) (by show es.length+1≤9223372036854775807; omega) ?_;intro v8 m8 hA8;obtain ⟨a8,c8,rfl⟩:=hA8.shape;have l37:=((l4.trans l5).trans l6).trans l7;have hE8:Hi u7 (es++[.agg #[.slice pa P.length pc,.slice fa (P.length+1) fc]]) P (Ms.take (i+1)):=by
    rw [htk]; exact (hE.mono l37).snoc ⟨_,_,_,_,rfl,hP.mono (((l2.trans l3).trans l37)),k6.mono l7⟩
   refine G.i i ?_;exact G.b (hJ (i+1,(a8,c8),es++[.agg #[.slice pa P.length pc,.slice fa (P.length+1) fc]]) _ _ _ cv (l3.trans l37) ⟨by dsimp only; omega,hE8,hA8⟩ (by dsimp only; omega))
  ·obtain rfl:i=Ms.length:=by omega
   refine G.lF (Ms.length:Int) (Ms.length:Int) ?_;rw [List.take_length] at hE;refine G.give _ _ _ (by kernel_rfl) hA (fun g=>.inl rfl) ?_;intro u10 l10 hLs;refine G.c call79 (hof u10 (le3.trans l10)) ?_;intro v11 u11 l11 k11;obtain ⟨b,a,n,c,b',a',n',c',g1,g2,rfl⟩:=S6 k11;exact G.r (.tuple #[.agg #[.bool b,.slice a n c,.bool b',.slice a' n' c',.map (some g1),.map (some g2)],.slice oa es.length oc,.int .i64 0]) ⟨rfl,_,_,es,rfl,k11,hLs.mono l11,hE.mono (l10.trans l11)⟩
end
section
open Go.RowKit Go.MapKept
section
variable {u:PH} {v cv mv:Value} {T:List (List UInt8×Nat)} {R:List Bi} {F:List Ap} {lab:Int} {C:CF} {K k:Nat} {P:List Par} {m0:Rat} {M:List (Par×Rat)}
theorem Oo {u:PH}{P:List Par}{x:Value×Rat×List (Par×Rat)}{es:List Value}(h:Hi u es P [x]):∃ e,es = [e]∧Pq u e P (cfE x.2.1 x.2.2):=by
 obtain ⟨h1,h2⟩:=h;obtain ⟨e,he,hl⟩:=h2 0 x rfl
 match es,h1,he with
 | [y],_,he=>cases he; exact ⟨e,rfl,hl⟩
theorem Ya (ht:Kp u)(h:G3 u v cv T R F lab C K k P)(h0:k≠0)(hmv:Kn u mv m0 M)(hm:Gh P m0 M)(hT:Tx (Mf (cfE m0 M) P C / C.c)) :
  Fn0 prog 10 [v,cv,mv] u fun r _=>r=.tuple #[.string (mkS (Af (Mf (cfE m0 M) P C / C.c))),.int .i64 0]:=by
 have hop:=fun (u':PH) (l:PH.le u u') (mv':Value) (hL:Ac u' mv' 2 ([(mv,m0,M)].map (·.1)))=>K1 true (h.mono l) h0 hL (fun x hx=>by
  simp only [List.mem_cons,List.not_mem_nil,or_false] at hx;subst hx; exact ⟨hmv.mono l,hm⟩) (by simp)
 have hP24:=h.p24;obtain ⟨xa,xc,xb,xd,xe,xf,rfl,_⟩:=id h.sch;obtain ⟨a1,n1,c1,a2,n2,c2,rfl⟩:=h.cof.opn;obtain ⟨na,nc,rfl,_⟩:=id hmv.val;refine Fn0.o func10 ?_;refine G.B 41 2 40 (.agg #[.string (mkS []),.slice none 0 0]) [.agg #[.string (mkS (Af m0)),.slice na M.length nc]] Xg ?_;intro g1 u1 l1 e1;refine G.c call29 (hop u1 l1 _ e1.listP) ?_;rintro v2 u2 l2 ⟨x,ls,es,rfl,k2,hls,hla⟩;obtain ⟨e,rfl,he⟩:=Oo hla;obtain ⟨b,a,n,c,b',a',n',c',g1',g2,rfl,hcn⟩:=Io k2;obtain ⟨la,lc,rfl⟩:=hls.opn;obtain ⟨bb,ob,rfl,eb⟩:=Ac.at' hls (j:=0) (e:=e) rfl;obtain ⟨pa,pc,fa,fc,rfl,_⟩:=id he.val;refine G.nF 0 0 ?_;refine G.a bb ob 1 lc 0 2 (by omega) ?_;refine G.lU (some 2) bb (ob+0*2) (.agg #[.slice pa P.length pc,.slice fa (P.length+1) fc]) eb ?_;refine G.c call30 (Apq he k2 (by omega) (h.qok hm)) ?_;intro v3 u3 l3 k3;obtain ⟨b3,a3,n3,c3,b3',a3',n3',c3',rfl⟩:=k3.opn;refine G.c call31 (Gw k3 (hcn.mono l3) (((h.qok hm).biasS (by omega)).mono (by omega)) (h.mom.csz.mono (by omega)) (h.mom.cne h0)) ?_;intro v4 u4 l4 k4;obtain ⟨b4,a4,n4,c4,b4',a4',n4',c4',rfl⟩:=k4.opn;refine G.c call32 (Ji (ht.mono (((l1.trans l2).trans l3).trans l4)) k4 hT) ?_;rintro v5 u5 l5 rfl;exact G.r (.tuple #[.string (mkS (Af (Mf (cfE m0 M) P C / C.c))),.int .i64 0]) ⟨rfl,rfl⟩
theorem Vp (ht:Kp u)(h:G3 u v cv T R F lab C K k P)(h0:k≠0)(hmv:Kn u mv m0 M)(hm:Gh P m0 M)(hT:Tx (sqC (cfE m0 M) P C / C.c)) :
  Fn0 prog 14 [v,cv,mv] u fun r _=>r=.tuple #[.string (mkS (Af (sqC (cfE m0 M) P C / C.c))),.int .i64 0]:=by
 have hop:=fun (u':PH) (l:PH.le u u') (mv':Value) (hL:Ac u' mv' 2 ([(mv,m0,M)].map (·.1)))=>K1 true (h.mono l) h0 hL (fun x hx=>by
  simp only [List.mem_cons,List.not_mem_nil,or_false] at hx;subst hx; exact ⟨hmv.mono l,hm⟩) (by simp)
 have hP24:=h.p24;obtain ⟨xa,xc,xb,xd,xe,xf,rfl,_⟩:=id h.sch;obtain ⟨a1,n1,c1,a2,n2,c2,rfl⟩:=h.cof.opn;obtain ⟨na,nc,rfl,_⟩:=id hmv.val;refine Fn0.o func14 ?_;refine G.B 41 2 40 (.agg #[.string (mkS []),.slice none 0 0]) [.agg #[.string (mkS (Af m0)),.slice na M.length nc]] Xg ?_;intro g1 u1 l1 e1;refine G.c call29 (hop u1 l1 _ e1.listP) ?_;rintro v2 u2 l2 ⟨x,ls,es,rfl,k2,hls,hla⟩;obtain ⟨e,rfl,he⟩:=Oo hla;obtain ⟨b,a,n,c,b',a',n',c',g1',g2,rfl,hcn⟩:=Io k2;obtain ⟨la,lc,rfl⟩:=hls.opn;obtain ⟨bb,ob,rfl,eb⟩:=Ac.at' hls (j:=0) (e:=e) rfl;obtain ⟨pa,pc,fa,fc,rfl,_⟩:=id he.val;refine G.nF 0 0 ?_;refine G.a bb ob 1 lc 0 2 (by omega) ?_;refine G.lU (some 2) bb (ob+0*2) (.agg #[.slice pa P.length pc,.slice fa (P.length+1) fc]) eb ?_;refine G.c call35 (sq0 he k2 (by omega) (h.qok hm)) ?_;intro v3 u3 l3 k3;obtain ⟨b3,a3,n3,c3,b3',a3',n3',c3',rfl⟩:=k3.opn;refine G.c call31 (Gw k3 (hcn.mono l3) (((h.qok hm).sqS (by omega)).mono (by omega)) (h.mom.csz.mono (by omega)) (h.mom.cne h0)) ?_;intro v4 u4 l4 k4;obtain ⟨b4,a4,n4,c4,b4',a4',n4',c4',rfl⟩:=k4.opn;refine G.c call32 (Ji (ht.mono (((l1.trans l2).trans l3).trans l4)) k4 hT) ?_;rintro v5 u5 l5 rfl;exact G.r (.tuple #[.string (mkS (Af (sqC (cfE m0 M) P C / C.c))),.int .i64 0]) ⟨rfl,rfl⟩
theorem Uz (ht:Kp u)(h:G3 u v cv T R F lab C K k P)(h0:k≠0)(hmv:Kn u mv m0 M)(hm:Gh P m0 M)(hv:Cq C Al Al≠0)(hT:Tx (1 - sqC (cfE m0 M) P C / C.c / Cq C Al Al)) :
  Fn0 prog 15 [v,cv,mv] u fun r _=>r=.tuple #[.string (mkS (Af (1 - sqC (cfE m0 M) P C / C.c / Cq C Al Al))),.int .i64 0]:=by
 have hop:=fun (u':PH) (l:PH.le u u') (mv':Value) (hL:Ac u' mv' 2 ([(mv,m0,M)].map (·.1)))=>K1 true (h.mono l) h0 hL (fun x hx=>by
  simp only [List.mem_cons,List.not_mem_nil,or_false] at hx;subst hx; exact ⟨hmv.mono l,hm⟩) (by simp)
 have hP24:=h.p24;have hcov:=h.mom.cov h0 Al Al;have hq0:=Wi ((h.qok hm).sqS (P:=P) (by omega)) h.mom.csz (h.mom.cne h0);have hq1:=Wi hq0 (hcov.szn (by omega) (by omega) (by omega) (by omega)) hv;have c1':((1:Int):Rat)=1:=by decide +kernel
 obtain ⟨xa,xc,xb,xd,xe,xf,rfl,_⟩:=id h.sch;obtain ⟨a1,n1,c1,a2,n2,c2,rfl⟩:=h.cof.opn;obtain ⟨na,nc,rfl,_⟩:=id hmv.val;refine Fn0.o func15 ?_;refine G.B 41 2 40 (.agg #[.string (mkS []),.slice none 0 0]) [.agg #[.string (mkS (Af m0)),.slice na M.length nc]] Xg ?_;intro g1 u1 l1 e1;refine G.c call29 (hop u1 l1 _ e1.listP) ?_;rintro v2 u2 l2 ⟨x,ls,es,rfl,k2,hls,hla⟩;obtain ⟨e,rfl,he⟩:=Oo hla;obtain ⟨b,a,n,c,b',a',n',c',g1',g2,rfl,hcn⟩:=Io k2;obtain ⟨la,lc,rfl⟩:=hls.opn;obtain ⟨bb,ob,rfl,eb⟩:=Ac.at' hls (j:=0) (e:=e) rfl;obtain ⟨pa,pc,fa,fc,rfl,_⟩:=id he.val;refine G.nF 0 0 ?_;refine G.c call39 J6 ?_;rintro v3 u3 l3 rfl;refine G.c call39 J6 ?_;rintro v4 u4 l4 rfl;refine G.c call38 (Xo Al Al (k2.mono (l3.trans l4)) h.mom h0) ?_;intro v5 u5 l5 k5;obtain ⟨b5,a5,n5,c5,b5',a5',n5',c5',rfl⟩:=k5.opn;refine G.c call40 (Pa k5 (Nat.le_trans (hcov.szn (by omega) (by omega) (by omega) (by omega)).1 (by omega))) ?_;rintro v6 u6 l6 rfl;refine G.eF' (sgn (Cq C Al Al).num) 0 (fun e=>hv (Ao6.1 e)) ?_;have le6:=((l3.trans l4).trans l5).trans l6;refine G.a bb ob 1 lc 0 2 (by omega) ?_;refine G.lU (some 2) bb (ob+0*2) (.agg #[.slice pa P.length pc,.slice fa (P.length+1) fc]) (eb.mono le6) ?_;refine G.c call41 (Lx (z:=1) (by omega) (by omega)) ?_;intro v7 u7 l7 k7;rw [c1'] at k7;obtain ⟨b7,a7,n7,c7,b7',a7',n7',c7',rfl⟩:=k7.opn;have le7:=le6.trans l7;refine G.c call35 (sq0 (he.mono le7) (k2.mono le7) (by omega) (h.qok hm)) ?_;intro v8 u8 l8 k8;obtain ⟨b8,a8,n8,c8,b8',a8',n8',c8',rfl⟩:=k8.opn;refine G.c call31 (Gw k8 (hcn.mono (le7.trans l8)) (((h.qok hm).sqS (by omega)).mono (by omega)) (h.mom.csz.mono (by omega)) (h.mom.cne h0)) ?_;intro v9 u9 l9 k9;obtain ⟨b9,a9,n9,c9,b9',a9',n9',c9',rfl⟩:=k9.opn;refine G.c call31 (Gw k9 (k5.mono (((l6.trans l7).trans l8).trans l9)) (hq0.mono (by omega)) (hcov.s1000 (by omega) (by omega) (by omega) (by omega)) hv) ?_;intro v10 u10 l10 k10;obtain ⟨b10,a10,n10,c10,b10',a10',n10',c10',rfl⟩:=k10.opn;refine G.c call42 (Og (k7.mono ((l8.trans l9).trans l10)) k10 ((De.nat (n:=1) (a:=1) (by omega)).s1000 (by omega) (by omega) (by omega) (by omega)) (hq1.mono (by omega))) ?_;intro v11 u11 l11 k11;obtain ⟨b11,a11,n11,c11,b11',a11',n11',c11',rfl⟩:=k11.opn;have le11:=((((l1.trans l2).trans le7).trans l8).trans l9).trans (l10.trans l11);refine G.c call32 (Ji (ht.mono le11) k11 hT) ?_;rintro v12 u12 l12 rfl;exact G.r (.tuple #[.string (mkS (Af (1 - sqC (cfE m0 M) P C / C.c / Cq C Al Al))),.int .i64 0]) ⟨rfl,rfl⟩
end
end
section
open Go.RowKit Go.MapKept
theorem Ai6 {u:PH}{P:List Par}{x y:Value×Rat×List (Par×Rat)}{es:List Value}(h:Hi u es P [x,y]):∃ e f,es = [e,f]∧Pq u e P (cfE x.2.1 x.2.2)∧Pq u f P (cfE y.2.1 y.2.2):=by
 obtain ⟨h1,h2⟩:=h;obtain ⟨e,he,hl⟩:=h2 0 x rfl;obtain ⟨f,hf,hl2⟩:=h2 1 y rfl
 match es,h1,he,hf with
 | [p,q],_,he,hf=>cases he; cases hf; exact ⟨e,f,rfl,hl,hl2⟩
theorem Akn {s s':List UInt8}{a a':Option Addr}{n c n' c':Nat}:A3 2 [.agg #[.string (mkS s),.slice a n c],.agg #[.string (mkS s'),.slice a' n' c']]:=by
 intro x hx;simp only [List.mem_cons,List.not_mem_nil,or_false] at hx;rcases hx with rfl | rfl <;> exact ⟨rfl,List.all_eq_true.1 rfl⟩
section
variable {u:PH} {v cv av bv:Value} {T:List (List UInt8×Nat)} {R:List Bi} {F:List Ap} {lab:Int} {C:CF} {K k:Nat} {P:List Par} {a0 b0:Rat} {A B:List (Par×Rat)}
end
end
section
open Go.RowKit Go.MapKept
section
variable {u:PH} {v cv av bv:Value} {T:List (List UInt8×Nat)} {R:List Bi} {F:List Ap} {lab:Int} {C:CF} {K k:Nat} {P:List Par} {a0 b0:Rat} {A B:List (Par×Rat)}
theorem Acg (ht:Kp u)(h:G3 u v cv T R F lab C K k P)(h0:k≠0)(hav:Kn u av a0 A)(ha:Gh P a0 A)(hbv:Kn u bv b0 B)(hb:Gh P b0 B) :
  Fn0 prog 12 [v,cv,av,bv] u fun r _=>r=.tuple #[.int .i64 (sg (sqC (cfE b0 B) P C - sqC (cfE a0 A) P C)),.int .i64 0]:=by
 have hop:=fun (u':PH) (l:PH.le u u') (mv':Value) (hL:Ac u' mv' 2 ([(av,a0,A),(bv,b0,B)].map (·.1)))=>K1 true (h.mono l) h0 hL (fun x hx=>by
  simp only [List.mem_cons,List.not_mem_nil,or_false] at hx;rcases hx with rfl | rfl
  ·exact ⟨hav.mono l,ha⟩
  ·exact ⟨hbv.mono l,hb⟩) (by simp)
 have hP24:=h.p24;have hEl:=Bt P;obtain ⟨xa,xc,xb,xd,xe,xf,rfl,_⟩:=id h.sch;obtain ⟨a1,n1,c1,a2,n2,c2,rfl⟩:=h.cof.opn;obtain ⟨na,nc,rfl,_⟩:=id hav.val;obtain ⟨oa,oc,rfl,_⟩:=id hbv.val;refine Fn0.o func12 ?_;refine G.B 41 2 40 (.agg #[.string (mkS []),.slice none 0 0]) [.agg #[.string (mkS (Af a0)),.slice na A.length nc],.agg #[.string (mkS (Af b0)),.slice oa B.length oc]] Akn ?_;intro g1 u1 l1 e1;refine G.c call29 (hop u1 l1 _ e1.listP) ?_;rintro v2 u2 l2 ⟨x,ls,es,rfl,k2,hls,hla⟩;obtain ⟨e,f,rfl,he,hf⟩:=Ai6 hla;obtain ⟨mb,ma,mn,mc,mb',ma',mn',mc',g1',g2,rfl,hcn⟩:=Io k2;obtain ⟨la,lc,rfl⟩:=hls.opn;obtain ⟨bb,ob,rfl,eb⟩:=Ac.at' hls (j:=0) (e:=e) rfl;obtain ⟨bb',ob',eqb,eb2⟩:=Ac.at' hls (j:=1) (e:=f) rfl;cases eqb;obtain ⟨pa,pc,fa,fc,rfl,hpl,es1,hL1,hF1⟩:=id he.val;obtain ⟨pa2,pc2,fa2,fc2,rfl,_,es2,hL2,hF2⟩:=id hf.val;refine G.nF 0 0 ?_;refine G.a bb ob 2 lc 1 2 (by omega) ?_;refine G.lU (some 2) bb (ob+1*2) (.agg #[.slice pa2 P.length pc2,.slice fa2 (P.length+1) fc2]) eb2 ?_;refine G.a bb ob 2 lc 0 2 (by omega) ?_;refine G.lU (some 2) bb (ob+0*2) (.agg #[.slice pa P.length pc,.slice fa (P.length+1) fc]) eb ?_;refine G.c call35 (sq0 hf k2 (by omega) (h.qok hb)) ?_;intro v3 u3 l3 k3;obtain ⟨b3,a3,n3,c3,b3',a3',n3',c3',rfl⟩:=k3.opn;refine G.c call35 (sq0 (he.mono l3) (k2.mono l3) (by omega) (h.qok ha)) ?_;intro v4 u4 l4 k4;obtain ⟨b4,a4,n4,c4,b4',a4',n4',c4',rfl⟩:=k4.opn;refine G.c call36 (Xc (k3.mono l4) k4 (((h.qok hb).sqS (by omega)).mono (by omega)) (((h.qok ha).sqS (by omega)).mono (by omega))) ?_;rintro v5 u5 l5 rfl;exact G.r (.tuple #[.int .i64 (sg (sqC (cfE b0 B) P C - sqC (cfE a0 A) P C)),.int .i64 0]) ⟨rfl,rfl⟩
end
end
section
open Go.RowKit Go.MapKept
variable {F:List Ap}{L:List E8}{R:List Bi}{T:List (List UInt8×Nat)}{lab:Int}{u:PH}
theorem Xr (ok:Bl u T R F lab):∀ l:Nat,lab=(l:Int)→l < T.length:=fun l hl=>by
 obtain ⟨n,hn⟩:=ok.l2 l hl;exact (List.getElem?_eq_some_iff.1 hn).1
theorem Ams (ok:Bl u T R F lab)(h8:T.length≤8)(hT:∀ y∈L,Cs T y.1∧y.2.1≤7)(h6:L.length≤6):CFD 16 (10 ^ 39) (Da F lab L):=by
 obtain ⟨d,_⟩:=Vz ok hT;refine d.to (by omega) ?_;have e:12 ^ (16 - 2*T.length)=144 ^ (8 - T.length):=by
  rw [show 16 - 2*T.length=2*(8 - T.length) by omega,Nat.pow_mul]
 have h1:144 ^ (8 - T.length)≤46656 ^ (8 - T.length):=Nat.pow_le_pow_left (by omega) _;have h2:46656 ^ T.length*46656 ^ (8 - T.length)=46656 ^ 8:=by rw [← Nat.pow_add]; congr 1; omega
 have h3:46656 ^ 8*42≤10 ^ 39:=by decide +kernel
 rw [e];have h4:L.length*(46656 ^ T.length*7)*144 ^ (8 - T.length)≤6*(46656 ^ T.length*7)*46656 ^ (8 - T.length):=Nat.mul_le_mul (Nat.mul_le_mul_right _ h6) h1;have h5:6*(46656 ^ T.length*7)*46656 ^ (8 - T.length)=(46656 ^ T.length*46656 ^ (8 - T.length))*42:=by
  generalize 46656 ^ T.length=a;generalize 46656 ^ (8 - T.length)=b;rw [Nat.mul_comm 6,Nat.mul_assoc a 7 6,Nat.mul_assoc a b 42,Nat.mul_assoc a (7*6) b,Nat.mul_comm (7*6) b]
 rw [h5,h2] at h4;exact Nat.le_trans h4 h3
theorem Aj1 (ok:Bl u T R F lab)(h8:T.length≤8)(hT:∀ y∈L,Cs T y.1∧y.2.1≤7)(h6:L.length≤6):∃ k,Hy (Da F lab L) k:=by
 obtain ⟨k,hk,hk7⟩:=Ao2 ok.feat ok.l1 (Xr ok) hT;have d:=Ams ok h8 hT h6;have e2:12 ^ 16 < 10 ^ 18:=by decide +kernel
 obtain ⟨d',_⟩:=Vz ok hT;have e1:L.length*(46656 ^ T.length*7) < 10 ^ 39:=by
  have h1:46656 ^ T.length≤46656 ^ 8:=Nat.pow_le_pow_right (by omega) h8;have h2:46656 ^ 8*42 < 10 ^ 39:=by decide +kernel
  have h3:=Nat.mul_le_mul h6 (Nat.mul_le_mul_right 7 h1);omega
 have e3:12 ^ (2*T.length) < 10 ^ 18:=Nat.lt_of_le_of_lt (Nat.pow_le_pow_right (by omega) (by omega)) e2;exact ⟨k,hk,by omega,fun p=>(d'.s p).de e1 e3,fun p=>(d'.t p).de e1 e3⟩
theorem Ad7 {u:PH}{T:List (List UInt8×Nat)}{R:List Bi}{F:List Ap}{lab:Int}{L:List E8}{xv cv:Value}{P:List Par}(hX:F9 u xv T R F lab)(ok:Bl u T R F lab)(h8:T.length≤8)(hT:∀ y∈L,Cs T y.1∧y.2.1≤7)(h6:L.length≤6)
  (hC:Hr u cv (Da F lab L) 1530) (hP:R9 F (Da F lab L) P) (p24:P.length≤24) (lab0:0≤lab):∃ k,G3 u xv cv T R F lab (Da F lab L) 1530 k P:=by
 obtain ⟨k,hk⟩:=Aj1 ok h8 hT h6;obtain ⟨sC,vC⟩:=Sh ok h8 hT (by omega);exact ⟨k,hX,ok,hC,sC,vC,by omega,Aec,hk,hP,p24,lab0,Ams ok h8 hT h6⟩
theorem Ny.meas {xv lv cv pv ev:Value}(w:Ny u T R F lab L xv lv cv pv ev) :
  ∃ P k,Ac u pv 2 (P.map Ao)∧P.length≤20∧G3 u xv cv T R F lab (Da F lab L) 1530 k P:=by
 obtain ⟨P,_,h1,h2,h3⟩:=w.par;obtain ⟨k,hk⟩:=Ad7 w.sch w.ok w.t8 w.wok.tup w.l6 w.cof h3 (by omega) w.lab0;exact ⟨P,k,h1,h2,hk⟩
end
section
open Go.RowKit Go.MapKept
def Rq:List (List UInt8×Nat):=[([121],2)]
def Xv (g:Nat):List Bi:=[([114],[0],(some ⟨g,0,none⟩,1))]
def T6 (g h:Nat):List E8:=[([[49]],1,(some ⟨g,0,none⟩,1)),([[51]],1,(some ⟨h,0,none⟩,1))]
theorem Ao7 {u:PH}{g:Nat}(h:Ac u (.slice (some ⟨g,0,none⟩) 1 1) 1 (Ag [0])):Bl u Rq (Xv g) [] 0 where
 att:=⟨N7 (by decide +kernel),fun a ha=>by simp [Rq] at ha; subst ha; decide⟩
 rel:=⟨N7 (by show (([[114]]:List (List UInt8)).all Gy && decide ([[114]]:List (List UInt8)).Nodup)=true; decide +kernel),fun r hr=>by simp [Xv] at hr; subst hr; simp,fun r hr a ha=>by simp [Xv] at hr; subst hr; simp at ha; show a < 1; omega,fun r hr=>by simp [Xv] at hr; subst hr; simp,fun r hr k x y h1 h2=>by
  simp [Xv] at hr; subst hr;simp at h2,fun a ha=>⟨_,List.mem_singleton.2 rfl,by
  have:a < 1:=ha;simp; omega⟩,fun r hr=>by simp [Xv] at hr; subst hr; exact h⟩
 feat:=⟨fun f hf=>by simp at hf,by decide⟩
 t1:=by decide
 t2:=by decide
 r1:=by show 0 < 1; omega
 r2:=by show 1≤6; omega
 f2:=by decide
 l1:=by decide
 l2:=fun l hl=>by
  have:l=0:=by omega
  subst this; exact ⟨[121],rfl⟩
theorem Am2 (t:List UInt8)(v:Rat)(h:∀ n:Fin 19,∀ d:Fin 13,d.val≠0→Af (Rat.divInt ((n.val:Int) - 9) (d.val:Int))=t→Rat.divInt ((n.val:Int) - 9) (d.val:Int)=v){q:Rat}(hq:SmR q)(e:Af q=t):q=v:=by
 have h1:=hq.num;have h2:=hq.le;have h3:=q.den_pos;have h4:=h ⟨(q.num+9).toNat,by omega⟩ ⟨q.den,by omega⟩ (by simpa using by omega);simp only at h4;rw [show (((q.num+9).toNat:Nat):Int) - 9=q.num by omega,Rat.num_divInt_den] at h4;exact h4 e
theorem Akp:SmR 2:=⟨by decide +kernel,by decide +kernel⟩
theorem Va:SmR 3:=⟨by decide +kernel,by decide +kernel⟩
theorem Aj7:Ld [49]=1:=by
 obtain ⟨h1,h2⟩:=P7 (t:=[49]) ⟨1,Ic,by decide +kernel⟩;exact Am2 [49] 1 (by decide +kernel) h1 h2
theorem Alw:Ld [51]=3:=by
 obtain ⟨h1,h2⟩:=P7 (t:=[51]) ⟨3,Va,by decide +kernel⟩;exact Am2 [51] 3 (by decide +kernel) h1 h2
theorem Aeg:Cs Rq [[49]]:=⟨rfl,fun i x t hx ht=>by
 match i,hx,ht with
 | 0,hx,ht=>cases hx; cases ht; exact .inr (.inr (.inr ⟨rfl,1,Ic,by decide +kernel⟩))
 | i+1,hx,ht=>simp [Rq] at hx⟩
theorem Adm:Cs Rq [[51]]:=⟨rfl,fun i x t hx ht=>by
 match i,hx,ht with
 | 0,hx,ht=>cases hx; cases ht; exact .inr (.inr (.inr ⟨rfl,3,Va,by decide +kernel⟩))
 | i+1,hx,ht=>simp [Rq] at hx⟩
theorem Am8 {t:List UInt8}(ht:Cs Rq [t])(hc:S4 [] 0 [t]=true)(hne:t≠[]):(cfT [] 0 [t]).c=1∧(cfT [] 0 [t]).s Al=Ld t∧(cfT [] 0 [t]).t (Aq Al Al)=Ld t*Ld t:=by
 have hF:Dh Rq [] 0:=⟨fun f hf=>by simp at hf,by decide⟩;have hl:∀ l:Nat,(0:Int)=(l:Int)→l < [t].length:=fun l hl=>by simp; omega
 have hs:(cfT [] 0 [t]).s Al=Ld t:=Ags hF ht (by omega) hl hc (a:=0) (by
  rw [Gv (w:=t) rfl];unfold Fm P4;rw [if_pos (show ((0:Nat):Int)=0 from rfl),if_neg hne]; rfl)
 rcases Lv hF ht (by omega) hl with ⟨_,h⟩ | ⟨h,_⟩
 ·exact ⟨h.c,hs,by rw [h.t,hs]⟩
 ·rw [h] at hc; cases hc
theorem Ang (g h:Nat):(Da [] 0 (T6 g h)).c=2∧(Da [] 0 (T6 g h)).s Al=4∧(Da [] 0 (T6 g h)).t (Aq Al Al)=10:=by
 obtain ⟨a1,a2,a3⟩:=Am8 Aeg (by decide +kernel) (by decide);obtain ⟨b1,b2,b3⟩:=Am8 Adm (by decide +kernel) (by decide);rw [Aj7] at a2 a3;rw [Alw] at b2 b3;refine ⟨?_,?_,?_⟩
 ·show 0+(cfT [] 0 [[49]]).c*((1:Nat):Rat)+(cfT [] 0 [[51]]).c*((1:Nat):Rat)=2;rw [a1,b1]; decide +kernel
 ·show 0+(cfT [] 0 [[49]]).s Al*((1:Nat):Rat)+(cfT [] 0 [[51]]).s Al*((1:Nat):Rat)=4;rw [a2,b2]; decide +kernel
 ·show 0+(cfT [] 0 [[49]]).t (Aq Al Al)*((1:Nat):Rat)+(cfT [] 0 [[51]]).t (Aq Al Al)*((1:Nat):Rat)=10;rw [a3,b3]; decide +kernel
theorem Aot (C:CF):R9 [] C []:=⟨List.Pairwise.nil,fun p=>⟨fun h=>by simp at h,fun h=>by
 rcases h with ⟨i,f,_,hf,_⟩ | ⟨_,i,f,_,hf,_⟩ <;> simp at hf⟩⟩
theorem Aa3:Gh [] 2 []:=⟨Akp.tx,fun x hx=>by simp at hx,List.Pairwise.nil,fun x hx=>by simp at hx,by simp⟩
theorem Akr {C:CF}(h1:C.c=2)(h2:C.s Al=4)(h3:C.t (Aq Al Al)=10) :
  Mf (cfE 2 []) [] C / C.c=0∧sqC (cfE 2 []) [] C / C.c=1∧Cq C Al Al=1:=by
 have n:Bx (cfE 2 []) [] C=8:=by
  unfold Bx Am;show 2*C.c*2+0+0=8;rw [h1]; decide +kernel
 refine ⟨?_,?_,?_⟩
 ·unfold Mf Am;show (C.s Al - (2*C.c+0)) / C.c=0;rw [h1,h2]; decide +kernel
 ·unfold sqC Am;rw [n];show (8+C.t (Aq Al Al) - 2*(2*C.s Al+0)) / C.c=1;rw [h1,h2,h3]; decide +kernel
 ·unfold Cq;rw [h1,h2,h3]; decide +kernel
end
section
open Go.RowKit Go.MapKept
theorem Wz {u:PH}(ht:Kp u):Fn0 prog 5 [] u fun r _=>r=.bool true:=by
 refine Fn0.o func5 ?_;refine G.buildU 62 2 24 (.agg #[.string (mkS []),.int .i64 0]) [.agg #[.string (mkS [121]),.int .i64 ((2:Nat):Int)]] (by kernel_rfl) (fun x hx=>by
  simp only [List.mem_cons,List.not_mem_nil,or_false] at hx;subst hx; exact ⟨rfl,List.all_eq_true.1 rfl⟩) rfl (by omega) (by simp) (by simp) ?_
 intro g1 u1 l1 e1;refine G.B 3 1 8 (.int .i64 0) [.int .i64 ((0:Nat):Int)] (Ax [0]) ?_;intro g2 u2 l2 e2;refine G.buildU 64 2 40 (.agg #[.string (mkS []),.slice none 0 0]) [.agg #[.string (mkS [114]),.slice (some ⟨g2,0,none⟩) 1 1]] (by kernel_rfl) (fun x hx=>by
  simp only [List.mem_cons,List.not_mem_nil,or_false] at hx;subst hx; exact ⟨rfl,List.all_eq_true.1 rfl⟩) rfl (by omega) (by simp) (by simp) ?_
 intro g3 u3 l3 e3;have hsch:F9 u3 (.agg #[.slice (some ⟨g1,0,none⟩) 1 1,.slice (some ⟨g3,0,none⟩) 1 1,.slice none 0 0,.int .i64 0]) Rq (Xv g2) [] 0 :=
  ⟨_,_,_,_,_,_,rfl,e1.listP.mono (l2.trans l3),e3.listP,Ac.nil _ _ _ _⟩
 have hok:Bl u3 Rq (Xv g2) [] 0:=Ao7 (e2.listP.mono l3);refine G.B 9 1 16 (.string (mkS [])) [.string (mkS [49])] (G1 [[49]]) ?_;intro g4 u4 l4 e4;refine G.B 9 1 16 (.string (mkS [])) [.string (mkS [51])] (G1 [[51]]) ?_;intro g5 u5 l5 e5;refine G.buildU 69 2 32 (.agg #[.slice none 0 0,.int .i64 0]) [.agg #[.slice (some ⟨g4,0,none⟩) 1 1,.int .i64 1],.agg #[.slice (some ⟨g5,0,none⟩) 1 1,.int .i64 1]] (by kernel_rfl) (fun x hx=>by
  simp only [List.mem_cons,List.not_mem_nil,or_false] at hx;rcases hx with rfl | rfl <;> exact ⟨rfl,List.all_eq_true.1 rfl⟩) rfl (by omega) (by simp) (by simp) ?_
 intro g6 u6 l6 e6;have l36:=(l4.trans l5).trans l6;have hrows:Ac u6 (.slice (some ⟨g6,0,none⟩) (T6 g4 g5).length 2) 2 ((T6 g4 g5).map Ik):=e6.listP;have hW:WOK u6 Rq (T6 g4 g5):=fun y hy=>by
  simp only [T6,List.mem_cons,List.not_mem_nil,or_false] at hy;rcases hy with rfl | rfl
  ·exact ⟨e4.listP.mono (l5.trans l6),Aeg,Nat.le_refl 1,by show 1≤7; omega⟩
  ·exact ⟨e5.listP.mono l6,Adm,Nat.le_refl 1,by show 1≤7; omega⟩
 refine G.c call21 (O5 (hsch.mono l36) (hok.mono l36) (by decide) hrows hW (by simp [T6])) ?_;rintro v7 u7 l7 ⟨x,rfl,k7⟩;have l37:=l36.trans l7;obtain ⟨h1,h2,h3⟩:=Ang g4 g5;obtain ⟨hb0,hq1,hv1⟩:=Akr h1 h2 h3;obtain ⟨k,hMe⟩:=Ad7 (P:=[]) (hsch.mono l37) (hok.mono l37) (by decide) hW.tup (by simp [T6]) k7 (Aot _) (by simp) (by omega);generalize Da [] 0 (T6 g4 g5)=C at hMe h1 hb0 hq1 hv1 k7;have h0:k≠0:=by
  rintro rfl;have:=hMe.mom.c;rw [h1] at this;exact absurd this (by decide +kernel)
 obtain ⟨a1,n1,c1,a2,n2,c2,rfl⟩:=k7.opn;have hmv:Kn u7 (.agg #[.string (mkS [50]),.slice none 0 0]) 2 []:=⟨none,0,by rw [Agm]; rfl,Ac.nil _ _ _ _⟩;have ht7:=ht.mono (((l1.trans l2).trans l3).trans l37);have hvar:Cq C Al Al≠0:=by rw [hv1]; decide
 have hB:=Ya ht7 hMe h0 hmv Aa3 (by rw [hb0]; exact W4);rw [hb0,Ex] at hB;refine G.c call10 hB ?_;rintro v8 u8 l8 rfl;have hE:=Vp (ht7.mono l8) (hMe.mono l8) h0 (hmv.mono l8) Aa3 (by rw [hq1]; exact Ic.tx);rw [hq1,Sl] at hE;refine G.c call14 hE ?_;rintro v9 u9 l9 rfl;have le9:=l8.trans l9;have hS:=Uz (ht7.mono le9) (hMe.mono le9) h0 (hmv.mono le9) Aa3 hvar (by rw [hq1,hv1,show (1:Rat) - 1 / 1=0 by decide +kernel]; exact W4);rw [hq1,hv1,show (1:Rat) - 1 / 1=0 by decide +kernel,Ex] at hS;refine G.c call15 hS ?_;rintro v10 u10 l10 rfl;have le10:=le9.trans l10;have hV:=Oz Al (ht7.mono le10) (k7.mono le10) hMe.sC hMe.vC (by omega) hMe.mom h0;rw [hv1,Sl] at hV;refine G.c call13 hV ?_;rintro v11 u11 l11 rfl;refine G.eT' 0 0 rfl ?_;refine G.eT' 0 0 rfl ?_;refine G.eT' 0 0 rfl ?_;refine G.eT' 0 0 rfl ?_;refine G.q [48] [48] rfl ?_;refine G.q [49] [49] rfl ?_;refine G.q [48] [48] rfl ?_;refine G.q [49] [49] rfl ?_;exact G.r (.bool true) ⟨rfl,rfl⟩
end
section
open Go.RowKit Go.MapKept
variable {x:Rat}
section
variable {u:PH} {v cv mv:Value} {T:List (List UInt8×Nat)} {R:List Bi} {F:List Ap} {lab:Int} {C:CF} {K k:Nat} {P:List Par} {m0:Rat} {M:List (Par×Rat)}
theorem Abo (ht:Kp u)(h:G3 u v cv T R F lab C K k P)(h0:k≠0)(hmv:Kn u mv m0 M)(hm:Gh P m0 M)(hv:Cq C Al Al=0) :
  Fn0 prog 15 [v,cv,mv] u fun r _=>r=.tuple #[.string (mkS []),.int .i64 4]:=by
 have hop:=fun (u':PH) (l:PH.le u u') (mv':Value) (hL:Ac u' mv' 2 ([(mv,m0,M)].map (·.1)))=>K1 true (h.mono l) h0 hL (fun x hx=>by
  simp only [List.mem_cons,List.not_mem_nil,or_false] at hx;subst hx; exact ⟨hmv.mono l,hm⟩) (by simp)
 have hP24:=h.p24;have hcov:=h.mom.cov h0 Al Al;have hq0:=Wi ((h.qok hm).sqS (P:=P) (by omega)) h.mom.csz (h.mom.cne h0);have c1':((1:Int):Rat)=1:=by decide +kernel
 obtain ⟨xa,xc,xb,xd,xe,xf,rfl,_⟩:=id h.sch;obtain ⟨a1,n1,c1,a2,n2,c2,rfl⟩:=h.cof.opn;obtain ⟨na,nc,rfl,_⟩:=id hmv.val;refine Fn0.o func15 ?_;refine G.B 41 2 40 (.agg #[.string (mkS []),.slice none 0 0]) [.agg #[.string (mkS (Af m0)),.slice na M.length nc]] Xg ?_;intro g1 u1 l1 e1;refine G.c call29 (hop u1 l1 _ e1.listP) ?_;rintro v2 u2 l2 ⟨x,ls,es,rfl,k2,hls,hla⟩;obtain ⟨e,rfl,he⟩:=Oo hla;obtain ⟨b,a,n,c,b',a',n',c',g1',g2,rfl,hcn⟩:=Io k2;obtain ⟨la,lc,rfl⟩:=hls.opn;obtain ⟨bb,ob,rfl,eb⟩:=Ac.at' hls (j:=0) (e:=e) rfl;obtain ⟨pa,pc,fa,fc,rfl,_⟩:=id he.val;refine G.nF 0 0 ?_;refine G.c call39 J6 ?_;rintro v3 u3 l3 rfl;refine G.c call39 J6 ?_;rintro v4 u4 l4 rfl;refine G.c call38 (Xo Al Al (k2.mono (l3.trans l4)) h.mom h0) ?_;intro v5 u5 l5 k5;obtain ⟨b5,a5,n5,c5,b5',a5',n5',c5',rfl⟩:=k5.opn;refine G.c call40 (Pa k5 (Nat.le_trans (hcov.szn (by omega) (by omega) (by omega) (by omega)).1 (by omega))) ?_;rintro v6 u6 l6 rfl;refine G.eT' (sgn (Cq C Al Al).num) 0 (Ao6.2 hv) ?_;exact G.r (.tuple #[.string (mkS []),.int .i64 4]) ⟨rfl,rfl⟩
end
theorem Am4 (h:0≤x):0≤sg x:=by
 rcases S5 x with ⟨h1,_⟩ | ⟨_,e⟩ | ⟨_,e⟩
 ·exact absurd h1 (by grind)
 ·rw [e]; decide
 ·rw [e]; decide
theorem Ape (h:x≤0):sg x≤0:=by
 rcases S5 x with ⟨_,e⟩ | ⟨_,e⟩ | ⟨h1,_⟩
 ·rw [e]; decide
 ·rw [e]; decide
 ·exact absurd h1 (by grind)
theorem Akt (P:List Par){q:Rat}(h:Tx q):Gh P q []:=⟨h,fun x hx=>by simp at hx,List.Pairwise.nil,fun x hx=>by simp at hx,Nat.zero_le _⟩
theorem Ahq {u:PH}(q:Rat):Kn u (.agg #[.string (mkS (Af q)),.slice none 0 0]) q []:=⟨none,0,rfl,Ac.nil _ _ _ _⟩
theorem Af8 {u:PH}{v:Value}{ts:List Int}(ht:Kp u)(hv:Ac u v 1 (Dw ts))(hlo:∀ t∈ts,-9223372036854775808≤t)(hhi:∀ t∈ts,t≤9223372036854775807) :
  Fn0 prog 3 [v] u fun v' _=>v'=.bool true:=by
 obtain ⟨a,c,rfl⟩:=hv.opn;rw [By] at hv ⊢;refine Fn0.o func3 ?_;by_cases h400:400 < ts.length
 ·refine G.gT (ts.length:Int) 400 ?_;refine G.c call5 (Wz ht) ?_;rintro v1 u1 l1 rfl;exact G.r (.bool true) ⟨rfl,rfl⟩
 refine G.gF (ts.length:Int) 400 ?_;refine G.callO _ _ (by kernel_rfl) call6 (Ak5 hv (by omega) hlo hhi) ?_;rintro v1 u1 m1 l1 ⟨s,rfl,rfl,hs⟩ _;rw [C2];refine G.A call7 (Ans hs (Nat.zero_le _)) ?_;rintro v2 u2 m2 l2 ⟨T,R,F,lab,L,xv,lv,cv,pv,ev,k2,rfl,w,hk2,rfl⟩ _;rw [C2];obtain ⟨P,k,hP,hP20,hMe⟩:=w.meas;have ht2:=ht.mono (l1.trans l2);have hPs:=hMe.prm.1;have hcd:=Aeu w.ok w.ok.l1 (Xr w.ok) (w.wok.tup);have hN:L.length*81648≤489888:=by have:=w.l6; omega
 have hpsd:∀ z,0≤Bx z P (Da F lab L):=fun z=>Aih w.ok.feat w.ok.l1 (Xr w.ok) z P fun y hy=>(w.wok.tup y hy).1;have hsq:∀ z,0≤sqC z P (Da F lab L):=fun z=>An7 w.ok.feat w.ok.l1 (Xr w.ok) z P fun y hy=>(w.wok.tup y hy).1;obtain ⟨xa,xc,xb,xd,xe,xf,rfl,_⟩:=id w.sch;have hC:=w.cof;clear w;generalize Da F lab L=C at hMe hC hcd hpsd hsq;generalize L.length*81648=N at hcd hN;obtain ⟨a1,n1,c1,a2,n2,c2,rfl⟩:=id hC.opn;refine G.A call9 (Zp (hs.mono l2) hk2) ?_;rintro v3 u3 m3 l3 ⟨q,k3,rfl,hq,hk3,rfl⟩ _;rw [C2];refine G.c call8 (Acq (hMe.mono l3) hq hcd hN hpsd hsq) ?_;rintro v4 u4 l4 (⟨e,he,rfl⟩ | ⟨h0,hP11,mv,m0,qs,rfl,hmv,hm,hn,hd⟩)
 ·refine G.nT' e 0 he ?_;refine G.drop PH.mt (by kernel_rfl) (PH.mt_le _) ?_;refine G.c call5 (Wz (ht2.mono (l3.trans l4))) ?_;rintro v5 u5 l5 rfl;exact G.r (.bool true) ⟨rfl,rfl⟩
 obtain ⟨na,nc,rfl,_⟩:=id hmv.val;refine G.nF 0 0 ?_;refine G.drop PH.mt (by kernel_rfl) (PH.mt_le _) ?_;have le4:=l3.trans l4;have hS:=hMe.mom;have hc0:=hS.cpos h0;have hcn:=hS.cne h0;have hcp:1≤C.c:=by
  rw [hS.c];have:((1:Nat):Rat)≤(k:Rat):=Rat.natCast_le_natCast.2 (by omega);simpa using this
 have hb0:Mf (cfE m0 (P.zip qs)) P C / C.c=0:=by rw [hn.bias]; grind
 have hbi:=Ya (ht2.mono le4) (hMe.mono le4) h0 hmv hm (by rw [hb0]; exact ⟨by decide +kernel,by decide +kernel⟩);rw [hb0,Ex] at hbi;refine G.c call10 hbi ?_;rintro v5 u5 l5 rfl;have le5:=le4.trans l5;refine G.c call11 (Agr Al (ht2.mono le5) (hC.mono le5) hMe.sC hMe.vC (by have:=hMe.K; omega) hS h0) ?_;rintro v6 u6 l6 rfl;have le6:=le5.trans l6;have hpT:=(hS.mean h0 Al).tx (by omega) (by omega) (by omega) (by omega);have hpo:=Akt P hpT;have hls:=hn.least (Rat.le_of_lt hq.pos) hpsd (cfE (C.s Al / C.c) []);rw [U6] at hls;have hnn:=Rat.mul_nonneg (Rat.le_of_lt hq.pos) (Pd P (cfE m0 (P.zip qs)));have hge:0≤sqC (cfE (C.s Al / C.c) []) P C - sqC (cfE m0 (P.zip qs)) P C:=by grind
 have hvar:=hn.var (Rat.le_of_lt hq.pos) hc0 hpsd;have hcov:=(hS.cov h0 Al Al).tx (by omega) (by omega) (by omega) (by omega);refine G.c call12 (Acg (ht2.mono le6) (hMe.mono le6) h0 (hmv.mono (l5.trans l6)) hm (Ahq _) hpo) ?_;rintro v7 u7 l7 rfl;have le7:=le6.trans l7;refine G.c call13 (Oz Al (ht2.mono le7) (hC.mono le7) hMe.sC hMe.vC (by have:=hMe.K; omega) hS h0) ?_;rintro v8 u8 l8 rfl;have le8:=le7.trans l8;have her:=Vp (ht2.mono le8) (hMe.mono le8) h0 (Ahq _) hpo (by rw [hvar.2]; exact hcov);rw [hvar.2] at her;refine G.c call14 her ?_;rintro v9 u9 l9 rfl;have le9:=le8.trans l9;refine G.nF 0 0 ?_;refine G.y [48] [48] rfl ?_;refine G.nF 0 0 ?_;refine G.nF 0 0 ?_;refine G.lF' (sg (sqC (cfE (C.s Al / C.c) []) P C - sqC (cfE m0 (P.zip qs)) P C)) 0 (by have:=Am4 hge; omega) ?_;refine G.nF 0 0 ?_;refine G.nF 0 0 ?_;refine G.y (Af (Cq C Al Al)) (Af (Cq C Al Al)) rfl ?_;have hmv9:=hmv.mono (l5.trans (l6.trans (l7.trans (l8.trans l9))));by_cases hv0:Cq C Al Al=0
 ·refine G.c call15 (Abo (ht2.mono le9) (hMe.mono le9) h0 hmv9 hm hv0) ?_;rintro v10 u10 l10 rfl;refine G.q (Af (Cq C Al Al)) [48] (by rw [hv0,Ex]) ?_;refine G.eT' 4 4 rfl ?_;refine G.c call5 (Wz (ht2.mono (le9.trans l10))) ?_;rintro v11 u11 l11 rfl;exact G.r (.bool true) ⟨rfl,rfl⟩
 obtain ⟨hsc,hs0,hs1⟩:=Z2 hcd hN hq hP11 hS hcp hpsd hsq hv0 hn;have hsT:=hsc.tx (by omega) (by omega) (by omega) (by omega);refine G.c call15 (Uz (ht2.mono le9) (hMe.mono le9) h0 hmv9 hm hv0 hsT) ?_;rintro v10 u10 l10 rfl;generalize 1 - sqC (cfE m0 (P.zip qs)) P C / C.c / Cq C Al Al=sc at *
 have hsn:=Tr (u:=u10) hsT;rw [Nq] at hsn;refine G.w (Af (Cq C Al Al)) [48] (Nl hv0) ?_;refine G.eT' 0 0 rfl ?_;refine G.c call16 hsn ?_;rintro v11 u11 l11 rfl;refine G.hT' (sg sc) 0 (by have:=Am4 hs0; omega) ?_;have hcm:=Aaj (u:=u11) (q:=sc) (r:=1) hsT ⟨by decide +kernel,by decide +kernel⟩;rw [Sl,Nq] at hcm;refine G.c call17 hcm ?_;rintro v12 u12 l12 rfl;refine G.kT' (sg (sc - 1)) 0 (by have:=Ape (x:=sc - 1) (by grind); omega) ?_;refine G.c call5 (Wz (ht2.mono (((le9.trans l10).trans l11).trans l12))) ?_;rintro v13 u13 l13 rfl;exact G.r (.bool true) ⟨rfl,rfl⟩
end
end Go.Proofs.YtabiglokbnfciaaGreatDoor
