/- Parts of one proof, joined by a program. -/
import Derived.Test.YtnlfnomchebmcaaGreatDoorKA07
set_option linter.unusedVariables false
set_option linter.unusedSimpArgs false
set_option linter.unusedSectionVars false
set_option maxHeartbeats 16000000
namespace Go.Proofs.YtnlfnomchebmcaaGreatDoor
section
open Go.RowKit Go.MapKept
theorem I6 {q:Rat}(h:q≠0):Ag q≠[48]:=by
 intro e;unfold Ag at e;split at e
 ·have:=G5 (e.trans D0.symm);exact h (Rat.num_eq_zero.1 this)
 ·have:(47:UInt8)∈Lib.itoa q.num++47::Lib.itoa (q.den:Int):=by simp
  rw [e] at this;simp at this
theorem T2 {u:PH}(p q:Par)(r:Bool)(h:decide (A4 p q < 0)=r):Fn0 Tryz.prog 153 [Ak p,Ak q] u fun v _=>v=.bool r:=by
 refine Fn0.o Tryz.func153 ?_;refine G.c Tryz.call172 (K9 p q) ?_;rintro v1 u1 l1 rfl;cases r with
 | true =>
  refine G.lT' (A4 p q) 0 (of_decide_eq_true h) ?_;exact G.r (.bool true) ⟨rfl,rfl⟩
 | false =>
  refine G.lF' (A4 p q) 0 (of_decide_eq_false h) ?_;exact G.r (.bool false) ⟨rfl,rfl⟩
theorem Aia {u:PH}{q:Rat}(h:Tx q)(h0:q≠0):Fn0 Tryz.prog 150 [.string (mkS (Ag q))] u fun v _=>v=.bool true:=by
 refine Fn0.o Tryz.func150 ?_;refine G.c Tryz.call146 (Ho h) ?_;rintro v1 u1 l1 rfl;refine G.x (Ag q) [48] (I6 h0) ?_;exact G.r (.bool true) ⟨rfl,rfl⟩
theorem Ud {s:List UInt8}(h:Gc s=true):1≤s.length∧s.length≤12:=by
 unfold Gc at h;split at h
 ·cases h
 ·simp only [Bool.and_eq_true,decide_eq_true_eq] at h;exact ⟨by simp,h.2⟩
theorem Rz {s:List UInt8}(h:Gc s=true){i:Nat}{c:UInt8}(hi:s[i]?=some c):(97≤c.toNat∧c.toNat≤122)∨(i≠0∧(c.toNat=45∨(48≤c.toNat∧c.toNat≤57))):=by
 unfold Gc at h;split at h
 ·cases h
 ·rename_i d l;simp only [Bool.and_eq_true,decide_eq_true_eq,List.all_eq_true,Am5,Bool.or_eq_true] at h;obtain ⟨⟨h1,h2⟩,_⟩:=h
  match i,hi with
  | 0,hi=>simp at hi; subst hi; exact .inl h1
  | i+1,hi =>
   simp at hi;rcases h2 c (List.mem_of_getElem? hi) with h | h
   ·exact .inl h
   ·exact .inr ⟨by omega,h⟩
theorem Acp {u:PH}{s:List UInt8}(h:Gc s=true):Fn0 Tryz.prog 189 [.string (mkS s)] u fun v _=>v=.bool true:=by
 obtain ⟨hl1,hl2⟩:=Ud h;refine Fn0.o Tryz.func189 ?_;refine G.convSB (some .string) 5 s (by kernel_rfl) (by kernel_rfl) (by kernel_rfl) ?_;intro v1 u1 l1 hb;obtain ⟨a,c,rfl⟩:=Ad.opn hb;rw [As] at hb ⊢;refine G.l (ι:=Nat) (fun i=>[(0,.v (.string (mkS s))),(7,.v (.slice a s.length c)),(8,.v (.int .i64 (s.length:Int))),(9,.v (.int .i64 (i:Int)))]) (fun _=>[])
  (fun i u' m'=>i≤s.length∧m'=PH.mt) (fun i=>s.length - i) 0 ⟨by omega,rfl⟩ ?_
 rintro J i hJ u2 m2 l2 ⟨hi,rfl⟩;by_cases hlt:i < s.length
 ·refine G.lT (i:Int) (s.length:Int) ?_;have hsi:s[i]?=some s[i]:=List.getElem?_eq_getElem hlt;obtain ⟨b,off,rfl,e⟩:=Ad.at' (hb.mono l2) (j:=i) (e:=.int .u8 (s[i].toNat:Int)) (by simp [Be,hsi]);have hw:=Rz h hsi;generalize s[i].toNat=n at e hw;refine G.a b off s.length c i 1 hlt ?_;refine G.lU none b (off+i*1) (.int .u8 (n:Int)) e ?_;by_cases hle:97≤n∧n≤122
  ·refine G.cmpG .geq .u8 (n:Int) 97 true (by kernel_rfl) rfl (by simp [B3]; omega) ?_;refine G.cmpG .leq .u8 (n:Int) 122 true (by kernel_rfl) rfl (by simp [B3]; omega) ?_;refine G.i i ?_;exact G.b (hJ (i+1) _ _ _ cv l2 ⟨by omega,rfl⟩ (by omega))
  ·obtain ⟨hi0,hd⟩:=hw.resolve_left hle;by_cases h97:97≤n
   ·refine G.cmpG .geq .u8 (n:Int) 97 true (by kernel_rfl) rfl (by simp [B3]; omega) ?_;refine G.cmpG .leq .u8 (n:Int) 122 false (by kernel_rfl) rfl (by simp [B3]; omega) ?_;refine G.eF (i:Int) 0 ?_;by_cases h45:n=45
    ·refine G.cmpG .neq .u8 (n:Int) 45 false (by kernel_rfl) rfl (by simp [B3]; omega) ?_;refine G.i i ?_;exact G.b (hJ (i+1) _ _ _ cv l2 ⟨by omega,rfl⟩ (by omega))
    ·refine G.cmpG .neq .u8 (n:Int) 45 true (by kernel_rfl) rfl (by simp [B3]; omega) ?_;refine G.cmpG .lss .u8 (n:Int) 48 false (by kernel_rfl) rfl (by simp [B3]; omega) ?_;refine G.cmpG .gtr .u8 (n:Int) 57 false (by kernel_rfl) rfl (by simp [B3]; omega) ?_;refine G.i i ?_;exact G.b (hJ (i+1) _ _ _ cv l2 ⟨by omega,rfl⟩ (by omega))
   ·refine G.cmpG .geq .u8 (n:Int) 97 false (by kernel_rfl) rfl (by simp [B3]; omega) ?_;refine G.eF (i:Int) 0 ?_;by_cases h45:n=45
    ·refine G.cmpG .neq .u8 (n:Int) 45 false (by kernel_rfl) rfl (by simp [B3]; omega) ?_;refine G.i i ?_;exact G.b (hJ (i+1) _ _ _ cv l2 ⟨by omega,rfl⟩ (by omega))
    ·refine G.cmpG .neq .u8 (n:Int) 45 true (by kernel_rfl) rfl (by simp [B3]; omega) ?_;refine G.cmpG .lss .u8 (n:Int) 48 false (by kernel_rfl) rfl (by simp [B3]; omega) ?_;refine G.cmpG .gtr .u8 (n:Int) 57 false (by kernel_rfl) rfl (by simp [B3]; omega) ?_;refine G.i i ?_;exact G.b (hJ (i+1) _ _ _ cv l2 ⟨by omega,rfl⟩ (by omega))
 ·obtain rfl:i=s.length:=by omega
  refine G.lF (s.length:Int) (s.length:Int) ?_;have hq:∀ x:Int,x=(s.length:Int)→1≤x∧x≤12:=fun x hx=>by omega
  refine G.hT (s.length:Int) 1 ?_;refine G.kT (s.length:Int) 12 ?_;exact G.r (.bool true) ⟨rfl,rfl⟩
theorem Z1 {u:PH}{p:Par}(h:PV p):Fn0 Tryz.prog 149 [Ak p] u fun v _=>v=.bool true:=by
 refine Fn0.o Tryz.func149 ?_;refine G.hT' p.1 (-1) (by have:=h.lo; omega) ?_;by_cases hc:p.2 = []
 ·refine G.q p.2 [] hc ?_;exact G.r (.bool true) ⟨rfl,rfl⟩
 ·refine G.w p.2 [] hc ?_;refine G.c Tryz.call189 (Acp (h.cat.resolve_left hc)) ?_;rintro v1 u1 l1 rfl;exact G.r (.bool true) ⟨rfl,rfl⟩
theorem An5 {u:PH}{x:Par×Rat}(h:PV x.1)(hx:Tx x.2)(h0:x.2≠0):Fn0 Tryz.prog 148 [A3 x] u fun v _=>v=.bool false:=by
 refine Fn0.o Tryz.func148 ?_;refine G.c Tryz.call149 (Z1 h) ?_;rintro v1 u1 l1 rfl;refine G.c Tryz.call150 (Aia hx h0) ?_;rintro v2 u2 l2 rfl;exact G.r (.bool false) ⟨rfl,rfl⟩
theorem Aok {u:PH}{x:(Par×Par)×Rat}(h:PV x.1.1)(h':PV x.1.2)(ho:¬ 0 < A4 x.1.1 x.1.2)(hx:Tx x.2)(h0:x.2≠0):Fn0 Tryz.prog 152 [Cw x] u fun v _=>v=.bool false:=by
 refine Fn0.o Tryz.func152 ?_;refine G.c Tryz.call149 (Z1 h) ?_;rintro v1 u1 l1 rfl;refine G.c Tryz.call149 (Z1 h') ?_;rintro v2 u2 l2 rfl;refine G.c Tryz.call153 (T2 x.1.2 x.1.1 false (decide_eq_false fun e=>ho ((Dd.sym _ _).1 e))) ?_;rintro v3 u3 l3 rfl;refine G.c Tryz.call150 (Aia hx h0) ?_;rintro v4 u4 l4 rfl;exact G.r (.bool false) ⟨rfl,rfl⟩
theorem Amq {u:PH}{x y:Par×Rat}(h:A4 x.1 y.1 < 0):Fn0 Tryz.prog 155 [A3 x,A3 y] u fun v _=>v=.bool true:=by
 refine Fn0.o Tryz.func155 ?_;refine G.c Tryz.call153 (T2 x.1 y.1 true (decide_eq_true h)) ?_;rintro v1 u1 l1 rfl;exact G.r (.bool true) ⟨rfl,rfl⟩
theorem Amw {u:PH}{x y:(Par×Par)×Rat}(h:Gp x.1 y.1 < 0):Fn0 Tryz.prog 157 [Cw x,Cw y] u fun v _=>v=.bool true:=by
 refine Fn0.o Tryz.func157 ?_;by_cases h1:A4 x.1.1 y.1.1 < 0
 ·refine G.c Tryz.call153 (T2 x.1.1 y.1.1 true (decide_eq_true h1)) ?_;rintro v1 u1 l1 rfl;exact G.r (.bool true) ⟨rfl,rfl⟩
 ·have h2:A4 x.1.1 y.1.1=0∧A4 x.1.2 y.1.2 < 0:=by
   unfold Gp at h;split at h
   ·exact absurd h h1
   ·rename_i e; exact ⟨by simpa using e,h⟩
  have he:=Dd.eq _ _ h2.1;refine G.c Tryz.call153 (T2 x.1.1 y.1.1 false (decide_eq_false h1)) ?_;rintro v1 u1 l1 rfl;refine G.eqAgg 44 #[.int .i64 x.1.1.1,.string (mkS x.1.1.2)] #[.int .i64 y.1.1.1,.string (mkS y.1.1.2)] true (by kernel_rfl) (by kernel_rfl) (by kernel_rfl) (fun w=>by rw [← decide_eq_true he]; exact Ba.eq x.1.1 y.1.1 w) ?_;refine G.c Tryz.call153 (T2 x.1.2 y.1.2 true (decide_eq_true h2.2)) ?_;rintro v2 u2 l2 rfl;exact G.r (.bool true) ⟨rfl,rfl⟩
theorem Akw {u:PH}{v:Value}{T:List (Par×Rat)}{fid:Nat}(h:Ad u v 3 (T.map A3))(hl:T.length≤1000000)
  (hcall:∀ args w,(callFunc fid args).run Tryz.prog w=.ok (.enter fid args) w) (hf:∀ p∈T,∀ u',PH.le u u'→Fn0 Tryz.prog fid [A3 p] u' fun v _=>v=.bool false) :
  Fn0 Tryz.prog 203 [v,.func (.func fid) #[] #[]] u fun v' _=>v'=.int .i64 (-1):=by
 obtain ⟨a,c,rfl⟩:=h.opn;rw [List.length_map] at h ⊢;refine Fn0.o Tryz.func203 ?_;refine G.l (ι:=Nat) (fun i=>[(0,.v (.slice a T.length c)),(1,.v (.func (.func fid) #[] #[])),(7,.v (.int .i64 (T.length:Int))),(8,.v (.int .i64 (i:Int)))]) (fun _=>[])
  (fun i u' m'=>i≤T.length∧m'=PH.mt) (fun i=>T.length - i) 0 ⟨by omega,rfl⟩ ?_
 rintro J i hJ u1 m1 l1 ⟨hi,rfl⟩;by_cases hlt:i < T.length
 ·refine G.lT (i:Int) (T.length:Int) ?_;have hTi:T[i]?=some T[i]:=List.getElem?_eq_getElem hlt;obtain ⟨ba,oa,rfl,ea⟩:=Ad.at' (h.mono l1) (j:=i) (e:=A3 T[i]) (by simp [hTi]);refine G.a ba oa T.length c i 3 (by omega) ?_;refine G.lU (some 3) ba (oa+i*3) (A3 T[i]) ea ?_;refine G.call0 fid [A3 T[i]] (by kernel_rfl) hcall (hf T[i] (List.getElem_mem hlt) u1 l1) ?_;rintro v2 u2 l2 rfl;refine G.i i ?_;exact G.b (hJ (i+1) _ _ _ cv (l1.trans l2) ⟨by omega,rfl⟩ (by omega))
 ·obtain rfl:i=T.length:=by omega
  refine G.lF (T.length:Int) (T.length:Int) ?_;exact G.r (.int .i64 (-1)) ⟨rfl,rfl⟩
theorem Q3 {u:PH}{v:Value}{T:List (Par×Rat)}{fid:Nat}(h:Ad u v 3 (T.map A3))(hl:T.length≤1000000)
  (hcall:∀ args w,(callFunc fid args).run Tryz.prog w=.ok (.enter fid args) w) (hf:∀ p∈T,∀ u',PH.le u u'→Fn0 Tryz.prog fid [A3 p] u' fun v _=>v=.bool false) :
  Fn0 Tryz.prog 147 [v,.func (.func fid) #[] #[]] u fun v' _=>v'=.bool false:=by
 obtain ⟨a,c,rfl⟩:=h.opn;refine Fn0.o Tryz.func147 ?_;refine G.c Tryz.call203 (Akw h hl hcall hf) ?_;rintro v1 u1 l1 rfl;refine G.hF (-1) 0 ?_;exact G.r (.bool false) ⟨rfl,rfl⟩
theorem X6 {u:PH}{v:Value}{T:List (Par×Rat)}{fid:Nat}(h:Ad u v 3 (T.map A3))(hl:T.length≤1000000)
  (hcall:∀ args w,(callFunc fid args).run Tryz.prog w=.ok (.enter fid args) w) (hf:∀ (i:Nat) x y,T[i]?=some x→T[i+1]?=some y→∀ u',Fn0 Tryz.prog fid [A3 x,A3 y] u' fun v _=>v=.bool true) :
  Fn0 Tryz.prog 154 [v,.func (.func fid) #[] #[]] u fun v' _=>v'=.bool true:=by
 obtain ⟨a,c,rfl⟩:=h.opn;rw [List.length_map] at h ⊢;refine Fn0.o Tryz.func154 ?_;refine G.l (ι:=Nat) (fun i=>[(0,.v (.slice a T.length c)),(1,.v (.func (.func fid) #[] #[])),(5,.v (.int .i64 ((i+1:Nat):Int)))]) (fun _=>[])
  (fun i u' m'=>i≤T.length∧m'=PH.mt) (fun i=>T.length - i) 0 ⟨by omega,rfl⟩ ?_
 rintro J i hJ u1 m1 l1 ⟨hi,rfl⟩;by_cases hlt:i+1 < T.length
 ·refine G.lT ((i+1:Nat):Int) (T.length:Int) ?_;have hTi:T[i]?=some T[i]:=List.getElem?_eq_getElem (by omega);have hTj:T[i+1]?=some T[i+1]:=List.getElem?_eq_getElem hlt;obtain ⟨ba,oa,rfl,ea⟩:=Ad.at' (h.mono l1) (j:=i) (e:=A3 T[i]) (by simp [hTi]);obtain ⟨_,_,e',eb⟩:=Ad.at' (h.mono l1) (j:=i+1) (e:=A3 T[i+1]) (by simp [hTj]);cases e';refine G.s ((i+1:Nat):Int) 1 (i:Int) ?_;refine G.a ba oa T.length c i 3 (by omega) ?_;refine G.lU (some 3) ba (oa+i*3) (A3 T[i]) ea ?_;refine G.a ba oa T.length c (i+1) 3 (by omega) ?_;refine G.lU (some 3) ba (oa+(i+1)*3) (A3 T[i+1]) eb ?_;refine G.call0 fid [A3 T[i],A3 T[i+1]] (by kernel_rfl) hcall (hf i _ _ hTi hTj u1) ?_;rintro v2 u2 l2 rfl;refine G.p ((i+1:Nat):Int) 1 ((i+1+1:Nat):Int) ?_;exact G.b (hJ (i+1) _ _ _ cv (l1.trans l2) ⟨by omega,rfl⟩ (by omega))
 ·refine G.lF ((i+1:Nat):Int) (T.length:Int) ?_;exact G.r (.bool true) ⟨rfl,rfl⟩
theorem Aju {u:PH}{v:Value}{T:List ((Par×Par)×Rat)}{fid:Nat}(h:Ad u v 5 (T.map Cw))(hl:T.length≤1000000)
  (hcall:∀ args w,(callFunc fid args).run Tryz.prog w=.ok (.enter fid args) w) (hf:∀ p∈T,∀ u',PH.le u u'→Fn0 Tryz.prog fid [Cw p] u' fun v _=>v=.bool false) :
  Fn0 Tryz.prog 204 [v,.func (.func fid) #[] #[]] u fun v' _=>v'=.int .i64 (-1):=by
 obtain ⟨a,c,rfl⟩:=h.opn;rw [List.length_map] at h ⊢;refine Fn0.o Tryz.func204 ?_;refine G.l (ι:=Nat) (fun i=>[(0,.v (.slice a T.length c)),(1,.v (.func (.func fid) #[] #[])),(7,.v (.int .i64 (T.length:Int))),(8,.v (.int .i64 (i:Int)))]) (fun _=>[])
  (fun i u' m'=>i≤T.length∧m'=PH.mt) (fun i=>T.length - i) 0 ⟨by omega,rfl⟩ ?_
 rintro J i hJ u1 m1 l1 ⟨hi,rfl⟩;by_cases hlt:i < T.length
 ·refine G.lT (i:Int) (T.length:Int) ?_;have hTi:T[i]?=some T[i]:=List.getElem?_eq_getElem hlt;obtain ⟨ba,oa,rfl,ea⟩:=Ad.at' (h.mono l1) (j:=i) (e:=Cw T[i]) (by simp [hTi]);refine G.a ba oa T.length c i 5 (by omega) ?_;refine G.lU (some 5) ba (oa+i*5) (Cw T[i]) ea ?_;refine G.call0 fid [Cw T[i]] (by kernel_rfl) hcall (hf T[i] (List.getElem_mem hlt) u1 l1) ?_;rintro v2 u2 l2 rfl;refine G.i i ?_;exact G.b (hJ (i+1) _ _ _ cv (l1.trans l2) ⟨by omega,rfl⟩ (by omega))
 ·obtain rfl:i=T.length:=by omega
  refine G.lF (T.length:Int) (T.length:Int) ?_;exact G.r (.int .i64 (-1)) ⟨rfl,rfl⟩
theorem Aap {u:PH}{v:Value}{T:List ((Par×Par)×Rat)}{fid:Nat}(h:Ad u v 5 (T.map Cw))(hl:T.length≤1000000)
  (hcall:∀ args w,(callFunc fid args).run Tryz.prog w=.ok (.enter fid args) w) (hf:∀ p∈T,∀ u',PH.le u u'→Fn0 Tryz.prog fid [Cw p] u' fun v _=>v=.bool false) :
  Fn0 Tryz.prog 151 [v,.func (.func fid) #[] #[]] u fun v' _=>v'=.bool false:=by
 obtain ⟨a,c,rfl⟩:=h.opn;refine Fn0.o Tryz.func151 ?_;refine G.c Tryz.call204 (Aju h hl hcall hf) ?_;rintro v1 u1 l1 rfl;refine G.hF (-1) 0 ?_;exact G.r (.bool false) ⟨rfl,rfl⟩
theorem Xb {u:PH}{v:Value}{T:List ((Par×Par)×Rat)}{fid:Nat}(h:Ad u v 5 (T.map Cw))(hl:T.length≤1000000)
  (hcall:∀ args w,(callFunc fid args).run Tryz.prog w=.ok (.enter fid args) w) (hf:∀ (i:Nat) x y,T[i]?=some x→T[i+1]?=some y→∀ u',Fn0 Tryz.prog fid [Cw x,Cw y] u' fun v _=>v=.bool true) :
  Fn0 Tryz.prog 156 [v,.func (.func fid) #[] #[]] u fun v' _=>v'=.bool true:=by
 obtain ⟨a,c,rfl⟩:=h.opn;rw [List.length_map] at h ⊢;refine Fn0.o Tryz.func156 ?_;refine G.l (ι:=Nat) (fun i=>[(0,.v (.slice a T.length c)),(1,.v (.func (.func fid) #[] #[])),(5,.v (.int .i64 ((i+1:Nat):Int)))]) (fun _=>[])
  (fun i u' m'=>i≤T.length∧m'=PH.mt) (fun i=>T.length - i) 0 ⟨by omega,rfl⟩ ?_
 rintro J i hJ u1 m1 l1 ⟨hi,rfl⟩;by_cases hlt:i+1 < T.length
 ·refine G.lT ((i+1:Nat):Int) (T.length:Int) ?_;have hTi:T[i]?=some T[i]:=List.getElem?_eq_getElem (by omega);have hTj:T[i+1]?=some T[i+1]:=List.getElem?_eq_getElem hlt;obtain ⟨ba,oa,rfl,ea⟩:=Ad.at' (h.mono l1) (j:=i) (e:=Cw T[i]) (by simp [hTi]);obtain ⟨_,_,e',eb⟩:=Ad.at' (h.mono l1) (j:=i+1) (e:=Cw T[i+1]) (by simp [hTj]);cases e';refine G.s ((i+1:Nat):Int) 1 (i:Int) ?_;refine G.a ba oa T.length c i 5 (by omega) ?_;refine G.lU (some 5) ba (oa+i*5) (Cw T[i]) ea ?_;refine G.a ba oa T.length c (i+1) 5 (by omega) ?_;refine G.lU (some 5) ba (oa+(i+1)*5) (Cw T[i+1]) eb ?_;refine G.call0 fid [Cw T[i],Cw T[i+1]] (by kernel_rfl) hcall (hf i _ _ hTi hTj u1) ?_;rintro v2 u2 l2 rfl;refine G.p ((i+1:Nat):Int) 1 ((i+1+1:Nat):Int) ?_;exact G.b (hJ (i+1) _ _ _ cv (l1.trans l2) ⟨by omega,rfl⟩ (by omega))
 ·refine G.lF ((i+1:Nat):Int) (T.length:Int) ?_;exact G.r (.bool true) ⟨rfl,rfl⟩
theorem Ty {κ:Type}{c:κ→κ→Int}{T:List (κ×Rat)}(h:Dx c (T.map (·.1))){i:Nat}{x y:κ×Rat}(hx:T[i]?=some x)(hy:T[i+1]?=some y):c x.1 y.1 < 0:=by
 obtain ⟨h1,rfl⟩:=List.getElem?_eq_some_iff.1 hx;obtain ⟨h2,rfl⟩:=List.getElem?_eq_some_iff.1 hy;have:=List.pairwise_iff_getElem.1 h i (i+1) (by simpa using h1) (by simpa using h2) (by omega);simpa using this
theorem Abw {u:PH}{v:Value}{F:CF}{K:Nat}(hv:Hb u v F K)(sF:CFS F)(vF:CFV F)(hK:K≤1000000):Fn0 Tryz.prog 87 [v] u fun v' _=>v'=.bool true:=by
 obtain ⟨T,Q,a1,c1,a2,c2,rfl,hT,hQ,cT,cQ,kT,kQ⟩:=hv;refine Fn0.o Tryz.func87 ?_;refine G.c Tryz.call146 (Ho (SB.tx sF.c)) ?_;rintro v1 u1 l1 rfl;refine G.c Tryz.call147 (Q3 (fid:=148) (hT.mono l1) (by omega) Tryz.call148 (fun p hp u' _=>by
  obtain ⟨e1,e2⟩:=cT.val p hp;exact An5 (vF.s _ (by rw [← e1]; exact e2)) (SB.tx (by rw [e1]; exact sF.s _)) e2)) ?_
 rintro v2 u2 l2 rfl;refine G.c Tryz.call151 (Aap (fid:=152) (hQ.mono (l1.trans l2)) (by omega) Tryz.call152 (fun p hp u' _=>by
  obtain ⟨e1,e2⟩:=cQ.val p hp;obtain ⟨f1,f2,f3⟩:=vF.t p.1 (by rw [← e1]; exact e2);exact Aok f1 f2 f3 (SB.tx (by rw [e1]; exact sF.t _)) e2)) ?_
 rintro v3 u3 l3 rfl;refine G.c Tryz.call154 (X6 (fid:=155) (hT.mono ((l1.trans l2).trans l3)) (by omega) Tryz.call155 (fun i x y hx hy u'=>Amq (Ty cT.srt hx hy))) ?_;rintro v4 u4 l4 rfl;refine G.c Tryz.call156 (Xb (fid:=157) (hQ.mono (((l1.trans l2).trans l3).trans l4)) (by omega) Tryz.call157 (fun i x y hx hy u'=>Amw (Ty cQ.srt hx hy))) ?_;rintro v5 u5 l5 rfl;exact G.r (.bool true) ⟨rfl,rfl⟩
end
section
open Go.RowKit Go.MapKept
section
variable {P:Program}
end
def Akk (u:PH)(v:Value)(F:CF)(K:Nat):Prop:=∃ r,v=.tuple #[r,.int .i64 0]∧Hb u r F K
theorem Hb.opn {u:PH}{v:Value}{F:CF}{K:Nat}(h:Hb u v F K):∃ a1 n1 c1 a2 n2 c2,v=.agg #[.string (mkS (Ag F.c)),.slice a1 n1 c1,.slice a2 n2 c2]:=by
 obtain ⟨T,Q,a1,c1,a2,c2,rfl,_⟩:=h;exact ⟨_,_,_,_,_,_,rfl⟩
theorem B7 {u:PH}{v:Value}{F:CF}{N:Nat}(h:Df u v F N):∃ b a n c b' a' n' c' g1 g2,v=.agg #[.bool b,.slice a n c,.bool b',.slice a' n' c',.map (some g1),.map (some g2)]:=by
 obtain ⟨b,a,n,c,b',a',n',c',g1,g2,o1,o2,e,_⟩:=h;exact ⟨_,_,_,_,_,_,_,_,_,_,e⟩
theorem Anb {u:PH}{F H:CF}{N M:Nat}{v w:Value}(hv:Df u v F N)(hw:Df u w H M)(ok:Aci F H):Fn0 Tryz.prog 131 [v,w] u fun v' u'=>Df u' v' (F.mul H) (M+N+N*M) :=
 Fn0.weak (Ae.giveAll (Anx hv hw ok)) fun v u' ⟨u1,m1,l1,l2,h⟩=>h.give l1 l2
def CF.num (k:Rat):CF:=⟨k,fun _=>0,fun _=>0⟩
end
section
open Go.RowKit Go.MapKept
section rules
variable [Cb] {P:Program} [Bb P] {fn:Func} {Post:B4} {st:List KI×S} {u m:PH}
def FnK (P:Program)(f:FuncId)(args:List Value)(u m:PH)(R:Value→PH→Prop):Prop:=Ae P f args u m fun v u' m'=>m'=m∧R v u'
theorem FnK.of {R:Value→PH→Prop}{f:FuncId}{args:List Value}(hf:P.funcs[f]?=some fn)(hb:fn.body.isSome=true)(hn:Nat.ble args.length fn.ntmps=true)(h:G P fn ⟨fun v u' m'=>m'=m∧R v u',m⟩ (st0 fn args) u m):FnK P f args u m R:=Ae.of hf hb hn h
theorem G.callK (f:Nat)(args:List Value){R:Value→PH→Prop}(h:Al P (adv P st)=.call f args)(hc:∀ args w,(callFunc f args).run P w=.ok (.enter f args) w)(c:FnK P f args u m R)
  (k:∀ v u',PH.le u u'→R v u'→G P fn Post (nx (adv P st) v) u' m):G P fn Post st u m:=by
 refine G.big (K:=fun v u' m'=>m'=m∧R v u') h (by simp) F8 (.inl fun v u' m' hK=>by rw [hK.1]; exact fun g o hg=>hg) (fun env o hview w hgd=>?_) (fun v u' m' h1 h2=>?_)
 ·refine Lj hview hc w _ (Calls.mono (c w hgd) fun e w' he=>?_);obtain ⟨v,u',m',e1,e2,e3,e4⟩:=he;exact ⟨v,e1,u',m',e2,e3,e4⟩
 ·obtain ⟨rfl,hR⟩:=h2; exact k v u' h1 hR
end rules
section
theorem Ajg {u m:PH}{b n c:Nat}{x:List UInt8}(L:List (List UInt8))(hn:n≤L.length)(hl:n≤1000000)(hE:∀ j s,L[j]?=some s→ElP m b (0+j*1) (.string (mkS s)))(hx:∀ j s,j < n→L[j]?=some s→s≠x) :
  FnK Tryz.prog 285 [.slice (some ⟨b,0,none⟩) n c,.string (mkS x)] u m fun v _=>v=.int .i64 (-1):=by
 refine FnK.of Tryz.func285 (by kernel_rfl) (by kernel_rfl) ?_;refine G.l (ι:=Nat) (fun i=>[(0,.v (.slice (some ⟨b,0,none⟩) n c)),(1,.v (.string (mkS x))),(7,.v (.int .i64 (n:Int))),(8,.v (.int .i64 (i:Int)))]) (fun _=>[])
  (fun i u' m'=>i≤n∧m'=m) (fun i=>n - i) 0 ⟨by omega,rfl⟩ ?_
 rintro J i hJ u1 m1 l1 ⟨hi,rfl⟩;by_cases hlt:i < n
 ·refine G.lT (i:Int) (n:Int) ?_;have hTi:L[i]?=some L[i]:=List.getElem?_eq_getElem (by omega);refine G.a b 0 n c i 1 hlt ?_;refine G.lM none b (0+i*1) (.string (mkS L[i])) (hE i _ hTi) ?_;refine G.w x L[i] (fun e=>hx i _ hlt hTi e.symm) ?_;refine G.i i ?_;exact G.b (hJ (i+1) _ _ _ cv l1 ⟨by omega,rfl⟩ (by omega))
 ·obtain rfl:i=n:=by omega
  refine G.lF (i:Int) (i:Int) ?_;exact G.r (.int .i64 (-1)) ⟨rfl,rfl⟩
theorem Z8 {u m:PH}{b n c:Nat}{x:List UInt8}(L:List (List UInt8))(hn:n≤L.length)(hl:n≤1000000)(hE:∀ j s,L[j]?=some s→ElP m b (0+j*1) (.string (mkS s)))(hx:∀ j s,j < n→L[j]?=some s→s≠x) :
  FnK Tryz.prog 262 [.slice (some ⟨b,0,none⟩) n c,.string (mkS x)] u m fun v _=>v=.bool false:=by
 refine FnK.of Tryz.func262 (by kernel_rfl) (by kernel_rfl) ?_;refine G.callK _ _ (by kernel_rfl) Tryz.call285 (Ajg (c:=c) L hn hl hE hx) ?_;rintro v1 u1 l1 rfl;refine G.hF (-1) 0 ?_;exact G.r (.bool false) ⟨rfl,rfl⟩
structure Nb (L:List (List UInt8)):Prop where
 word:∀ s∈L,Gc s=true
 nodup:L.Nodup
theorem Afy {u m:PH}{b k c:Nat}{x:List UInt8}{L:List (List UInt8)}(h:Nb L)(hl:L.length≤1000)(hc:L.length≤c)(hk:L[k]?=some x)(hE:∀ j s,L[j]?=some s→ElP m b (0+j*1) (.string (mkS s))) :
  FnK Tryz.prog 218 [.slice (some ⟨b,0,none⟩) L.length c,.int .i64 (k:Int)] u m fun v _=>v=.int .i64 0:=by
 obtain ⟨hkl,hkx⟩:=List.getElem?_eq_some_iff.1 hk;refine FnK.of Tryz.func218 (by kernel_rfl) (by kernel_rfl) ?_;refine G.a b 0 L.length c k 1 hkl ?_;refine G.lM none b (0+k*1) (.string (mkS x)) (hE k x hk) ?_;refine G.c Tryz.call189 (Acp (h.word x (List.mem_of_getElem? hk))) ?_;rintro v1 u1 l1 rfl;refine G.sliceTo 1 (some ⟨b,0,none⟩) L.length c k (by kernel_rfl) (by omega) ?_;refine G.a b 0 L.length c k 1 hkl ?_;refine G.lM none b (0+k*1) (.string (mkS x)) (hE k x hk) ?_;refine G.callK _ _ (by kernel_rfl) Tryz.call262 (Z8 (n:=k) (c:=c) (x:=x) L (by omega) (by omega) hE fun j s hj hs e=>?_) ?_
 ·obtain ⟨hjl,hjx⟩:=List.getElem?_eq_some_iff.1 hs;have:=(List.getElem_inj (h₀:=hjl) (h₁:=hkl) h.nodup).1 (by rw [hjx,hkx,e]);omega
 rintro v2 u2 l2 rfl;exact G.r (.int .i64 0) ⟨rfl,rfl⟩
def Dh (a:List UInt8×Nat):Value:=.agg #[.string (mkS a.1),.int .i64 (a.2:Int)]
def nmV (s:List UInt8):Value:=.string (mkS s)
theorem Hz (L:List (List UInt8)):A9 1 (L.map nmV):=by
 intro e he;obtain ⟨s,_,rfl⟩:=List.mem_map.1 he;exact ⟨rfl,List.all_eq_true.1 rfl⟩
end
end
section
open Go.RowKit Go.MapKept
structure Agt (T:List (List UInt8×Nat)):Prop where
 names:Nb (T.map (·.1))
 kind:∀ a∈T,1≤a.2∧a.2≤3
theorem Nb.take {L:List (List UInt8)}(h:Nb L)(k:Nat):Nb (L.take k):=⟨fun s hs=>h.word s (List.mem_of_mem_take hs),h.nodup.sublist (List.take_sublist _ _)⟩
theorem getElem?_snoc_last {α:Type}(l:List α)(x:α):(l++[x])[l.length]?=some x:=by simp
theorem Y3 {u:PH}{v w x y:Value}{T:List (List UInt8×Nat)}(h:Ad u v 2 (T.map Dh))(ok:Agt T)(hl:T.length≤1000)(hw:∃ a n c,w=.slice a n c)(hx:∃ a n c,x=.slice a n c)(hy:∃ z:Int,y=.int .i64 z) :
  Fn0 Tryz.prog 177 [.agg #[v,w,x,y]] u fun r _=>r=.int .i64 0:=by
 obtain ⟨a,c,rfl⟩:=h.opn;obtain ⟨wa,wn,wc,rfl⟩:=hw;obtain ⟨xa,xn,xc,rfl⟩:=hx;obtain ⟨z,rfl⟩:=hy;rw [List.length_map] at h ⊢;refine Fn0.o Tryz.func177 ?_;refine G.l (ι:=Nat×(Option Addr×Nat×Nat)) (fun i=>[(3,.v (.slice i.2.1 i.2.2.1 i.2.2.2)),(8,.v (.slice a T.length c)),(9,.v (.int .i64 (T.length:Int))),(10,.v (.int .i64 (i.1:Int)))]) (fun _=>[])
  (fun i u' m'=>i.1≤T.length∧Af PH.mt m' (.slice i.2.1 i.2.2.1 i.2.2.2) 9 1 (((T.map (·.1)).take i.1).map nmV)) (fun i=>T.length - i.1) (0,(none,0,0)) ⟨by simp,Af.nil _ _ _⟩ ?_
 rintro J ⟨i,na,nn,nc⟩ hJ u1 m1 l1 ⟨hi,hA⟩;simp only at hi hA hJ;by_cases hlt:i < T.length
 ·refine G.lT (i:Int) (T.length:Int) ?_;have hTi:T[i]?=some T[i]:=List.getElem?_eq_getElem hlt;have hki:=ok.kind T[i] (List.getElem_mem hlt);have htk:((T.map (·.1)).take (i+1))=(T.map (·.1)).take i++[T[i].1]:=by
   rw [List.take_add_one,List.getElem?_map,hTi]; rfl
  have hnames:=ok.names.take (i+1);rw [htk] at hnames;have hlen:((T.map (·.1)).take i).length=i:=by simp; omega
  generalize hL:(T.map (·.1)).take i=L at hA htk hnames hlen;obtain ⟨ba,oa,rfl,ea⟩:=Ad.at' (h.mono l1) (j:=i) (e:=Dh T[i]) (by simp [hTi]);generalize T[i]=q at ea hki htk hnames;refine G.a ba oa T.length c i 2 hlt ?_;refine G.lU (some 2) ba (oa+i*2) (.agg #[.string (mkS q.1),.int .i64 (q.2:Int)]) ea ?_;refine G.B 9 1 16 (.string (mkS [])) [.string (mkS q.1)] (Hz [q.1]) ?_;intro g2 u2 l2 e2;refine G.k 9 1 16 (.string (mkS [])) PH.mt (L.map nmV) [.string (mkS q.1)] (.slice na nn nc) g2 0 1 1 hA e2 (Hz [q.1]) ?_;intro v3 m3 hA3;rw [show L.map nmV++[.string (mkS q.1)]=(L++[q.1]).map nmV by rw [List.map_append]; rfl] at hA3;obtain ⟨b3,c3,rfl⟩:=hA3.ptr (by simp);have hcap:=hA3.cap;rw [List.length_map] at hA3 hcap ⊢;refine G.callK _ _ (by kernel_rfl) Tryz.call218 (Afy (b:=b3) (k:=i) (c:=c3) (x:=q.1) (L:=L++[q.1]) hnames (by simp; omega) hcap (by rw [← hlen]; exact getElem?_snoc_last L q.1) fun j s hs=>hA3.el (by rw [List.getElem?_map,hs]; rfl)) ?_;rintro v4 u4 l4 rfl;refine G.nF 0 0 ?_;refine G.lF (q.2:Int) 1 ?_;refine G.gF (q.2:Int) 3 ?_;refine G.i i ?_;exact G.b (hJ (i+1,(some ⟨b3,0,none⟩,(L++[q.1]).length,c3)) _ _ _ cv ((l1.trans l2).trans l4) ⟨by dsimp only; omega,by dsimp only; rw [htk]; exact hA3⟩ (by dsimp only; omega))
 ·obtain rfl:i=T.length:=by omega
  refine G.lF (T.length:Int) (T.length:Int) ?_;refine G.pastI ?_;refine G.drop PH.mt (by kernel_rfl) (PH.mt_le _) ?_;exact G.r (.int .i64 0) ⟨rfl,rfl⟩
end
section
open Go.RowKit Go.MapKept
abbrev Am:Type:=Nat×Nat×Nat
def Bt (f:Am):Value:=.agg #[.int .i64 (f.1:Int),.int .i64 (f.2.1:Int),.int .i64 (f.2.2:Int)]
def Rd {α:Type}(p:α→Bool)(T:List α):Int:=match T.findIdx? p with | some k=>(k:Int) | none=>-1
theorem Ai3 {α:Type}{p:α→Bool}{T:List α}{i:Nat}(hi:i < T.length)(h:p T[i]=true)(h0:∀ j (hj:j < i),p (T[j]'(by omega))=false):Rd p T=(i:Int):=by
 have:T.findIdx? p=some i:=List.findIdx?_eq_some_iff_getElem.2 ⟨hi,h,fun j hj=>by simp [h0 j hj]⟩;unfold Rd; rw [this]
theorem Wi {α:Type}{p:α→Bool}{T:List α}(h0:∀ x∈T,p x=false):Rd p T = -1:=by
 have:T.findIdx? p=none:=List.findIdx?_eq_none_iff.2 h0;unfold Rd; rw [this]
theorem He {u m:PH}{v cap:Value}{T:List Am}{fid:Nat}(p:Am→Bool)(h:Ad u v 3 (T.map Bt))(hl:T.length≤1000000)
  (hcall:∀ args w,(callFunc fid args).run Tryz.prog w=.ok (.enter fid args) w) (hf:∀ f∈T,∀ u',PH.le u u'→FnK Tryz.prog fid [Bt f,cap] u' m fun v _=>v=.bool (p f)) :
  FnK Tryz.prog 192 [v,.func (.func fid) #[] #[cap]] u m fun v' _=>v'=.int .i64 (Rd p T):=by
 obtain ⟨a,c,rfl⟩:=h.opn;rw [List.length_map] at h ⊢;refine FnK.of Tryz.func192 (by kernel_rfl) (by kernel_rfl) ?_;refine G.l (ι:=Nat) (fun i=>[(0,.v (.slice a T.length c)),(1,.v (.func (.func fid) #[] #[cap])),(7,.v (.int .i64 (T.length:Int))),(8,.v (.int .i64 (i:Int)))]) (fun _=>[])
  (fun i u' m'=>i≤T.length∧(∀ j (hj:j < T.length),j < i→p (T[j]'hj)=false)∧m'=m) (fun i=>T.length - i) 0 ⟨by omega,fun j hj h=>by omega,rfl⟩ ?_
 rintro J i hJ u1 m1 l1 ⟨hi,h0,rfl⟩;by_cases hlt:i < T.length
 ·refine G.lT (i:Int) (T.length:Int) ?_;have hTi:T[i]?=some T[i]:=List.getElem?_eq_getElem hlt;obtain ⟨ba,oa,rfl,ea⟩:=Ad.at' (h.mono l1) (j:=i) (e:=Bt T[i]) (by simp [hTi]);refine G.a ba oa T.length c i 3 (by omega) ?_;refine G.lU (some 3) ba (oa+i*3) (Bt T[i]) ea ?_;refine G.callK fid [Bt T[i],cap] (by kernel_rfl) hcall (hf T[i] (List.getElem_mem hlt) u1 l1) ?_;rintro v2 u2 l2 rfl;cases hp:p T[i] with
  | true =>
   rw [Ai3 hlt hp fun j hj=>h0 j (by omega) hj];exact G.r (.int .i64 (i:Int)) ⟨rfl,rfl⟩
  | false =>
   refine G.i i ?_;exact G.b (hJ (i+1) _ _ _ cv (l1.trans l2) ⟨by omega,fun j hj h=>by
    rcases (by omega:j < i∨j=i) with e | rfl
    ·exact h0 j hj e
    ·exact hp,rfl⟩ (by omega))
 ·obtain rfl:i=T.length:=by omega
  refine G.lF (T.length:Int) (T.length:Int) ?_;rw [Wi fun x hx=>by obtain ⟨j,hj,rfl⟩:=List.getElem_of_mem hx; exact h0 j hj hj];exact G.r (.int .i64 (-1)) ⟨rfl,rfl⟩
theorem Jp {u m:PH}{v cap:Value}{T:List Am}{fid:Nat}(h:Ad u v 3 (T.map Bt))(hl:T.length≤1000000)
  (hcall:∀ args w,(callFunc fid args).run Tryz.prog w=.ok (.enter fid args) w) (hf:∀ f∈T,∀ u',PH.le u u'→FnK Tryz.prog fid [Bt f,cap] u' m fun v _=>v=.bool false) :
  FnK Tryz.prog 129 [v,.func (.func fid) #[] #[cap]] u m fun v' _=>v'=.bool false:=by
 obtain ⟨a,c,rfl⟩:=h.opn;refine FnK.of Tryz.func129 (by kernel_rfl) (by kernel_rfl) ?_;refine G.callK _ _ (by kernel_rfl) Tryz.call192 (He (cap:=cap) (fun _=>false) h hl hcall hf) ?_;rintro v1 u1 l1 rfl;rw [Wi fun x _=>rfl];refine G.hF (-1) 0 ?_;exact G.r (.bool false) ⟨rfl,rfl⟩
theorem R5 {u m:PH}{f g:Am}{b:Nat}(hb:ElP m b 0 (Bt g))(hne:f.1≠g.1):FnK Tryz.prog 220 [Bt f,.pointer (some ⟨b,0,none⟩)] u m fun v _=>v=.bool false:=by
 refine FnK.of Tryz.func220 (by kernel_rfl) (by kernel_rfl) ?_;refine G.f 118 b 0 0 0 ?_;refine G.lM none b (0+0) (.int .i64 (g.1:Int)) (fun i x hx=>?_) ?_
 ·have:i=0∧x=.int .i64 (g.1:Int):=by
   match i,hx with
   | 0,hx=>exact ⟨rfl,by simpa [Value.cells] using hx.symm⟩
   | i+1,hx=>simp [Value.cells] at hx
  obtain ⟨rfl,rfl⟩:=this;exact hb 0 _ rfl
 refine G.eF (f.1:Int) (g.1:Int) ?_;exact G.r (.bool false) ⟨rfl,rfl⟩
structure Cy (T:List (List UInt8×Nat))(F:List Am)(lab:Int):Prop where
 ok:∀ f∈F,∃ n k,T[f.1]?=some (n,k)∧((f.2.1=1∧k=2∧f.2.2≤1)∨(f.2.1=2∧k=3∧f.2.2=0))∧(f.1:Int)≠lab
 nodup:(F.map (·.1)).Nodup
end
section
open Go.RowKit Go.MapKept
theorem Ad.cap {u:PH}{a:Option Addr}{n c sz:Nat}{es:List Value}(h:Ad u (.slice a n c) sz es):es.length≤c:=by
 obtain ⟨_,_,e,hc,_⟩:=h;cases e; exact hc
theorem I0 {u:PH}{b off:Nat}{q:List UInt8×Nat}(h:ElP u b off (Dh q)):ElP u b (off+1) (.int .i64 (q.2:Int)):=fun i x hx=>by
 match i,hx with
 | 0,hx =>
  have:x=.int .i64 (q.2:Int):=by simpa [Value.cells] using hx.symm
  subst this;exact h 1 _ rfl
 | i+1,hx=>simp [Value.cells] at hx
theorem Lt {m:PH}{b:Nat}{t:TypeId}{xs:List Value}{e:Value}(he:e.cells=xs.toArray):ElP (m.upd b (.cells xs.toArray t (0,0))) b 0 e:=fun i x hx=>by
 refine ⟨_,_,_,Ab _ _ _,?_⟩;rw [he] at hx;simpa using hx
theorem Z0 {m:PH}{b:Nat}{g:Am}(hb:ElP m b 0 (Bt g)):ElP m b (0+0) (.int .i64 (g.1:Int)):=fun i x hx=>by
 match i,hx with
 | 0,hx =>
  have:x=.int .i64 (g.1:Int):=by simpa [Value.cells] using hx.symm
  subst this;exact hb 0 _ rfl
 | i+1,hx=>simp [Value.cells] at hx
theorem Aen {u:PH}{v w x:Value}{T:List (List UInt8×Nat)}{F:List Am}{lab:Int}(h:Ad u v 2 (T.map Dh))(hF:Ad u x 3 (F.map Bt))(ok:Cy T F lab)(hl:T.length≤1000)(hl2:F.length≤1000)(hw:∃ a n c,w=.slice a n c) :
  Fn0 Tryz.prog 179 [.agg #[v,w,x,.int .i64 lab]] u fun r _=>r=.int .i64 0:=by
 obtain ⟨a,c,rfl⟩:=h.opn;obtain ⟨a',c',rfl⟩:=hF.opn;obtain ⟨wa,wn,wc,rfl⟩:=hw;have hcap:=hF.cap;rw [List.length_map] at h hF hcap ⊢;rw [List.length_map];refine Fn0.o Tryz.func179 ?_;refine G.l (ι:=Nat) (fun i=>[(1,.p 0 0),(9,.v (.slice a' F.length c')),(10,.v (.int .i64 (F.length:Int))),(11,.v (.int .i64 (i:Int)))]) (fun _=>[(0,⟨30,[.v (.slice a T.length c),.v (.slice wa wn wc),.v (.slice a' F.length c'),.v (.int .i64 lab)]⟩)])
  (fun i u' m'=>i≤F.length∧m'=PH.mt) (fun i=>F.length - i) 0 ⟨by omega,rfl⟩ ?_
 rintro J i hJ u1 m1 l1 ⟨hi,rfl⟩;by_cases hlt:i < F.length
 ·refine G.lT (i:Int) (F.length:Int) ?_;have hTi:F[i]?=some F[i]:=List.getElem?_eq_getElem hlt;obtain ⟨n,k,hk,hkind,hlab⟩:=ok.ok F[i] (List.getElem_mem hlt);have hdiff:∀ f∈F.take i,f.1≠(F[i]).1:=by
   intro f hf;obtain ⟨j,hj,rfl⟩:=List.getElem_of_mem hf;rw [List.length_take] at hj;rw [List.getElem_take];intro e;have:=(List.getElem_inj (xs:=F.map (·.1)) (h₀:=by rw [List.length_map]; omega) (h₁:=by rw [List.length_map]; omega) (i:=j) (j:=i) ok.nodup).1 (by rw [List.getElem_map,List.getElem_map]; exact e);omega
  obtain ⟨ba,oa,rfl,ea⟩:=Ad.at' (hF.mono l1) (j:=i) (e:=Bt F[i]) (by simp [hTi]);have hTk:=(hF.mono l1).take' i (by rw [List.length_map]; omega);rw [← List.map_take] at hTk;have htl:(F.take i).length=i:=by rw [List.length_take]; omega
  generalize F[i]=f at ea hk hkind hlab hdiff;obtain ⟨hkl,hkx⟩:=List.getElem?_eq_some_iff.1 hk;obtain ⟨bb,ob,rfl,eb⟩:=Ad.at' (h.mono l1) (j:=f.1) (e:=Dh (n,k)) (by simp [hk]);refine G.a ba oa F.length c' i 3 hlt ?_;refine G.lU (some 3) ba (oa+i*3) (.agg #[.int .i64 (f.1:Int),.int .i64 (f.2.1:Int),.int .i64 (f.2.2:Int)]) ea ?_;refine G.lF (f.1:Int) 0 ?_;refine G.hF (f.1:Int) (T.length:Int) ?_;refine G.a bb ob T.length c f.1 2 hkl ?_;refine G.f 73 bb (ob+f.1*2) 1 1 ?_;refine G.lU none bb (ob+f.1*2+1) (.int .i64 (k:Int)) (I0 eb) ?_;rcases hkind with ⟨k1,k2,k3⟩ | ⟨k1,k2,k3⟩
  ·refine G.eT (f.2.1:Int) 1 ?_;refine G.eT (k:Int) 2 ?_;by_cases k0:f.2.2=0
   ·refine G.eT (f.2.2:Int) 0 ?_;refine G.eF (f.2.1:Int) 2 ?_;refine G.pastI ?_;refine G.pub 3003 118 [.int .i64 (f.1:Int),.int .i64 (f.2.1:Int),.int .i64 (f.2.2:Int)] (by kernel_rfl) (by kernel_rfl) ?_;intro e2 hu2 hm2;refine G.f 118 e2 0 0 0 ?_;refine G.lM none e2 (0+0) (.int .i64 (f.1:Int)) (Z0 (g:=f) (Lt rfl)) ?_;refine G.eF' (f.1:Int) lab hlab ?_;refine G.sliceTo 3 (some ⟨ba,oa,none⟩) F.length c' i (by kernel_rfl) (by omega) ?_;refine G.callK _ _ (by kernel_rfl) Tryz.call129 (Jp hTk (by rw [List.length_take]; omega) Tryz.call220 fun f' hf' u' _=>R5 (g:=f) (Lt rfl) (hdiff f' hf')) ?_;rintro v2 u2 l2 rfl;refine G.drop PH.mt (by kernel_rfl) (PH.mt_le _) ?_;refine G.i i ?_;exact G.b (hJ (i+1) _ _ _ cv (l1.trans l2) ⟨by omega,rfl⟩ (by omega))
   ·refine G.eF (f.2.2:Int) 0 ?_;refine G.eT (f.2.2:Int) 1 ?_;refine G.eF (f.2.1:Int) 2 ?_;refine G.pastI ?_;refine G.pub 3003 118 [.int .i64 (f.1:Int),.int .i64 (f.2.1:Int),.int .i64 (f.2.2:Int)] (by kernel_rfl) (by kernel_rfl) ?_;intro e2 hu2 hm2;refine G.f 118 e2 0 0 0 ?_;refine G.lM none e2 (0+0) (.int .i64 (f.1:Int)) (Z0 (g:=f) (Lt rfl)) ?_;refine G.eF' (f.1:Int) lab hlab ?_;refine G.sliceTo 3 (some ⟨ba,oa,none⟩) F.length c' i (by kernel_rfl) (by omega) ?_;refine G.callK _ _ (by kernel_rfl) Tryz.call129 (Jp hTk (by rw [List.length_take]; omega) Tryz.call220 fun f' hf' u' _=>R5 (g:=f) (Lt rfl) (hdiff f' hf')) ?_;rintro v2 u2 l2 rfl;refine G.drop PH.mt (by kernel_rfl) (PH.mt_le _) ?_;refine G.i i ?_;exact G.b (hJ (i+1) _ _ _ cv (l1.trans l2) ⟨by omega,rfl⟩ (by omega))
  ·refine G.eF (f.2.1:Int) 1 ?_;refine G.eT (f.2.1:Int) 2 ?_;refine G.eT (k:Int) 3 ?_;refine G.eT (f.2.2:Int) 0 ?_;refine G.pastI ?_;refine G.pub 3003 118 [.int .i64 (f.1:Int),.int .i64 (f.2.1:Int),.int .i64 (f.2.2:Int)] (by kernel_rfl) (by kernel_rfl) ?_;intro e2 hu2 hm2;refine G.f 118 e2 0 0 0 ?_;refine G.lM none e2 (0+0) (.int .i64 (f.1:Int)) (Z0 (g:=f) (Lt rfl)) ?_;refine G.eF' (f.1:Int) lab hlab ?_;refine G.sliceTo 3 (some ⟨ba,oa,none⟩) F.length c' i (by kernel_rfl) (by omega) ?_;refine G.callK _ _ (by kernel_rfl) Tryz.call129 (Jp hTk (by rw [List.length_take]; omega) Tryz.call220 fun f' hf' u' _=>R5 (g:=f) (Lt rfl) (hdiff f' hf')) ?_;rintro v2 u2 l2 rfl;refine G.drop PH.mt (by kernel_rfl) (PH.mt_le _) ?_;refine G.i i ?_;exact G.b (hJ (i+1) _ _ _ cv (l1.trans l2) ⟨by omega,rfl⟩ (by omega))
 ·obtain rfl:i=F.length:=by omega
  refine G.lF (F.length:Int) (F.length:Int) ?_;exact G.r (.int .i64 0) ⟨rfl,rfl⟩
end
section
open Go.RowKit Go.MapKept
theorem Ajt {u m:PH}{b n c:Nat}{L:List Bool}(hn:n=L.length)(hl:n≤1000000)(hE:∀ (j:Nat) s,L[j]?=some s→ElP m b (0+j*1) (.bool s))(hx:∀ s∈L,s=true) :
  FnK Tryz.prog 263 [.slice (some ⟨b,0,none⟩) n c,.bool false] u m fun v _=>v=.int .i64 (-1):=by
 refine FnK.of Tryz.func263 (by kernel_rfl) (by kernel_rfl) ?_;refine G.l (ι:=Nat) (fun i=>[(0,.v (.slice (some ⟨b,0,none⟩) n c)),(1,.v (.bool false)),(7,.v (.int .i64 (n:Int))),(8,.v (.int .i64 (i:Int)))]) (fun _=>[])
  (fun i u' m'=>i≤n∧m'=m) (fun i=>n - i) 0 ⟨by omega,rfl⟩ ?_
 rintro J i hJ u1 m1 l1 ⟨hi,rfl⟩;by_cases hlt:i < n
 ·refine G.lT (i:Int) (n:Int) ?_;have hTi:L[i]?=some true:=by
   rw [List.getElem?_eq_getElem (by omega)];exact congrArg some (hx _ (List.getElem_mem (by omega)))
  refine G.a b 0 n c i 1 hlt ?_;refine G.lM none b (0+i*1) (.bool true) (hE i _ hTi) ?_;refine G.eqB false true (by kernel_rfl) ?_;refine G.i i ?_;exact G.b (hJ (i+1) _ _ _ cv l1 ⟨by omega,rfl⟩ (by omega))
 ·obtain rfl:i=n:=by omega
  refine G.lF (i:Int) (i:Int) ?_;exact G.r (.int .i64 (-1)) ⟨rfl,rfl⟩
theorem Aam {u m:PH}{b n c:Nat}{L:List Bool}(hn:n=L.length)(hl:n≤1000000)(hE:∀ (j:Nat) s,L[j]?=some s→ElP m b (0+j*1) (.bool s))(hx:∀ s∈L,s=true) :
  FnK Tryz.prog 219 [.slice (some ⟨b,0,none⟩) n c,.bool false] u m fun v _=>v=.bool false:=by
 refine FnK.of Tryz.func219 (by kernel_rfl) (by kernel_rfl) ?_;refine G.callK _ _ (by kernel_rfl) Tryz.call263 (Ajt (c:=c) (L:=L) hn hl hE hx) ?_;rintro v1 u1 l1 rfl;refine G.hF (-1) 0 ?_;exact G.r (.bool false) ⟨rfl,rfl⟩
abbrev Bn:Type:=List UInt8×List Nat×(Option Addr×Nat)
def Gf (r:Bn):Value:=.agg #[.string (mkS r.1),.slice r.2.2.1 r.2.1.length r.2.2.2]
structure L3 (u:PH)(n:Nat)(R:List Bn):Prop where
 names:Nb (R.map (·.1))
 ne:∀ r∈R,r.2.1≠[]
 lt:∀ r∈R,∀ a∈r.2.1,a < n
 len:∀ r∈R,r.2.1.length≤1000
 asc:∀ r∈R,∀ (k:Nat) x y,r.2.1[k]?=some x→r.2.1[k+1]?=some y→x < y
 all:∀ a < n,∃ r∈R,a∈r.2.1
 at':∀ r∈R,Ad u (.slice r.2.2.1 r.2.1.length r.2.2.2) 1 (Ai r.2.1)
def Afq (g n:Nat)(L:List Bool):Arr:=⟨.slice (some ⟨g,0,none⟩) n n,4,1,L.map .bool⟩
def Abp (a:Option Addr)(c:Nat)(L:List (List UInt8)):Arr:=⟨.slice a L.length c,9,1,L.map nmV⟩
theorem Ade {g n:Nat}{L:List Bool}{m0 m:PH}:(Afq g n L).At m0 m=Af m0 m (.slice (some ⟨g,0,none⟩) n n) 4 1 (L.map .bool):=rfl
theorem Ac4 {a:Option Addr}{c:Nat}{L:List (List UInt8)}{m0 m:PH}:(Abp a c L).At m0 m=Af m0 m (.slice a L.length c) 9 1 (L.map nmV):=rfl
theorem N9 (L:List Bool)(a:Nat):(L.map Value.bool).set a (.bool true)=(L.set a true).map Value.bool:=by rw [List.map_set]
theorem Zv {u:PH}{w x y:Value}{a0:Option Addr}{n c0:Nat}{R:List Bn}(hR:Ad u w 2 (R.map Gf))(ok:L3 u n R)(hn:n≤1000)(hn0:0 < n)(hl:R.length≤1000)(hx:∃ a n c,x=.slice a n c)(hy:∃ z:Int,y=.int .i64 z) :
  Fn0 Tryz.prog 178 [.agg #[.slice a0 n c0,w,x,y]] u fun r _=>r=.int .i64 0:=by
 obtain ⟨a,c,rfl⟩:=hR.opn;obtain ⟨xa,xn,xc,rfl⟩:=hx;obtain ⟨z,rfl⟩:=hy;rw [List.length_map] at hR ⊢;refine Fn0.o Tryz.func178 ?_;refine G.make 4 1 1 (.bool false) n (by kernel_rfl) rfl rfl (by omega) (by omega) (by omega) ?_;rintro v1 m1 hA1 ⟨ad,rfl⟩;obtain ⟨g,rfl,_⟩:=hA1.some';refine G.l (ι:=Nat×List Bool×List (List UInt8)×(Option Addr×Nat)) (fun i=>[(3,.v (.slice i.2.2.2.1 i.2.2.1.length i.2.2.2.2)),(4,.v (.slice (some ⟨g,0,none⟩) n n)),(16,.v (.slice a R.length c)),(17,.v (.int .i64 (R.length:Int))),(18,.v (.int .i64 (i.1:Int)))]) (fun _=>[])
  (fun i u' m'=>i.1≤R.length∧i.2.1.length=n∧i.2.2.1=(R.map (·.1)).take i.1∧(∀ r∈R.take i.1,∀ q∈r.2.1,i.2.1[q]?=some true)∧Bag m' [Afq g n i.2.1,Abp i.2.2.2.1 i.2.2.2.2 i.2.2.1]) (fun i=>R.length - i.1) (0,List.replicate n false,[],(none,0))
  ⟨by simp,by simp,by simp,by simp,⟨PH.mt,by rw [Ade,List.map_replicate]; exact hA1,PH.mt,Af.nil _ _ _,trivial⟩⟩ ?_
 rintro J ⟨i,L,N,⟨na,nc⟩⟩ hJ u2 m2 l2 ⟨hi,hL,hN,hall,hbag⟩;simp only at hi hL hN hall hbag hJ;by_cases hlt:i < R.length
 ·refine G.lT (i:Int) (R.length:Int) ?_;have hTi:R[i]?=some R[i]:=List.getElem?_eq_getElem hlt;have hmem:R[i]∈R:=List.getElem_mem hlt;have htk:(R.map (·.1)).take (i+1)=N++[R[i].1]:=by
   rw [List.take_add_one,List.getElem?_map,hTi,hN]; rfl
  have htk2:R.take (i+1)=R.take i++[R[i]]:=by
   rw [List.take_add_one,hTi]; rfl
  have hnames:=ok.names.take (i+1);rw [htk] at hnames;have hlen:N.length=i:=by rw [hN]; simp; omega
  obtain ⟨ba,oa,rfl,ea⟩:=Ad.at' (hR.mono l2) (j:=i) (e:=Gf R[i]) (by simp [hTi]);generalize R[i]=q at ea hmem htk htk2 hnames;obtain ⟨qs,ql,qa,qc⟩:=q;have hne:ql≠[]:=ok.ne _ hmem;have hlq:∀ p∈ql,p < n:=ok.lt _ hmem;have hql:ql.length≤1000:=ok.len _ hmem;have hasc:∀ (k:Nat) x y,ql[k]?=some x→ql[k+1]?=some y→x < y:=ok.asc _ hmem;have hqat:Ad u2 (.slice qa ql.length qc) 1 (Ai ql):=(ok.at' _ hmem).mono l2;have hq0:0 < ql.length:=List.length_pos_iff.2 hne;simp only at htk hnames;refine G.a ba oa R.length c i 2 hlt ?_;refine G.lU (some 2) ba (oa+i*2) (.agg #[.string (mkS qs),.slice qa ql.length qc]) ea ?_;refine G.B 9 1 16 (.string (mkS [])) [.string (mkS qs)] (Hz [qs]) ?_;intro g3 u3 l3 e3;obtain ⟨mm,hx0,hput⟩:=hbag.focus 1 rfl;rw [Ac4] at hx0;refine G.k 9 1 16 (.string (mkS [])) mm (N.map nmV) [.string (mkS qs)] (.slice na N.length nc) g3 0 1 1 hx0 e3 (Hz [qs]) ?_;intro v4 m4 hA4;rw [show N.map nmV++[.string (mkS qs)]=(N++[qs]).map nmV by rw [List.map_append]; rfl] at hA4;obtain ⟨b4,c4,rfl⟩:=hA4.ptr (by simp);have hcap:=hA4.cap;rw [List.length_map] at hA4 hcap ⊢;have hbag4:=hput (Abp (some ⟨b4,0,none⟩) c4 (N++[qs])) m4 hA4;simp only [List.set_cons_succ,List.set_cons_zero] at hbag4;refine G.callK _ _ (by kernel_rfl) Tryz.call218 (Afy (b:=b4) (k:=i) (c:=c4) (x:=qs) (L:=N++[qs]) hnames (by simp; omega) hcap (by rw [← hlen]; exact getElem?_snoc_last N qs) fun j s hs=>hA4.el (by rw [List.getElem?_map,hs]; rfl)) ?_;rintro v5 u5 l5 rfl;refine G.nF 0 0 ?_;refine G.eF (ql.length:Int) 0 ?_;generalize N++[qs]=N' at hbag4 htk;clear hA4 hput hx0 hbag hcap hnames;have hlt':∀ p∈ql,p < n:=hlq;refine G.l (ι:=Nat×List Bool) (fun j=>[(3,.v (.slice (some ⟨b4,0,none⟩) N'.length c4)),(4,.v (.slice (some ⟨g,0,none⟩) n n)),(6,.p 5003 0),(16,.v (.slice (some ⟨ba,oa,none⟩) R.length c)),(17,.v (.int .i64 (R.length:Int))),(18,.v (.int .i64 (i:Int))),(39,.v (.slice qa ql.length qc)),(40,.v (.int .i64 (ql.length:Int))),(41,.v (.int .i64 (j.1:Int)))])
   (fun _=>[(5003,⟨75,[.v (.string (mkS qs)),.v (.slice qa ql.length qc)]⟩)])
   (fun j u' m'=>j.1≤ql.length∧j.2.length=n∧(∀ r∈R.take i,∀ q∈r.2.1,j.2[q]?=some true)∧(∀ q∈ql.take j.1,j.2[q]?=some true)∧Bag m' [Afq g n j.2,Abp (some ⟨b4,0,none⟩) c4 N']) (fun j=>ql.length - j.1) (0,L)
   ⟨by simp,hL,hall,by simp,hbag4⟩ ?_
  rintro J2 ⟨j,L2⟩ hJ2 u6 m6 l6 ⟨hj,hL2,hall2,hrow2,hbag6⟩;simp only at hj hL2 hall2 hrow2 hbag6 hJ2;have hqat6:=hqat.mono ((l3.trans l5).trans l6);by_cases hltj:j < ql.length
  ·refine G.lT (j:Int) (ql.length:Int) ?_;have hqj:ql[j]?=some ql[j]:=List.getElem?_eq_getElem hltj;have hpn:ql[j] < n:=hlq _ (List.getElem_mem hltj);have htkj:ql.take (j+1)=ql.take j++[ql[j]]:=by rw [List.take_add_one,hqj]; rfl
   obtain ⟨bq,oq,rfl,eq⟩:=Ad.at' hqat6 (j:=j) (e:=.int .i64 (ql[j]:Int)) (by simp [Ai,hqj]);generalize ql[j]=p at eq hpn htkj;refine G.a bq oq ql.length qc j 1 hltj ?_;refine G.lU none bq (oq+j*1) (.int .i64 (p:Int)) eq ?_;refine G.lF (p:Int) 0 ?_;refine G.hF (p:Int) (n:Int) ?_;refine G.a g 0 n n p 1 hpn ?_;obtain ⟨mm2,hx2,hput2⟩:=hbag6.focus 0 rfl;rw [Ade] at hx2;refine G.storeA 1 mm2 (L2.map Value.bool) g n n p (.bool true) (by kernel_rfl) hx2 (by rw [List.length_map]; omega) rfl rfl ?_;intro m7 hA7;rw [N9] at hA7;have hbag7:=hput2 (Afq g n (L2.set p true)) m7 hA7;simp only [List.set_cons_zero] at hbag7;refine G.i j ?_;have hkeep:∀ q,L2[q]?=some true→(L2.set p true)[q]?=some true:=fun q hq=>by
    rw [List.getElem?_set];split
    ·subst_vars; rw [if_pos (by omega)]
    ·exact hq
   exact G.b (hJ2 (j+1,L2.set p true) _ _ _ cv l6 ⟨by dsimp only; omega,by simp [hL2],fun r hr q hq=>hkeep q (hall2 r hr q hq),by
    intro q hq;dsimp only at hq ⊢;rw [htkj,List.mem_append,List.mem_singleton] at hq;rcases hq with hq | rfl
    ·exact hkeep q (hrow2 q hq)
    ·rw [List.getElem?_set]; simp; omega,hbag7⟩ (by dsimp only; omega))
  ·obtain rfl:j=ql.length:=by omega
   refine G.lF (ql.length:Int) (ql.length:Int) ?_;rw [List.take_length] at hrow2;refine G.l (ι:=Nat) (fun k=>[(3,.v (.slice (some ⟨b4,0,none⟩) N'.length c4)),(4,.v (.slice (some ⟨g,0,none⟩) n n)),(6,.p 5003 0),(10,.v (.int .i64 ((k+1:Nat):Int))),(16,.v (.slice (some ⟨ba,oa,none⟩) R.length c)),(17,.v (.int .i64 (R.length:Int))),(18,.v (.int .i64 (i:Int)))])
    (fun _=>[(5003,⟨75,[.v (.string (mkS qs)),.v (.slice qa ql.length qc)]⟩)])
    (fun k u' m'=>k+1≤ql.length∧m'=m6) (fun k=>ql.length - k) 0
    ⟨by omega,rfl⟩ ?_
   rintro J3 k hJ3 u8 m8 l8 ⟨hk,rfl⟩;have hqat8:=hqat6.mono l8;by_cases hltk:k+1 < ql.length
   ·refine G.lT ((k+1:Nat):Int) (ql.length:Int) ?_;have hq1:ql[k]?=some ql[k]:=List.getElem?_eq_getElem (by omega);have hq2:ql[k+1]?=some ql[k+1]:=List.getElem?_eq_getElem hltk;have hlt3:=hasc k _ _ hq1 hq2;obtain ⟨bq,oq,rfl,eq2⟩:=Ad.at' hqat8 (j:=k+1) (e:=.int .i64 (ql[k+1]:Int)) (by simp [Ai,hq2]);obtain ⟨_,_,e',eq1⟩:=Ad.at' hqat8 (j:=k) (e:=.int .i64 (ql[k]:Int)) (by simp [Ai,hq1]);cases e';generalize ql[k]=p1 at eq1 hlt3;generalize ql[k+1]=p2 at eq2 hlt3;refine G.a bq oq ql.length qc (k+1) 1 hltk ?_;refine G.lU none bq (oq+(k+1)*1) (.int .i64 (p2:Int)) eq2 ?_;refine G.s ((k+1:Nat):Int) 1 (k:Int) ?_;refine G.a bq oq ql.length qc k 1 (by omega) ?_;refine G.lU none bq (oq+k*1) (.int .i64 (p1:Int)) eq1 ?_;refine G.kF (p2:Int) (p1:Int) ?_;refine G.p ((k+1:Nat):Int) 1 ((k+1+1:Nat):Int) ?_;exact G.b (hJ3 (k+1) _ _ _ cv l8 ⟨by omega,rfl⟩ (by omega))
   ·refine G.lF ((k+1:Nat):Int) (ql.length:Int) ?_;refine G.i i ?_;exact G.b (hJ (i+1,L2,N',(some ⟨b4,0,none⟩,c4)) _ _ _ cv ((((l2.trans l3).trans l5).trans l6).trans l8) ⟨by dsimp only; omega,hL2,htk.symm,by
     intro r hr q hq;dsimp only at hr hq ⊢;rw [htk2,List.mem_append,List.mem_singleton] at hr;rcases hr with hr | rfl
     ·exact hall2 r hr q hq
     ·exact hrow2 q hq,hbag6⟩ (by dsimp only; omega))
 ·obtain rfl:i=R.length:=by omega
  refine G.lF (R.length:Int) (R.length:Int) ?_;rw [List.take_length] at hall;refine G.callK _ _ (by kernel_rfl) Tryz.call219 (Aam (b:=g) (c:=n) (L:=L) hL.symm (by omega) (fun j s hs=>hbag.el 0 rfl (x:=Afq g n L) rfl (by show (L.map Value.bool)[j]?=_; rw [List.getElem?_map,hs]; rfl)) fun s hs=>by
   obtain ⟨j,hj,rfl⟩:=List.getElem_of_mem hs;obtain ⟨r,hr,hq⟩:=ok.all j (by omega);have:=hall r hr j hq;rw [List.getElem?_eq_getElem hj] at this;exact Option.some.inj this) ?_
  rintro v3 u3 l3 rfl;refine G.drop PH.mt (by kernel_rfl) (PH.mt_le _) ?_;exact G.r (.int .i64 0) ⟨rfl,rfl⟩
end
section
open Go.RowKit Go.MapKept
structure Bi (u:PH)(T:List (List UInt8×Nat))(R:List Bn)(F:List Am)(lab:Int):Prop where
 att:Agt T
 rel:L3 u T.length R
 feat:Cy T F lab
 t1:0 < T.length
 t2:T.length≤12
 r1:0 < R.length
 r2:R.length≤6
 f2:F.length≤8
 l1:-1≤lab
 l2:∀ l:Nat,lab=(l:Int)→∃ n,T[l]?=some (n,2)
theorem L3.mono {u u':PH}{n:Nat}{R:List Bn}(h:L3 u n R)(hl:PH.le u u'):L3 u' n R:=⟨h.names,h.ne,h.lt,h.len,h.asc,h.all,fun r hr=>(h.at' r hr).mono hl⟩
theorem Bi.mono {u u':PH}{T:List (List UInt8×Nat)}{R:List Bn}{F:List Am}{lab:Int}(h:Bi u T R F lab)(hl:PH.le u u'):Bi u' T R F lab:=⟨h.att,h.rel.mono hl,h.feat,h.t1,h.t2,h.r1,h.r2,h.f2,h.l1,h.l2⟩
def D5 (u:PH)(v:Value)(T:List (List UInt8×Nat))(R:List Bn)(F:List Am)(lab:Int):Prop :=
 ∃ a c b d e f,v=.agg #[.slice a T.length c,.slice b R.length d,.slice e F.length f,.int .i64 lab]∧Ad u (.slice a T.length c) 2 (T.map Dh)∧Ad u (.slice b R.length d) 2 (R.map Gf)∧Ad u (.slice e F.length f) 3 (F.map Bt)
theorem D5.mono {u u':PH}{v:Value}{T:List (List UInt8×Nat)}{R:List Bn}{F:List Am}{lab:Int}(h:D5 u v T R F lab)(hl:PH.le u u'):D5 u' v T R F lab:=by
 obtain ⟨a,c,b,d,e,f,hv,h1,h2,h3⟩:=h;exact ⟨a,c,b,d,e,f,hv,h1.mono hl,h2.mono hl,h3.mono hl⟩
theorem R6 {u:PH}{v:Value}{T:List (List UInt8×Nat)}{R:List Bn}{F:List Am}{lab:Int}(h:D5 u v T R F lab)(ok:Bi u T R F lab) :
  Fn0 Tryz.prog 115 [v] u fun r _=>r=.int .i64 0:=by
 obtain ⟨a,c,b,d,e,f,rfl,hT,hR,hF⟩:=h;have t1:=ok.t1;have t2:=ok.t2;have r1:=ok.r1;have r2:=ok.r2;have f2:=ok.f2;have lo:=ok.l1;have hi:lab < T.length:=by
  rcases Int.lt_or_le lab 0 with hlt | hge
  ·omega
  ·obtain ⟨n,hn⟩:=ok.l2 lab.toNat (by omega);obtain ⟨hk,_⟩:=List.getElem?_eq_some_iff.1 hn;omega
 refine Fn0.o Tryz.func115 ?_;refine G.eF (T.length:Int) 0 ?_;refine G.gF (T.length:Int) 12 ?_;refine G.eF (R.length:Int) 0 ?_;refine G.gF (R.length:Int) 6 ?_;refine G.gF (F.length:Int) 8 ?_;refine G.buildU 138 1 8 (.nilFunc) [.func (.func 177) #[] #[],.func (.func 178) #[] #[],.func (.func 179) #[] #[]] (by kernel_rfl) (fun x hx=>by
  simp only [List.mem_cons,List.not_mem_nil,or_false] at hx;rcases hx with rfl | rfl | rfl <;> exact ⟨rfl,List.all_eq_true.1 rfl⟩) rfl (by omega) (by simp) (by simp) ?_
 intro g u1 l1 e1;refine G.l (ι:=Nat) (fun i=>[(1,.p 0 0),(34,.v (.slice (some ⟨g,0,none⟩) 3 3)),(35,.v (.int .i64 ((3:Nat):Int))),(36,.v (.int .i64 (i:Int)))])
  (fun _=>[(0,⟨30,[.v (.slice a T.length c),.v (.slice b R.length d),.v (.slice e F.length f),.v (.int .i64 lab)]⟩)])
  (fun i u' m'=>i≤3∧m'=PH.mt) (fun i=>3 - i) 0 ⟨by omega,rfl⟩ ?_
 rintro J i hJ u2 m2 l2 ⟨hi3,rfl⟩;have le2:=l1.trans l2;have e2:=e1.mono l2;by_cases hlt:i < 3
 ·refine G.lT (i:Int) ((3:Nat):Int) ?_;refine G.a g 0 3 3 i 1 hlt ?_;rcases (by omega:i=0∨i=1∨i=2) with rfl | rfl | rfl
  ·refine G.lU none g (0+0*1) (.func (.func 177) #[] #[]) (e2 0 _ rfl) ?_;refine G.c Tryz.call177 (Y3 (w:=.slice b R.length d) (x:=.slice e F.length f) (y:=.int .i64 lab) (hT.mono le2) ok.att (by omega) ⟨_,_,_,rfl⟩ ⟨_,_,_,rfl⟩ ⟨_,rfl⟩) ?_;rintro v3 u3 l3 rfl;refine G.nF 0 0 ?_;refine G.p ((0:Nat):Int) 1 ((0+1:Nat):Int) ?_;exact G.b (hJ (0+1) _ _ _ cv (l2.trans l3) ⟨by omega,rfl⟩ (by omega))
  ·refine G.lU none g (0+1*1) (.func (.func 178) #[] #[]) (e2 1 _ rfl) ?_;refine G.c Tryz.call178 (Zv (a0:=a) (c0:=c) (x:=.slice e F.length f) (y:=.int .i64 lab) (hR.mono le2) (ok.rel.mono le2) (by omega) (by omega) (by omega) ⟨_,_,_,rfl⟩ ⟨_,rfl⟩) ?_;rintro v3 u3 l3 rfl;refine G.nF 0 0 ?_;refine G.p ((1:Nat):Int) 1 ((1+1:Nat):Int) ?_;exact G.b (hJ (1+1) _ _ _ cv (l2.trans l3) ⟨by omega,rfl⟩ (by omega))
  ·refine G.lU none g (0+2*1) (.func (.func 179) #[] #[]) (e2 2 _ rfl) ?_;refine G.c Tryz.call179 (Aen (w:=.slice b R.length d) (hT.mono le2) (hF.mono le2) ok.feat (by omega) (by omega) ⟨_,_,_,rfl⟩) ?_;rintro v3 u3 l3 rfl;refine G.nF 0 0 ?_;refine G.p ((2:Nat):Int) 1 ((2+1:Nat):Int) ?_;exact G.b (hJ (2+1) _ _ _ cv (l2.trans l3) ⟨by omega,rfl⟩ (by omega))
 ·obtain rfl:i=3:=by omega
  refine G.lF ((3:Nat):Int) ((3:Nat):Int) ?_;refine G.lF lab (-1) ?_;refine G.hF lab (T.length:Int) ?_;rcases Int.lt_or_le lab 0 with hneg | hge
  ·refine G.hF lab 0 ?_;exact G.r (.int .i64 0) ⟨rfl,rfl⟩
  ·refine G.hT lab 0 ?_;obtain ⟨l,rfl⟩:∃ l:Nat,lab=(l:Int):=⟨lab.toNat,by omega⟩;obtain ⟨n,hn⟩:=ok.l2 l rfl;obtain ⟨bb,ob,rfl,eb⟩:=Ad.at' (hT.mono le2) (j:=l) (e:=Dh (n,2)) (by simp [hn]);refine G.a bb ob T.length c l 2 (by omega) ?_;refine G.f 73 bb (ob+l*2) 1 1 ?_;refine G.lU none bb (ob+l*2+1) (.int .i64 ((2:Nat):Int)) (I0 eb) ?_;refine G.nF ((2:Nat):Int) 2 ?_;exact G.r (.int .i64 0) ⟨rfl,rfl⟩
end
section
open Go.RowKit Go.MapKept
theorem Anh (n:Nat):(Aa n).getD 0 0=n % 1000000000:=by
 by_cases h:n=0
 ·subst h; rw [A0]; rfl
 ·rw [C6 h]; rfl
theorem Aob (n:Nat):(Aa n).getD 1 0=n / 1000000000 % 1000000000:=by
 by_cases h:n=0
 ·subst h; rw [A0]; rfl
 ·rw [C6 h]; show (Aa (n / 1000000000)).getD 0 0=_; rw [Anh]
theorem Acm {n:Nat}(h:n < 1000000000000000000):(Aa n).length≤2:=by
 by_cases h0:n=0
 ·subst h0; rw [A0]; simp
 ·rw [C6 h0];by_cases h1:n / 1000000000=0
  ·rw [h1,A0]; simp
  ·rw [C6 h1,show n / 1000000000 / 1000000000=0 by omega,A0]; simp
theorem Uv {z:Int}(h1:0≤z)(h2:z < 18446744073709551616):IntKind.u64.wrap z=z:=by
 simp only [IntKind.wrap,IntKind.signed,IntKind.bits]; simp; omega
section rules
variable {P:Program} [Bb P] {fn:Func} {Post:B4} {st:List KI×S} {u m:PH}
theorem G.mul64 (x y z:Int)(h:Al P (adv P st)=.bin .mul (.int .u64 x) (.int .u64 y))(hz:x*y=z)(h1:0≤z)(h2:z < 18446744073709551616)
  (k:G P fn Post (nx (adv P st) (.int .u64 z)) u m):G P fn Post st u m :=
 G.bin _ h Ch (fun t w=>by simp [binOp,Op.intArith,hz,Uv h1 h2]) k
theorem G.add64 (x y z:Int)(h:Al P (adv P st)=.bin .add (.int .u64 x) (.int .u64 y))(hz:x+y=z)(h1:0≤z)(h2:z < 18446744073709551616)
  (k:G P fn Post (nx (adv P st) (.int .u64 z)) u m):G P fn Post st u m :=
 G.bin _ h Ch (fun t w=>by simp [binOp,Op.intArith,hz,Uv h1 h2]) k
end rules
theorem Vy {u:PH}{v:Value}{n:Nat}(h:Co u v n)(hn:n < 1000000000000000000)(i:Nat):Fn0 Tryz.prog 233 [v,.int .i64 (i:Int)] u fun r _=>r=.int .u64 (((Aa n).getD i 0:Nat):Int):=by
 have hl:=Acm hn;obtain ⟨a,c,rfl,_⟩:=id h;refine Fn0.o Tryz.func233 ?_;by_cases hlt:i < (Aa n).length
 ·refine G.lT (i:Int) ((Aa n).length:Int) ?_;obtain ⟨b,off,rfl,e⟩:=h.at hlt;refine G.a b off (Aa n).length c i 1 hlt ?_;refine G.lU none b (off+i*1) _ e ?_;exact G.r _ ⟨rfl,rfl⟩
 ·refine G.lF (i:Int) ((Aa n).length:Int) ?_;rw [Ep hlt];exact G.r (.int .u64 0) ⟨rfl,rfl⟩
theorem Ae5 {u:PH}{v:Value}{n:Nat}(h:Co u v n)(hn:n < 1000000000000000000):Fn0 Tryz.prog 237 [v] u fun r _=>r=.int .u64 (n:Int):=by
 obtain ⟨a,c,rfl,_⟩:=id h;refine Fn0.o Tryz.func237 ?_;refine G.c Tryz.call233 (Vy h hn 1) ?_;rintro v1 u1 l1 rfl;rw [Aob];refine G.mul64 ((n / 1000000000 % 1000000000:Nat):Int) 1000000000 _ (by kernel_rfl) rfl (by omega) (by omega) ?_;refine G.c Tryz.call233 (Vy (h.mono l1) hn 0) ?_;rintro v2 u2 l2 rfl;rw [Anh];refine G.add64 (((n / 1000000000 % 1000000000:Nat):Int)*1000000000) ((n % 1000000000:Nat):Int) (n:Int) (by kernel_rfl) (by omega) (by omega) (by omega) ?_;exact G.r _ ⟨rfl,rfl⟩
theorem Adr {u:PH}{v:Value}{z:Int}(h:Cc u v z)(hz:z.natAbs < 1000000000000000000):Fn0 Tryz.prog 267 [v] u fun r _=>r=.tuple #[.int .i64 z,.bool true]:=by
 obtain ⟨a,n',c,rfl,hN⟩:=h;obtain ⟨a,c,e,_⟩:=id hN;cases e;have hl:=Acm hz;generalize hn:z.natAbs=n at hN hz hl ⊢;refine Fn0.o Tryz.func267 ?_;refine G.gF ((Aa n).length:Int) 3 ?_;refine G.c Tryz.call233 (Vy hN hz 2) ?_;rintro v1 u1 l1 rfl;rw [Ep (k:=2) (by omega)];refine G.cmpG .gtr .u64 ((0:Nat):Int) 4 false (by kernel_rfl) rfl (by simp [B3]) ?_;refine G.c Tryz.call233 (Vy (hN.mono l1) hz 2) ?_;rintro v2 u2 l2 rfl;rw [Ep (k:=2) (by omega)];refine G.mul64 ((0:Nat):Int) 1000000000 0 (by kernel_rfl) (by omega) (by omega) (by omega) ?_;refine G.mul64 0 1000000000 0 (by kernel_rfl) (by omega) (by omega) (by omega) ?_;refine G.c Tryz.call237 (Ae5 (hN.mono (l1.trans l2)) hz) ?_;rintro v3 u3 l3 rfl;refine G.add64 0 (n:Int) (n:Int) (by kernel_rfl) (by omega) (by omega) (by omega) ?_;refine G.cmpG .gtr .u64 (n:Int) 4611686018427387904 false (by kernel_rfl) rfl (by simp [B3]; omega) ?_;by_cases hneg:z < 0
 ·rw [decide_eq_true hneg];refine G.convI .u64 .i64 .u64 (n:Int) (n:Int) (by kernel_rfl) ?_ ?_
  ·simp only [IntKind.wrap,IntKind.signed,IntKind.bits]; simp; omega
  refine G.neg (n:Int) z (by kernel_rfl) (by omega) (by omega) (by omega) ?_;exact G.r (.tuple #[.int .i64 z,.bool true]) ⟨rfl,rfl⟩
 ·rw [decide_eq_false hneg];refine G.convI .u64 .i64 .u64 (n:Int) (n:Int) (by kernel_rfl) ?_ ?_
  ·simp only [IntKind.wrap,IntKind.signed,IntKind.bits]; simp; omega
  obtain rfl:z=(n:Int):=by omega
  exact G.r (.tuple #[.int .i64 (n:Int),.bool true]) ⟨rfl,rfl⟩
end
section
open Go.RowKit Go.MapKept
theorem Hn {z:Int}(h:z.natAbs < 1000000000000000000):Lib.nDigits z.natAbs≤400:=Nat.le_trans (Fc (k:=18) (by omega) (by omega)) (by omega)
theorem Un {u:PH}{z:Int}(h:z.natAbs < 1000000000000000000):Fn0 Tryz.prog 229 [.string (mkS (Lib.itoa z))] u fun v _=>v=.tuple #[.int .i64 z,.bool true]:=by
 refine Fn0.o Tryz.func229 ?_;refine G.c Tryz.call201 (Hp (Hn h)) ?_;rintro v1 u1 l1 rfl;refine G.c Tryz.call236 (Rk (Hn h)) ?_;intro v2 u2 l2 k2;obtain ⟨b2,a2,n2,c2,rfl⟩:=k2.opn;refine G.c Tryz.call267 (Adr k2 h) ?_;rintro v3 u3 l3 rfl;exact G.r (.tuple #[.int .i64 z,.bool true]) ⟨rfl,rfl⟩
theorem Amy {u:PH}{q:Rat}(h:Tx q):Fn0 Tryz.prog 228 [.string (mkS (Ag q))] u fun v _=>v=.tuple #[.string (mkS (Lib.itoa q.num)),.string (mkS (Lib.itoa (q.den:Int))),.bool true]:=by
 refine Fn0.o Tryz.func228 ?_;refine G.c Tryz.call146 (Ho h) ?_;rintro v1 u1 l1 rfl;refine G.c Tryz.call196 (Ama h) ?_;rintro v2 u2 l2 rfl;by_cases hd:q.den=1
 ·rw [if_pos hd,decide_eq_false (by simp [hd]),hd,show ((1:Nat):Int)=1 from rfl,F1];exact G.r (.tuple #[.string (mkS (Lib.itoa q.num)),.string (mkS [49]),.bool true]) ⟨rfl,rfl⟩
 ·rw [if_neg hd,decide_eq_true hd];exact G.r (.tuple #[.string (mkS (Lib.itoa q.num)),.string (mkS (Lib.itoa (q.den:Int))),.bool true]) ⟨rfl,rfl⟩
theorem Xu {u:PH}{z:Int}(h:z.natAbs≤1000000000):Fn0 Tryz.prog 227 [.string (mkS (Lib.itoa z))] u fun v _=>v=.bool true:=by
 refine Fn0.o Tryz.func227 ?_;refine G.c Tryz.call229 (Un (z:=z) (by omega)) ?_;rintro v1 u1 l1 rfl;refine G.hT z (-1000000000) ?_;refine G.kT z 1000000000 ?_;exact G.r (.bool true) ⟨rfl,rfl⟩
structure Dat (q:Rat):Prop where
 num:q.num.natAbs≤1000000000
 den:q.den≤12
theorem Dat.tx {q:Rat}(h:Dat q):Tx q:=⟨Hn (by have:=h.num; omega),by have:=Hn (z:=(q.den:Int)) (by have:=h.den; omega); simpa using this⟩
theorem N7 {q:Rat}:Ag q≠[]:=by
 intro e;unfold Ag at e;split at e
 ·by_cases h:q.num < 0
  ·rw [K2 h] at e; cases e
  ·rw [Lib.itoa,if_neg h] at e;exact E6 _ e
 ·simp at e
theorem Ai1 {u:PH}{s:List UInt8}{q:Rat}(h:Dat q):Fn0 Tryz.prog 191 [Dh (s,2),.string (mkS (Ag q))] u fun v _=>v=.bool true:=by
 have hd:=h.den;have hp:=q.den_pos;refine Fn0.o Tryz.func191 ?_;refine G.eF ((2:Nat):Int) 1 ?_;refine G.eT ((2:Nat):Int) 2 ?_;refine G.c Tryz.call228 (Amy h.tx) ?_;rintro v1 u1 l1 rfl;refine G.c Tryz.call229 (Un (z:=(q.den:Int)) (by omega)) ?_;rintro v2 u2 l2 rfl;refine G.w (Ag q) [] N7 ?_;refine G.c Tryz.call227 (Xu h.num) ?_;rintro v3 u3 l3 rfl;refine G.hT (q.den:Int) 1 ?_;refine G.kT (q.den:Int) 12 ?_;exact G.r (.bool true) ⟨rfl,rfl⟩
end
section
open Go.RowKit Go.MapKept
def CF.one1 (p:Par)(q:Rat):CF:=⟨1,Dv (fun _=>0) p q,Dv (fun _=>0) (p,p) (q*q)⟩
theorem U3 {κ:Type}[DecidableEq κ](a:κ)(k:κ):Dv (fun _=>(0:Rat)) a 0 k=0:=by unfold Dv; split <;> rfl
theorem Anr {u:PH}{x:Value}{p:Par}{q:Rat}(hx:Ap u x q)(hs:SB q)(hs2:SB (q*q)) :
  Ae Tryz.prog 195 [Ak p,x] u PH.mt fun v' u' m'=>Nn m' u' v' (CF.one1 p q) 1:=by
 obtain ⟨xb,xa,xn,xc,xb',xa',xn',xc',rfl⟩:=hx.opn;refine Ae.o Tryz.func195 ?_;refine G.callO _ _ (by kernel_rfl) Tryz.call116 (Wf (n:=1) (by omega) (by omega)) ?_;rintro v1 u1 m1 l1 r1 _;rw [Ci];obtain ⟨b,a,n,c,b',a',n',c',g1,g2,o1,o2,rfl,h1,hne,rfl,h4,h5⟩:=r1;refine G.c Tryz.call80 (Gh (hx.mono l1) (Nat.le_trans hs.sz.1 (by omega))) ?_;rintro v2 u2 l2 rfl;by_cases hq:q=0
 ·refine G.nF' (sgn q.num) 0 (fun e=>e (Pc.2 hq)) ?_;subst hq;exact G.r (.agg #[.bool b,.slice a n c,.bool b',.slice a' n' c',.map (some g1),.map (some g2)]) ⟨b,a,n,c,b',a',n',c',g1,g2,o1,o2,rfl,h1.mono l2,hne,rfl,((h4.mf l2).up (Nat.zero_le 1) (Nat.le_refl _)).congr fun k=>(U3 p k).symm,((h5.mf l2).up (Nat.zero_le 1) (Nat.le_refl _)).congr fun k=>by
   show (0:Rat)=Dv (fun _=>(0:Rat)) (p,p) (0*0) k;rw [show (0:Rat)*0=0 by decide +kernel,U3]⟩
 ·refine G.nT' (sgn q.num) 0 (fun e=>hq (Pc.1 e)) ?_;obtain ⟨l,ho,q2,q3,q4⟩:=(h4.mf l2).at;refine G.mapPut (et:=89) Ba g1 o1 l p (.agg #[.bool xb,.slice xa xn xc,.bool xb',.slice xa' xn' xc']) (by kernel_rfl) (by kernel_rfl) (by rw [Ac _ _ hne,Ab]) ho ?_;intro o1' ho1;have r1:=Cf.put ho q2 q3 q4 ho1 (hx.mono (l1.trans l2)) (fun _=>hq) hs.sz (Nat.le_refl _);refine G.c Tryz.call70 (Dm (hx.mono (l1.trans l2)) (hx.mono (l1.trans l2)) hs.big hs.big) ?_;intro v3 u3 l3 r3;obtain ⟨yb,ya,yn,yc,yb',ya',yn',yc',rfl⟩:=r3.opn;obtain ⟨l',ho',q2',q3',q4'⟩:=(h5.mf (l2.trans l3)).at;refine G.mapPut (et:=89) Io g2 o2 l' (p,p) (.agg #[.bool yb,.slice ya yn yc,.bool yb',.slice ya' yn' yc']) (by kernel_rfl) (by kernel_rfl) (by rw [Ac _ _ (Ne.symm hne),Ab]) ho' ?_;intro o2' ho2;have hqq:q*q≠0:=fun e=>by
   rcases Rat.mul_eq_zero.1 e with e | e <;> exact hq e
  have r2:=Cf.put ho' q2' q3' q4' ho2 r3 (fun _=>hqq) hs2.sz (Nat.le_refl _);refine G.drop ((PH.mt.upd g1 o1').upd g2 o2') (by kernel_rfl) (fun g o hg=>?_) ?_
  ·by_cases e:g=g2
   ·subst e; rw [Ab] at hg ⊢; exact hg
   ·rw [Ac _ _ e] at hg ⊢;by_cases e:g=g1
    ·subst e; rw [Ab] at hg ⊢; exact hg
    ·rw [Ac _ _ e] at hg; cases hg
  exact G.r (.agg #[.bool b,.slice a n c,.bool b',.slice a' n' c',.map (some g1),.map (some g2)]) ⟨b,a,n,c,b',a',n',c',g1,g2,o1',o2',rfl,h1.mono (l2.trans l3),hne,rfl,r1.mf l3,r2⟩
theorem Ag3 {u:PH}{x:Value}{p:Par}{q:Rat}(hx:Ap u x q)(hs:SB q)(hs2:SB (q*q)) :
  Fn0 Tryz.prog 195 [Ak p,x] u fun v' u'=>Df u' v' (CF.one1 p q) 1 :=
 Fn0.weak (Ae.giveAll (Anr hx hs hs2)) fun v u' ⟨u1,m1,l1,l2,h⟩=>h.give l1 l2
theorem Ll {u:PH}{n:Int}(h1:-9223372036854775808≤n)(h2:n≤9223372036854775807):Fn0 Tryz.prog 116 [.int .i64 n] u fun v' u'=>Df u' v' (CF.num (n:Rat)) 0 :=
 Fn0.weak (Ae.giveAll (Wf h1 h2)) fun v u' ⟨u1,m1,l1,l2,h⟩=>Nn.give (F:=CF.num (n:Rat)) h l1 l2
end
section
open Go.RowKit Go.MapKept
theorem Mg {u m:PH}{f:Am}{e a:Nat}(hb:ElP m e 0 (.int .i64 (a:Int))):FnK Tryz.prog 194 [Bt f,.pointer (some ⟨e,0,none⟩)] u m fun v _=>v=.bool (f.1 == a):=by
 refine FnK.of Tryz.func194 (by kernel_rfl) (by kernel_rfl) ?_;refine G.lM none e 0 (.int .i64 (a:Int)) hb ?_;by_cases h:f.1=a
 ·refine G.eT (f.1:Int) (a:Int) ?_;rw [beq_iff_eq.2 h];exact G.r (.bool true) ⟨rfl,rfl⟩
 ·refine G.eF (f.1:Int) (a:Int) ?_;rw [beq_eq_false_iff_ne.2 h];exact G.r (.bool false) ⟨rfl,rfl⟩
def Ly (F:List Am)(a:Nat):Int:=Rd (fun f:Am=>f.1 == a) F
theorem Agi {u:PH}{v:Value}{T:List (List UInt8×Nat)}{R:List Bn}{F:List Am}{a:Nat}{q:Rat}(h:D5 u v T R F (a:Int))(ok:Bi u T R F (a:Int))(hq:Tx q)(hs:SB q)(hs2:SB (q*q)) :
  Fn0 Tryz.prog 132 [v,.int .i64 (a:Int),.string (mkS (Ag q))] u fun v' u'=>Df u' v' (CF.one1 (-1,[]) q) 1:=by
 obtain ⟨pa,ca,pb,cb,pe,ce,rfl,hT,hR,hF⟩:=h;have hfl:=ok.f2;refine Fn0.o Tryz.func132 ?_;refine G.pastI ?_;refine G.pub 1 3 [.int .i64 (a:Int)] (by kernel_rfl) (by kernel_rfl) ?_;intro e hu hm;refine G.callK _ _ (by kernel_rfl) Tryz.call192 (He (cap:=.pointer (some ⟨e,0,none⟩)) (fun f:Am=>f.1 == a) hF (by omega) Tryz.call194 fun f _ u' _=>Mg (Cj _ _ _ _)) ?_;rintro v1 u1 l1 rfl;refine G.lM none e 0 (.int .i64 (a:Int)) (Cj _ _ _ _) ?_;refine G.eT' (a:Int) (a:Int) rfl ?_;refine G.w (Ag q) [] N7 ?_;refine G.lM none e 0 (.int .i64 (a:Int)) (Cj _ _ _ _) ?_;refine G.eT' (a:Int) (a:Int) rfl ?_;refine G.c Tryz.call133 (Em hq) ?_;intro v2 u2 l2 r2;refine G.c Tryz.call195 (Ag3 (p:=(-1,[])) r2 hs hs2) ?_;intro v3 u3 l3 r3;obtain ⟨b,x,n,c,b',x',n',c',g1,g2,rfl⟩:=B7 r3;refine G.drop PH.mt (by kernel_rfl) (PH.mt_le _) ?_;exact G.r (.agg #[.bool b,.slice x n c,.bool b',.slice x' n' c',.map (some g1),.map (some g2)]) ⟨rfl,r3⟩
theorem Agr {u:PH}{v:Value}{T:List (List UInt8×Nat)}{R:List Bn}{F:List Am}{lab:Int}{a k:Nat}{q:Rat}(h:D5 u v T R F lab)(ok:Bi u T R F lab)(hl:(a:Int)≠lab)(hk:Ly F a=(k:Int))(hk2:∃ mi,F[k]?=some (a,1,mi))(hq:Tx q)(hs:SB q)(hs2:SB (q*q)) :
  Fn0 Tryz.prog 132 [v,.int .i64 (a:Int),.string (mkS (Ag q))] u fun v' u'=>Df u' v' (CF.one1 ((k:Int),[]) q) 1:=by
 obtain ⟨pa,ca,pb,cb,pe,ce,rfl,hT,hR,hF⟩:=h;have hfl:=ok.f2;obtain ⟨mi,hmi⟩:=hk2;refine Fn0.o Tryz.func132 ?_;refine G.pastI ?_;refine G.pub 1 3 [.int .i64 (a:Int)] (by kernel_rfl) (by kernel_rfl) ?_;intro e hu hm;refine G.callK _ _ (by kernel_rfl) Tryz.call192 (He (cap:=.pointer (some ⟨e,0,none⟩)) (fun f:Am=>f.1 == a) hF (by omega) Tryz.call194 fun f _ u' _=>Mg (Cj _ _ _ _)) ?_;rintro v1 u1 l1 rfl;unfold Ly at hk;rw [hk];refine G.lM none e 0 (.int .i64 (a:Int)) (Cj _ _ _ _) ?_;refine G.eF' (a:Int) lab hl ?_;refine G.lM none e 0 (.int .i64 (a:Int)) (Cj _ _ _ _) ?_;refine G.eF' (a:Int) lab hl ?_;refine G.lF (k:Int) 0 ?_;obtain ⟨bb,ob,rfl,eb⟩:=Ad.at' (hF.mono l1) (j:=k) (e:=Bt (a,1,mi)) (by simp [hmi]);obtain ⟨hkl,_⟩:=List.getElem?_eq_some_iff.1 hmi;refine G.a bb ob F.length ce k 3 hkl ?_;refine G.lU (some 3) bb (ob+k*3) (.agg #[.int .i64 (a:Int),.int .i64 ((1:Nat):Int),.int .i64 (mi:Int)]) eb ?_;refine G.eF ((1:Nat):Int) 2 ?_;refine G.w (Ag q) [] N7 ?_;refine G.w (Ag q) [] N7 ?_;refine G.c Tryz.call133 (Em hq) ?_;intro v2 u2 l2 r2;refine G.c Tryz.call195 (Ag3 (p:=((k:Int),[])) r2 hs hs2) ?_;intro v3 u3 l3 r3;obtain ⟨b,x,n,c,b',x',n',c',g1,g2,rfl⟩:=B7 r3;refine G.drop PH.mt (by kernel_rfl) (PH.mt_le _) ?_;exact G.r (.agg #[.bool b,.slice x n c,.bool b',.slice x' n' c',.map (some g1),.map (some g2)]) ⟨rfl,r3⟩
end
section
open Go.RowKit Go.MapKept
end
section
open Go.RowKit Go.MapKept
theorem Agd {d N:Nat}{p:Par}{q:Rat}(h1:Dn d N 1)(hq:Dn d N q)(h2:Dn d N (q*q)):CFD d N (CF.one1 p q) :=
 ⟨h1,fun k=>by
  show Dn d N (Dv (fun _=>(0:Rat)) p q k);unfold Dv; split
  ·exact hq
  ·exact Dn.zero _ _,fun k=>by
  show Dn d N (Dv (fun _=>(0:Rat)) (p,p) (q*q) k);unfold Dv; split
  ·exact h2
  ·exact Dn.zero _ _⟩
theorem Aim {p:Par}{q:Rat}(hp:PV p):CFV (CF.one1 p q) :=
 ⟨fun k hk=>by
  have hk:Dv (fun _=>(0:Rat)) p q k≠0:=hk;unfold Dv at hk;split at hk
  ·subst_vars; exact hp
  ·exact absurd rfl hk,fun k hk=>by
  have hk:Dv (fun _=>(0:Rat)) (p,p) (q*q) k≠0:=hk;unfold Dv at hk;split at hk
  ·subst_vars
   exact ⟨hp,hp,fun e=>by
   have e:0 < A4 p p:=e;have:=(Dd.sym _ _).2 e;omega⟩
  ·exact absurd rfl hk⟩
theorem Ez.listP {u:PH}{g sz:Nat}{es:List Value}(h:Ez u g 0 sz es):Ad u (.slice (some ⟨g,0,none⟩) es.length es.length) sz es:=⟨_,_,rfl,Nat.le_refl _,fun j e hj=>⟨g,0,rfl,h j e hj⟩⟩
theorem Oh {L:List (List UInt8)}(h:(L.all Gc && decide L.Nodup)=true):Nb L:=by
 rw [Bool.and_eq_true,List.all_eq_true,decide_eq_true_iff] at h;exact ⟨h.1,h.2⟩
end
section
open Go.RowKit Go.MapKept
end
section
open Go.RowKit
def Amj (a:Option Addr)(c:Nat)(T:List (Par×Rat)):Arr:=⟨.slice a T.length c,107,3,T.map A3⟩
end
section
open Go.RowKit Go.MapKept
theorem pw {n:Nat}(h:n < 10 ^ 30):n < 10 ^ 100:=Nat.lt_of_lt_of_le h (by decide +kernel)
end
section
open Go.RowKit Go.MapKept
theorem An4 {u:PH}{q r:Rat}(h:Tx q)(h':Tx r)(h2:Tx (q*r)):Fn0 Tryz.prog 15 [.string (mkS (Ag q)),.string (mkS (Ag r))] u fun v _=>v=.tuple #[.string (mkS (Ag (q*r))),.int .i64 0]:=by
 refine Fn0.o Tryz.func15 ?_;refine G.c Tryz.call42 (C7 h) ?_;rintro v1 u1 l1 rfl;refine G.c Tryz.call42 (C7 h') ?_;rintro v2 u2 l2 rfl;refine G.c Tryz.call23 (Ex h) ?_;intro v3 u3 l3 k3;obtain ⟨b3,a3,n3,c3,a3',n3',c3',rfl,_⟩:=k3.opn;refine G.c Tryz.call23 (Ex h') ?_;intro v4 u4 l4 k4;obtain ⟨b4,a4,n4,c4,a4',n4',c4',rfl,_⟩:=k4.opn;refine G.c Tryz.call26 (F2 (k3.mono l4) k4 (h.sz.mono (by omega)) (h'.sz.mono (by omega))) ?_;intro v5 u5 l5 k5;obtain ⟨b5,a5,n5,c5,a5',n5',c5',rfl,_⟩:=k5.opn;refine G.c Tryz.call28 (H7 k5 h2) ?_;rintro v6 u6 l6 rfl;exact G.r _ ⟨rfl,rfl⟩
end
section
open Go.RowKit Go.MapKept
theorem Ajm {p q:Par}(h:p.1 < q.1):A4 p q < 0:=by
 have e:Mk p.1 q.1 = -1:=by unfold Mk; rw [if_pos h]
 unfold A4; rw [e,if_pos (by decide)]; decide
theorem Ai0 {p q:Par}(h:¬ p.1 < q.1)(h':p.1≠q.1):¬ A4 p q < 0:=by
 have e:Mk p.1 q.1=1:=by unfold Mk; rw [if_neg h,if_pos (by omega)]
 unfold A4; rw [e,if_pos (by decide)]; decide
theorem Akm {p q:Par}(h:p.1=q.1):decide (A4 p q < 0)=Op.bytesLess p.2 q.2:=by
 have e:Mk p.1 q.1=0:=by unfold Mk; rw [if_neg (by omega),if_neg (by omega)]
 unfold A4; rw [e,if_neg (by decide)];unfold Qc;cases Op.bytesLess p.2 q.2 with
 | true=>rfl
 | false =>
  simp only [Bool.false_eq_true,if_false];split <;> rfl
theorem Eg {u:PH}(p q:Par)(r:Bool)(h:decide (A4 p q < 0)=r):Fn0 Tryz.prog 44 [Ak p,Ak q] u fun v _=>v=.bool r:=by
 refine Fn0.o Tryz.func44 ?_;by_cases h1:p.1 < q.1
 ·refine G.lT' p.1 q.1 h1 ?_;rw [decide_eq_true (Ajm h1)] at h;subst h;exact G.r (.bool true) ⟨rfl,rfl⟩
 ·refine G.lF' p.1 q.1 h1 ?_;by_cases h2:p.1=q.1
  ·rw [Akm h2] at h;refine G.eT' p.1 q.1 h2 ?_;refine G.ltS p.2 q.2 r (by kernel_rfl) h ?_;cases r with
   | true=>exact G.r (.bool true) ⟨rfl,rfl⟩
   | false=>exact G.r (.bool false) ⟨rfl,rfl⟩
  ·rw [decide_eq_false (Ai0 h1 h2)] at h;subst h;refine G.eF' p.1 q.1 h2 ?_;exact G.r (.bool false) ⟨rfl,rfl⟩
theorem Alb {u:PH}{v:Value}{F:CF}{K:Nat}(p q:Par)(h:Hb u v F K)(hK:K≤1000000):Fn0 Tryz.prog 14 [v,Ak p,Ak q] u fun r _=>r=.string (mkS (Ag (F.t (Ar p q)))):=by
 obtain ⟨T,Q,a1,c1,a2,c2,rfl,hT,hQ,cT,cQ,kT,kQ⟩:=h;refine Fn0.o Tryz.func14 ?_;by_cases hsw:A4 q p < 0
 ·rw [show Ar p q=(q,p) by unfold Ar; rw [if_pos ((Dd.sym _ _).1 hsw)]];refine G.c Tryz.call44 (Eg q p true (decide_eq_true hsw)) ?_;rintro v0 u0 l0 rfl;refine G.l (ι:=Nat) (fun i=>[(4,.p 1 0),(5,.p 2 0),(15,.v (.slice a2 Q.length c2)),(16,.v (.int .i64 (Q.length:Int))),(17,.v (.int .i64 (i:Int)))]) (fun _=>[(1,⟨44,[.v (.int .i64 q.1),.v (.string (mkS q.2))]⟩),(2,⟨44,[.v (.int .i64 p.1),.v (.string (mkS p.2))]⟩)])
   (fun i u' m'=>i≤Q.length∧(∀ j (hj:j < Q.length),j < i→(Q[j]'hj).1≠(q,p))∧m'=PH.mt) (fun i=>Q.length - i) 0 ⟨by omega,fun j hj h=>by omega,rfl⟩ ?_
  rintro J i hJ u1 m1 l1 ⟨hi,h0,rfl⟩;by_cases hlt:i < Q.length
  ·refine G.lT (i:Int) (Q.length:Int) ?_;have hTi:Q[i]?=some Q[i]:=List.getElem?_eq_getElem hlt;have hval:=(cQ.val _ (List.getElem_mem hlt)).1;obtain ⟨ba,oa,rfl,ea⟩:=Ad.at' (hQ.mono (l0.trans l1)) (j:=i) (e:=Cw Q[i]) (by simp [hTi]);have hback:Q[i].1≠(q,p)→∀ j (hj:j < Q.length),j < i+1→(Q[j]'hj).1≠(q,p):=fun hne j hj h=>by
    rcases (by omega:j < i∨j=i) with e | rfl
    ·exact h0 j hj e
    ·exact hne
   refine G.a ba oa Q.length c2 i 5 (by omega) ?_;refine G.lU (some 5) ba (oa+i*5) (.agg #[.int .i64 Q[i].1.1.1,.string (mkS Q[i].1.1.2),.int .i64 Q[i].1.2.1,.string (mkS Q[i].1.2.2),.string (mkS (Ag Q[i].2))]) ea ?_;by_cases he:Q[i].1.1=q
   ·refine G.eqAgg 44 #[.int .i64 Q[i].1.1.1,.string (mkS Q[i].1.1.2)] #[.int .i64 q.1,.string (mkS q.2)] true (by kernel_rfl) (by kernel_rfl) (by kernel_rfl) (fun w=>by rw [← decide_eq_true he]; exact Ba.eq Q[i].1.1 q w) ?_;by_cases he2:Q[i].1.2=p
    ·refine G.eqAgg 44 #[.int .i64 Q[i].1.2.1,.string (mkS Q[i].1.2.2)] #[.int .i64 p.1,.string (mkS p.2)] true (by kernel_rfl) (by kernel_rfl) (by kernel_rfl) (fun w=>by rw [← decide_eq_true he2]; exact Ba.eq Q[i].1.2 p w) ?_;exact G.r (.string (mkS (Ag Q[i].2))) ⟨rfl,by rw [hval,show Q[i].1=(q,p) from Prod.ext he he2]⟩
    ·refine G.eqAgg 44 #[.int .i64 Q[i].1.2.1,.string (mkS Q[i].1.2.2)] #[.int .i64 p.1,.string (mkS p.2)] false (by kernel_rfl) (by kernel_rfl) (by kernel_rfl) (fun w=>by rw [← decide_eq_false he2]; exact Ba.eq Q[i].1.2 p w) ?_;refine G.i i ?_;exact G.b (hJ (i+1) _ _ _ cv l1 ⟨by omega,hback fun e=>he2 (congrArg Prod.snd e),rfl⟩ (by omega))
   ·refine G.eqAgg 44 #[.int .i64 Q[i].1.1.1,.string (mkS Q[i].1.1.2)] #[.int .i64 q.1,.string (mkS q.2)] false (by kernel_rfl) (by kernel_rfl) (by kernel_rfl) (fun w=>by rw [← decide_eq_false he]; exact Ba.eq Q[i].1.1 q w) ?_;refine G.i i ?_;exact G.b (hJ (i+1) _ _ _ cv l1 ⟨by omega,hback fun e=>he (congrArg Prod.fst e),rfl⟩ (by omega))
  ·obtain rfl:i=Q.length:=by omega
   refine G.lF (Q.length:Int) (Q.length:Int) ?_;have hz:F.t (q,p)=0:=cQ.out (q,p) fun hm=>by
    obtain ⟨x,hx,e⟩:=List.mem_map.1 hm;obtain ⟨j,hj,rfl⟩:=List.getElem_of_mem hx;exact h0 j hj hj e
   exact G.r (.string (mkS [48])) ⟨rfl,by rw [hz,Fd]⟩
 ·rw [show Ar p q=(p,q) by unfold Ar; rw [if_neg fun e=>hsw ((Dd.sym _ _).2 e)]];refine G.c Tryz.call44 (Eg q p false (decide_eq_false hsw)) ?_;rintro v0 u0 l0 rfl;refine G.l (ι:=Nat) (fun i=>[(4,.p 1 0),(5,.p 2 0),(15,.v (.slice a2 Q.length c2)),(16,.v (.int .i64 (Q.length:Int))),(17,.v (.int .i64 (i:Int)))]) (fun _=>[(1,⟨44,[.v (.int .i64 p.1),.v (.string (mkS p.2))]⟩),(2,⟨44,[.v (.int .i64 q.1),.v (.string (mkS q.2))]⟩)])
   (fun i u' m'=>i≤Q.length∧(∀ j (hj:j < Q.length),j < i→(Q[j]'hj).1≠(p,q))∧m'=PH.mt) (fun i=>Q.length - i) 0 ⟨by omega,fun j hj h=>by omega,rfl⟩ ?_
  rintro J i hJ u1 m1 l1 ⟨hi,h0,rfl⟩;by_cases hlt:i < Q.length
  ·refine G.lT (i:Int) (Q.length:Int) ?_;have hTi:Q[i]?=some Q[i]:=List.getElem?_eq_getElem hlt;have hval:=(cQ.val _ (List.getElem_mem hlt)).1;obtain ⟨ba,oa,rfl,ea⟩:=Ad.at' (hQ.mono (l0.trans l1)) (j:=i) (e:=Cw Q[i]) (by simp [hTi]);have hback:Q[i].1≠(p,q)→∀ j (hj:j < Q.length),j < i+1→(Q[j]'hj).1≠(p,q):=fun hne j hj h=>by
    rcases (by omega:j < i∨j=i) with e | rfl
    ·exact h0 j hj e
    ·exact hne
   refine G.a ba oa Q.length c2 i 5 (by omega) ?_;refine G.lU (some 5) ba (oa+i*5) (.agg #[.int .i64 Q[i].1.1.1,.string (mkS Q[i].1.1.2),.int .i64 Q[i].1.2.1,.string (mkS Q[i].1.2.2),.string (mkS (Ag Q[i].2))]) ea ?_;by_cases he:Q[i].1.1=p
   ·refine G.eqAgg 44 #[.int .i64 Q[i].1.1.1,.string (mkS Q[i].1.1.2)] #[.int .i64 p.1,.string (mkS p.2)] true (by kernel_rfl) (by kernel_rfl) (by kernel_rfl) (fun w=>by rw [← decide_eq_true he]; exact Ba.eq Q[i].1.1 p w) ?_;by_cases he2:Q[i].1.2=q
    ·refine G.eqAgg 44 #[.int .i64 Q[i].1.2.1,.string (mkS Q[i].1.2.2)] #[.int .i64 q.1,.string (mkS q.2)] true (by kernel_rfl) (by kernel_rfl) (by kernel_rfl) (fun w=>by rw [← decide_eq_true he2]; exact Ba.eq Q[i].1.2 q w) ?_;exact G.r (.string (mkS (Ag Q[i].2))) ⟨rfl,by rw [hval,show Q[i].1=(p,q) from Prod.ext he he2]⟩
    ·refine G.eqAgg 44 #[.int .i64 Q[i].1.2.1,.string (mkS Q[i].1.2.2)] #[.int .i64 q.1,.string (mkS q.2)] false (by kernel_rfl) (by kernel_rfl) (by kernel_rfl) (fun w=>by rw [← decide_eq_false he2]; exact Ba.eq Q[i].1.2 q w) ?_;refine G.i i ?_;exact G.b (hJ (i+1) _ _ _ cv l1 ⟨by omega,hback fun e=>he2 (congrArg Prod.snd e),rfl⟩ (by omega))
   ·refine G.eqAgg 44 #[.int .i64 Q[i].1.1.1,.string (mkS Q[i].1.1.2)] #[.int .i64 p.1,.string (mkS p.2)] false (by kernel_rfl) (by kernel_rfl) (by kernel_rfl) (fun w=>by rw [← decide_eq_false he]; exact Ba.eq Q[i].1.1 p w) ?_;refine G.i i ?_;exact G.b (hJ (i+1) _ _ _ cv l1 ⟨by omega,hback fun e=>he (congrArg Prod.fst e),rfl⟩ (by omega))
  ·obtain rfl:i=Q.length:=by omega
   refine G.lF (Q.length:Int) (Q.length:Int) ?_;have hz:F.t (p,q)=0:=cQ.out (p,q) fun hm=>by
    obtain ⟨x,hx,e⟩:=List.mem_map.1 hm;obtain ⟨j,hj,rfl⟩:=List.getElem_of_mem hx;exact h0 j hj hj e
   exact G.r (.string (mkS [48])) ⟨rfl,by rw [hz,Fd]⟩
end
section
open Go.RowKit Go.MapKept
section
variable {P:Program} [Bb P] {fn:Func} {Post:B4} {st:List KI×S} {u m:PH}
theorem Z9 {env:Operand→Value}{o:Op}{t:TypeId}{L:List (Nat×Value)}(h:A6 P env o=.build t L):∃ ps:Array (Nat×Operand),o=.build t ps∧ps.toList.map (fun x=>(x.1,env x.2))=L:=by
 cases o <;> simp only [A6] at h <;> try cases h
 any_goals ((repeat' split at h) <;> cases h; done)
 ·exact ⟨_,rfl,rfl⟩
theorem G.buildArr (t e:TypeId)(p q:Par)(h:Al P (adv P st)=.build t [(0,Ak p),(1,Ak q)])(hu:P.underlying t=some (.array 2 e))(hs:szB P e=some 2)(hz:So P t=some (.agg #[.int .i64 0,.string (mkS []),.int .i64 0,.string (mkS [])]))
  (k:G P fn Post (nx (adv P st) (.agg #[.int .i64 p.1,.string (mkS p.2),.int .i64 q.1,.string (mkS q.2)])) u m):G P fn Post st u m:=by
 refine G.ask h (by simp) (fun env o hview w hp=>?_) k;obtain ⟨ps,e1,e2⟩:=Z9 hview;obtain ⟨dst,opp,type,pos,after,guard⟩:=o;simp only at e1; subst e1;have e3:(ps.map fun x=>(x.1,env x.2)).toList = [(0,Ak p),(1,Ak q)]:=by rw [Array.toList_map]; exact e2
 simp only [execOp,Instr.build,Sem.run_bind,T1 hz,Result.andThen_ok,run_underlying hu,Bj hs,e3];rfl
end
def Dc {κ:Type}(enc:κ→Value)(K:κ→Prop)(u:PH)(o:Obj)(f:κ→Rat)(N:Nat):Prop :=
 ∃ l:List (κ×Value),Ce enc o l∧(∀ p∈l,QP u p.2 (f p.1)∧K p.1∧Sz (f p.1) 12)∧(∀ k,k∉l.map (·.1)→f k=0)∧l.length≤N
section
variable {κ:Type} [DecidableEq κ] {enc:κ→Value} {K:κ→Prop} {u:PH} {o:Obj} {f:κ→Rat} {N:Nat}
theorem Dc.mono {u':PH}(h:Dc enc K u o f N)(hl:PH.le u u'):Dc enc K u' o f N:=by
 obtain ⟨l,h1,h2,h3,h4⟩:=h;exact ⟨l,h1,fun p hp=>⟨(h2 p hp).1.mono hl,(h2 p hp).2⟩,h3,h4⟩
theorem Dc.up {N':Nat}(h:Dc enc K u o f N)(hN:N≤N'):Dc enc K u o f N':=by
 obtain ⟨l,h1,h2,h3,h4⟩:=h;exact ⟨l,h1,h2,h3,Nat.le_trans h4 hN⟩
theorem Dc.congr {f':κ→Rat}(h:Dc enc K u o f N)(e:∀ k,f k=f' k):Dc enc K u o f' N:=by
 rw [← funext e]; exact h
theorem Dc.empty:Dc enc K u (.map #[] 0) (fun _=>0) 0:=⟨[],Ce.empty,by simp,fun _ _=>rfl,Nat.le_refl _⟩
theorem Dc.put {o':Obj}{a:κ}{x:Value}{q:Rat}{l:List (κ×Value)}(ho:Ce enc o l)(h2:∀ p∈l,QP u p.2 (f p.1)∧K p.1∧Sz (f p.1) 12)(h3:∀ k,k∉l.map (·.1)→f k=0)(h4:l.length≤N)
  (h':Ce enc o' (Hj a x l)) (hx:QP u x q) (hk:K a) (hs:Sz q 12):Dc enc K u o' (Dv f a q) (N+1):=by
 refine ⟨_,h',fun p hp=>?_,fun k hk=>?_,Nat.le_trans K5 (by omega)⟩
 ·unfold Dv;rcases Sk ho.nodup hp with rfl | ⟨hp,hne⟩
  ·simp only [if_true]; exact ⟨hx,hk,hs⟩
  ·rw [if_neg hne]; exact h2 p hp
 ·rw [Pf,not_or] at hk;unfold Dv; rw [if_neg hk.1]; exact h3 k hk.2
end
def KT {κ:Type}(_:κ):Prop:=True
def KO (k:Par×Par):Prop:=¬ 0 < A4 k.1 k.2
theorem KO.pair (p q:Par):KO (Ar p q):=by
 unfold KO Ar;have h1:=Dd.sym p q;have h2:=Dd.sym q p;by_cases h:0 < A4 p q
 ·rw [if_pos h]; simp only; omega
 ·rw [if_neg h]; exact h
def Ia (m' u:PH)(v:Value)(F:CF)(N:Nat):Prop :=
 ∃ b a n c b' a' n' c' g1 g2 o1 o2,v=.agg #[.bool b,.slice a n c,.bool b',.slice a' n' c',.map (some g1),.map (some g2)]∧QP u (.agg #[.bool b,.slice a n c,.bool b',.slice a' n' c']) F.c∧g1≠g2∧m'=(PH.mt.upd g1 o1).upd g2 o2∧Dc Ak KT u o1 F.s N∧Dc prV KO u o2 F.t N
def Oa (u:PH)(v:Value)(F:CF)(N:Nat):Prop :=
 ∃ b a n c b' a' n' c' g1 g2 o1 o2,v=.agg #[.bool b,.slice a n c,.bool b',.slice a' n' c',.map (some g1),.map (some g2)]∧QP u (.agg #[.bool b,.slice a n c,.bool b',.slice a' n' c']) F.c∧u g1=some o1∧u g2=some o2∧Dc Ak KT u o1 F.s N∧Dc prV KO u o2 F.t N
theorem Oa.mono {u u':PH}{v:Value}{F:CF}{N:Nat}(h:Oa u v F N)(hl:PH.le u u'):Oa u' v F N:=by
 obtain ⟨b,a,n,c,b',a',n',c',g1,g2,o1,o2,e,h1,h2,h3,h4,h5⟩:=h;exact ⟨b,a,n,c,b',a',n',c',g1,g2,o1,o2,e,h1.mono hl,hl _ _ h2,hl _ _ h3,h4.mono hl,h5.mono hl⟩
theorem Ia.grow {m' u u':PH}{v:Value}{F:CF}{N:Nat}(h:Ia m' u v F N)(hl:PH.le u u'):Ia m' u' v F N:=by
 obtain ⟨b,a,n,c,b',a',n',c',g1,g2,o1,o2,e,h1,h2,h3,h4,h5⟩:=h;exact ⟨b,a,n,c,b',a',n',c',g1,g2,o1,o2,e,h1.mono hl,h2,h3,h4.mono hl,h5.mono hl⟩
theorem Ia.give {m' u u':PH}{v:Value}{F:CF}{N:Nat}(h:Ia m' u v F N)(hl:PH.le u u')(hm:PH.le m' u'):Oa u' v F N:=by
 obtain ⟨b,a,n,c,b',a',n',c',g1,g2,o1,o2,e,h1,h2,rfl,h4,h5⟩:=h;exact ⟨b,a,n,c,b',a',n',c',g1,g2,o1,o2,e,h1.mono hl,hm _ _ (by rw [Ac _ _ h2,Ab]),hm _ _ (Ab _ _ _),h4.mono hl,h5.mono hl⟩
theorem Ia.congr {m' u:PH}{v:Value}{F F':CF}{N N':Nat}(h:Ia m' u v F N)(e:F=F')(hN:N≤N'):Ia m' u v F' N':=by
 subst e;obtain ⟨b,a,n,c,b',a',n',c',g1,g2,o1,o2,e,h1,h2,h3,h4,h5⟩:=h;exact ⟨b,a,n,c,b',a',n',c',g1,g2,o1,o2,e,h1,h2,h3,h4.up hN,h5.up hN⟩
theorem N0 {u:PH}{v:Value}{F:CF}{N:Nat}(h:Oa u v F N):∃ b a n c b' a' n' c' g1 g2,v=.agg #[.bool b,.slice a n c,.bool b',.slice a' n' c',.map (some g1),.map (some g2)]:=by
 obtain ⟨b,a,n,c,b',a',n',c',g1,g2,o1,o2,e,_⟩:=h;exact ⟨b,a,n,c,b',a',n',c',g1,g2,e⟩
theorem Ks {m' u:PH}{v:Value}{F:CF}{N:Nat}(h:Ia m' u v F N):∃ b a n c b' a' n' c' g1 g2,v=.agg #[.bool b,.slice a n c,.bool b',.slice a' n' c',.map (some g1),.map (some g2)]:=by
 obtain ⟨b,a,n,c,b',a',n',c',g1,g2,o1,o2,e,_⟩:=h;exact ⟨b,a,n,c,b',a',n',c',g1,g2,e⟩
theorem Hq {u:PH}{n:Int}(h1:-9223372036854775807≤n)(h2:n≤9223372036854775807):Ae Tryz.prog 75 [.int .i64 n] u PH.mt fun v u' m'=>Ia m' u' v ⟨(n:Rat),fun _=>0,fun _=>0⟩ 0:=by
 refine Ae.o Tryz.func75 ?_;refine G.c Tryz.call20 (Wu h1 h2) ?_;intro v1 u1 l1 k1;obtain ⟨b,a,nn,c,a',n',c',rfl,_⟩:=k1.opn;refine G.mapMk (by kernel_rfl) ?_;intro g1 hm1 hu1;refine G.mapMk (by kernel_rfl) ?_;intro g2 hm2 hu2;have hne:g1≠g2:=fun e=>by subst e; rw [Ab] at hm2; cases hm2
 exact G.r (.agg #[.bool b,.slice a nn c,.bool false,.slice a' n' c',.map (some g1),.map (some g2)]) ⟨b,a,nn,c,false,a',n',c',g1,g2,_,_,rfl,k1,hne,rfl,Dc.empty,Dc.empty⟩
theorem Kq {u:PH}{g:Nat}{g2:Option Nat}{o:Obj}{f:Par→Rat}{N:Nat}{a:Par}{x:Value}{q:Rat}{y1 y3:Bool}{y2 y4:SlI}(h:Dc Ak KT u o f N)(hx:QP u x q)(hq:SB q)(hf:SB (f a))(hs:SB (q+f a)) :
  Ae Tryz.prog 137 [.agg #[.bool y1,.slice y2.1 y2.2.1 y2.2.2,.bool y3,.slice y4.1 y4.2.1 y4.2.2,.map (some g),.map g2],Ak a,x] u (Lz g o) fun v u' m'=>∃ o',m'=Lz g o'∧Dc Ak KT u' o' (Dv f a (q+f a)) (N+1):=by
 obtain ⟨l,ho,h2,h3,h4⟩:=id h;obtain ⟨b,aa,n,c,a',n',c',rfl,_⟩:=hx.opn;refine Ae.o Tryz.func137 ?_;cases hx':Et a l with
 | none =>
  have hf0:f a=0:=h3 a (Ee.1 hx');have e0:q+f a=q:=by rw [hf0]; grind
  rw [e0] at hs ⊢;refine G.mapNot (et:=58) Ba fz g o l a (by kernel_rfl) (by kernel_rfl) (.inr (A8 _ _)) ho hx' ?_;refine G.mapPut (et:=58) Ba g o l a (.agg #[.bool b,.slice aa n c,.bool false,.slice a' n' c']) (by kernel_rfl) (by kernel_rfl) (A8 _ _) ho ?_;intro o' ho';exact G.r (.tuple #[]) ⟨o',B1 _ _ _ _,Dc.put ho h2 h3 h4 ho' hx trivial hs.sz⟩
 | some xv =>
  obtain ⟨hr,_,_⟩:=h2 _ (Fn hx');obtain ⟨b1,a1,n1,c1,a1',n1',c1',rfl,_⟩:=hr.opn;refine G.mapHas (et:=58) Ba fz g o l a (.agg #[.bool b1,.slice a1 n1 c1,.bool false,.slice a1' n1' c1']) (by kernel_rfl) (by kernel_rfl) (.inr (A8 _ _)) ho hx' ?_;refine G.c Tryz.call25 (Nv hx hr (hq.sz.mono (by omega)) (hf.sz.mono (by omega))) ?_;intro v1 u1 l1 k1;obtain ⟨b2,a2,n2,c2,a2',n2',c2',rfl,_⟩:=k1.opn;refine G.mapPut (et:=58) Ba g o l a (.agg #[.bool b2,.slice a2 n2 c2,.bool false,.slice a2' n2' c2']) (by kernel_rfl) (by kernel_rfl) (A8 _ _) ho ?_;intro o' ho';exact G.r (.tuple #[]) ⟨o',B1 _ _ _ _,Dc.put ho (fun p hp=>⟨(h2 p hp).1.mono l1,(h2 p hp).2⟩) h3 h4 ho' k1 trivial hs.sz⟩
theorem Gk {u:PH}{g:Nat}{g1:Option Nat}{o:Obj}{f:Par×Par→Rat}{N:Nat}{p r:Par}{x:Value}{q:Rat}{y1 y3:Bool}{y2 y4:SlI}(h:Dc prV KO u o f N)(hx:QP u x q)(hq:SB q)(hf:SB (f (Ar p r)))(hs:SB (q+f (Ar p r))) :
  Ae Tryz.prog 138 [.agg #[.bool y1,.slice y2.1 y2.2.1 y2.2.2,.bool y3,.slice y4.1 y4.2.1 y4.2.2,.map g1,.map (some g)],Ak p,Ak r,x] u (Lz g o) fun v u' m'=>∃ o',m'=Lz g o'∧Dc prV KO u' o' (Dv f (Ar p r) (q+f (Ar p r))) (N+1):=by
 obtain ⟨b,aa,n,c,a',n',c',rfl,_⟩:=hx.opn;refine Ae.o Tryz.func138 ?_;have ko:=KO.pair p r;by_cases hlt:A4 r p < 0
 ·have he:Ar p r=(r,p):=by unfold Ar; rw [if_pos ((Dd.sym r p).1 hlt)]
  rw [he] at hf hs ko ⊢;refine G.c Tryz.call44 (Eg r p true (decide_eq_true hlt)) ?_;rintro v0 u0 l0 rfl;obtain ⟨l,ho,h2,h3,h4⟩:=h.mono l0;have hx:=hx.mono l0;cases hx':Et (r,p) l with
  | none =>
   have hf0:f (r,p)=0:=h3 _ (Ee.1 hx');have e0:q+f (r,p)=q:=by rw [hf0]; grind
   rw [e0] at hs ⊢;refine G.buildArr 192 44 r p (by kernel_rfl) (by kernel_rfl) (by kernel_rfl) (by kernel_rfl) ?_;refine G.mapNot (et:=58) G9 fz g o l (r,p) (by kernel_rfl) (by kernel_rfl) (.inr (A8 _ _)) ho hx' ?_;refine G.mapPut (et:=58) G9 g o l (r,p) (.agg #[.bool b,.slice aa n c,.bool false,.slice a' n' c']) (by kernel_rfl) (by kernel_rfl) (A8 _ _) ho ?_;intro o' ho';exact G.r (.tuple #[]) ⟨o',B1 _ _ _ _,Dc.put ho h2 h3 h4 ho' hx ko hs.sz⟩
  | some xv =>
   obtain ⟨hr,_,_⟩:=h2 _ (Fn hx');obtain ⟨b1,a1,n1,c1,a1',n1',c1',rfl,_⟩:=hr.opn;refine G.buildArr 192 44 r p (by kernel_rfl) (by kernel_rfl) (by kernel_rfl) (by kernel_rfl) ?_;refine G.mapHas (et:=58) G9 fz g o l (r,p) (.agg #[.bool b1,.slice a1 n1 c1,.bool false,.slice a1' n1' c1']) (by kernel_rfl) (by kernel_rfl) (.inr (A8 _ _)) ho hx' ?_;refine G.c Tryz.call25 (Nv hx hr (hq.sz.mono (by omega)) (hf.sz.mono (by omega))) ?_;intro v1 u1 l1 k1;obtain ⟨b2,a2,n2,c2,a2',n2',c2',rfl,_⟩:=k1.opn;refine G.mapPut (et:=58) G9 g o l (r,p) (.agg #[.bool b2,.slice a2 n2 c2,.bool false,.slice a2' n2' c2']) (by kernel_rfl) (by kernel_rfl) (A8 _ _) ho ?_;intro o' ho';exact G.r (.tuple #[]) ⟨o',B1 _ _ _ _,Dc.put ho (fun p hp=>⟨(h2 p hp).1.mono l1,(h2 p hp).2⟩) h3 h4 ho' k1 ko hs.sz⟩
 ·have he:Ar p r=(p,r):=by unfold Ar; rw [if_neg (fun e=>hlt ((Dd.sym r p).2 e))]
  rw [he] at hf hs ko ⊢;refine G.c Tryz.call44 (Eg r p false (decide_eq_false hlt)) ?_;rintro v0 u0 l0 rfl;obtain ⟨l,ho,h2,h3,h4⟩:=h.mono l0;have hx:=hx.mono l0;cases hx':Et (p,r) l with
  | none =>
   have hf0:f (p,r)=0:=h3 _ (Ee.1 hx');have e0:q+f (p,r)=q:=by rw [hf0]; grind
   rw [e0] at hs ⊢;refine G.buildArr 192 44 p r (by kernel_rfl) (by kernel_rfl) (by kernel_rfl) (by kernel_rfl) ?_;refine G.mapNot (et:=58) G9 fz g o l (p,r) (by kernel_rfl) (by kernel_rfl) (.inr (A8 _ _)) ho hx' ?_;refine G.mapPut (et:=58) G9 g o l (p,r) (.agg #[.bool b,.slice aa n c,.bool false,.slice a' n' c']) (by kernel_rfl) (by kernel_rfl) (A8 _ _) ho ?_;intro o' ho';exact G.r (.tuple #[]) ⟨o',B1 _ _ _ _,Dc.put ho h2 h3 h4 ho' hx ko hs.sz⟩
  | some xv =>
   obtain ⟨hr,_,_⟩:=h2 _ (Fn hx');obtain ⟨b1,a1,n1,c1,a1',n1',c1',rfl,_⟩:=hr.opn;refine G.buildArr 192 44 p r (by kernel_rfl) (by kernel_rfl) (by kernel_rfl) (by kernel_rfl) ?_;refine G.mapHas (et:=58) G9 fz g o l (p,r) (.agg #[.bool b1,.slice a1 n1 c1,.bool false,.slice a1' n1' c1']) (by kernel_rfl) (by kernel_rfl) (.inr (A8 _ _)) ho hx' ?_;refine G.c Tryz.call25 (Nv hx hr (hq.sz.mono (by omega)) (hf.sz.mono (by omega))) ?_;intro v1 u1 l1 k1;obtain ⟨b2,a2,n2,c2,a2',n2',c2',rfl,_⟩:=k1.opn;refine G.mapPut (et:=58) G9 g o l (p,r) (.agg #[.bool b2,.slice a2 n2 c2,.bool false,.slice a2' n2' c2']) (by kernel_rfl) (by kernel_rfl) (A8 _ _) ho ?_;intro o' ho';exact G.r (.tuple #[]) ⟨o',B1 _ _ _ _,Dc.put ho (fun p hp=>⟨(h2 p hp).1.mono l1,(h2 p hp).2⟩) h3 h4 ho' k1 ko hs.sz⟩
end
section
open Go.RowKit Go.MapKept
theorem Mn {u:PH}:Fn0 Tryz.prog 201 [.string (mkS [])] u fun v _=>v=.bool false:=by
 refine Fn0.o Tryz.func201 ?_;refine G.w [] [48] (by decide) ?_;refine G.c Tryz.call235 (Pz (s:=[]) (p:=[45])) ?_;rintro v1 u1 l1 rfl;refine G.q (Lib.trimPrefix [] [45]) [] rfl ?_;exact G.r (.bool false) ⟨rfl,rfl⟩
theorem Aac {u:PH}:Fn0 Tryz.prog 146 [.string (mkS [])] u fun v _=>v=.bool false:=by
 refine Fn0.o Tryz.func146 ?_;refine G.c Tryz.call196 (Anw (T:=[]) (by simp)) ?_;rintro v1 u1 l1 rfl;refine G.c Tryz.call201 Mn ?_;rintro v2 u2 l2 rfl;refine G.c Tryz.call201 Mn ?_;rintro v3 u3 l3 rfl;exact G.r (.bool false) ⟨rfl,rfl⟩
theorem Ajq {u:PH}:Fn0 Tryz.prog 228 [.string (mkS [])] u fun v _=>v=.tuple #[.string (mkS []),.string (mkS []),.bool false]:=by
 refine Fn0.o Tryz.func228 ?_;refine G.c Tryz.call146 Aac ?_;rintro v1 u1 l1 rfl;exact G.r (.tuple #[.string (mkS []),.string (mkS []),.bool false]) ⟨rfl,rfl⟩
theorem Z5 {u:PH}:Fn0 Tryz.prog 229 [.string (mkS [])] u fun v _=>v=.tuple #[.int .i64 0,.bool false]:=by
 refine Fn0.o Tryz.func229 ?_;refine G.c Tryz.call201 Mn ?_;rintro v1 u1 l1 rfl;exact G.r (.tuple #[.int .i64 0,.bool false]) ⟨rfl,rfl⟩
theorem Ak5 {u:PH}{x:List UInt8×Nat}(h1:1≤x.2)(h3:x.2≤3):Fn0 Tryz.prog 191 [Dh x,.string (mkS [])] u fun v _=>v=.bool true:=by
 obtain ⟨s,k⟩:=x;simp only at h1 h3;refine Fn0.o Tryz.func191 ?_;rcases (by omega:k=1∨k=2∨k=3) with rfl | rfl | rfl
 ·refine G.eT ((1:Nat):Int) 1 ?_;refine G.q [] [] rfl ?_;exact G.r (.bool true) ⟨rfl,rfl⟩
 ·refine G.eF ((2:Nat):Int) 1 ?_;refine G.eT ((2:Nat):Int) 2 ?_;refine G.c Tryz.call228 Ajq ?_;rintro v1 u1 l1 rfl;refine G.c Tryz.call229 Z5 ?_;rintro v2 u2 l2 rfl;refine G.q [] [] rfl ?_;exact G.r (.bool true) ⟨rfl,rfl⟩
 ·refine G.eF ((3:Nat):Int) 1 ?_;refine G.eF ((3:Nat):Int) 2 ?_;refine G.eT ((3:Nat):Int) 3 ?_;refine G.q [] [] rfl ?_;exact G.r (.bool true) ⟨rfl,rfl⟩
theorem Xt {z:Int}:Lib.itoa z≠[]:=by
 by_cases h:z < 0
 ·rw [K2 h]; simp
 ·rw [Lib.itoa,if_neg h]; exact E6 _
theorem Ak4 {u:PH}{s:List UInt8}{z:Int}(h:z.natAbs≤1000000000):Fn0 Tryz.prog 191 [Dh (s,1),.string (mkS (Lib.itoa z))] u fun v _=>v=.bool true:=by
 refine Fn0.o Tryz.func191 ?_;refine G.eT ((1:Nat):Int) 1 ?_;refine G.w (Lib.itoa z) [] Xt ?_;refine G.c Tryz.call227 (Xu h) ?_;rintro v1 u1 l1 rfl;exact G.r (.bool true) ⟨rfl,rfl⟩
theorem Ajh {u:PH}{s t:List UInt8}(h:Gc t=true):Fn0 Tryz.prog 191 [Dh (s,3),.string (mkS t)] u fun v _=>v=.bool true:=by
 refine Fn0.o Tryz.func191 ?_;refine G.eF ((3:Nat):Int) 1 ?_;refine G.eF ((3:Nat):Int) 2 ?_;refine G.eT ((3:Nat):Int) 3 ?_;refine G.w t [] (fun e=>by rw [e] at h; cases h) ?_;refine G.c Tryz.call189 (Acp h) ?_;rintro v1 u1 l1 rfl;exact G.r (.bool true) ⟨rfl,rfl⟩
theorem Adn {u:PH}{v:Value}{T:List (List UInt8×Nat)}{R:List Bn}{F:List Am}{lab:Int}{a:Nat}(h:D5 u v T R F lab)(ok:Bi u T R F lab){i:Int}(hk:Ly F a=i)(hl:(a:Int)=lab) :
  Fn0 Tryz.prog 132 [v,.int .i64 (a:Int),.string (mkS [])] u fun v' u'=>Df u' v' (CF.num ((0:Int):Rat)) 0:=by
 obtain ⟨pa,ca,pb,cb,pe,ce,rfl,hT,hR,hF⟩:=h;have hfl:=ok.f2;refine Fn0.o Tryz.func132 ?_;refine G.pastI ?_;refine G.pub 1 3 [.int .i64 (a:Int)] (by kernel_rfl) (by kernel_rfl) ?_;intro e hu hm;refine G.callK _ _ (by kernel_rfl) Tryz.call192 (He (cap:=.pointer (some ⟨e,0,none⟩)) (fun f:Am=>f.1 == a) hF (by omega) Tryz.call194 fun f _ u' _=>Mg (Cj _ _ _ _)) ?_;rintro v1 u1 l1 rfl;unfold Ly at hk;rw [hk];refine G.lM none e 0 (.int .i64 (a:Int)) (Cj _ _ _ _) ?_;refine G.eT' (a:Int) lab hl ?_;refine G.q [] [] rfl ?_;refine G.c Tryz.call116 (Ll (n:=0) (by omega) (by omega)) ?_;intro v3 u3 l3 r3;obtain ⟨b,x,n,c,b',x',n',c',g1,g2,rfl⟩:=B7 r3;refine G.drop PH.mt (by kernel_rfl) (PH.mt_le _) ?_;exact G.r (.agg #[.bool b,.slice x n c,.bool b',.slice x' n' c',.map (some g1),.map (some g2)]) ⟨rfl,r3⟩
theorem Aep {u:PH}{v:Value}{T:List (List UInt8×Nat)}{R:List Bn}{F:List Am}{lab:Int}{a:Nat}(h:D5 u v T R F lab)(ok:Bi u T R F lab){s:List UInt8}(hk:Ly F a = -1)(hl:(a:Int)≠lab) :
  Fn0 Tryz.prog 132 [v,.int .i64 (a:Int),.string (mkS s)] u fun v' u'=>Df u' v' (CF.num ((1:Int):Rat)) 0:=by
 obtain ⟨pa,ca,pb,cb,pe,ce,rfl,hT,hR,hF⟩:=h;have hfl:=ok.f2;refine Fn0.o Tryz.func132 ?_;refine G.pastI ?_;refine G.pub 1 3 [.int .i64 (a:Int)] (by kernel_rfl) (by kernel_rfl) ?_;intro e hu hm;refine G.callK _ _ (by kernel_rfl) Tryz.call192 (He (cap:=.pointer (some ⟨e,0,none⟩)) (fun f:Am=>f.1 == a) hF (by omega) Tryz.call194 fun f _ u' _=>Mg (Cj _ _ _ _)) ?_;rintro v1 u1 l1 rfl;unfold Ly at hk;rw [hk];refine G.lM none e 0 (.int .i64 (a:Int)) (Cj _ _ _ _) ?_;refine G.eF' (a:Int) lab hl ?_;refine G.lM none e 0 (.int .i64 (a:Int)) (Cj _ _ _ _) ?_;refine G.eF' (a:Int) lab hl ?_;refine G.lT (-1) 0 ?_;refine G.c Tryz.call116 (Ll (n:=1) (by omega) (by omega)) ?_;intro v3 u3 l3 r3;obtain ⟨b,x,n,c,b',x',n',c',g1,g2,rfl⟩:=B7 r3;refine G.drop PH.mt (by kernel_rfl) (PH.mt_le _) ?_;exact G.r (.agg #[.bool b,.slice x n c,.bool b',.slice x' n' c',.map (some g1),.map (some g2)]) ⟨rfl,r3⟩
theorem Ah5 {u:PH}{v:Value}{T:List (List UInt8×Nat)}{R:List Bn}{F:List Am}{lab:Int}{a:Nat}(h:D5 u v T R F lab)(ok:Bi u T R F lab){s:List UInt8}{k mi:Nat}(hk:Ly F a=(k:Int))(hmi:F[k]?=some (a,2,mi))(hl:(a:Int)≠lab) :
  Fn0 Tryz.prog 132 [v,.int .i64 (a:Int),.string (mkS s)] u fun v' u'=>Df u' v' (CF.one1 ((k:Int),s) ((1:Int):Rat)) 1:=by
 obtain ⟨pa,ca,pb,cb,pe,ce,rfl,hT,hR,hF⟩:=h;have hfl:=ok.f2;refine Fn0.o Tryz.func132 ?_;refine G.pastI ?_;refine G.pub 1 3 [.int .i64 (a:Int)] (by kernel_rfl) (by kernel_rfl) ?_;intro e hu hm;refine G.callK _ _ (by kernel_rfl) Tryz.call192 (He (cap:=.pointer (some ⟨e,0,none⟩)) (fun f:Am=>f.1 == a) hF (by omega) Tryz.call194 fun f _ u' _=>Mg (Cj _ _ _ _)) ?_;rintro v1 u1 l1 rfl;unfold Ly at hk;rw [hk];refine G.lM none e 0 (.int .i64 (a:Int)) (Cj _ _ _ _) ?_;refine G.eF' (a:Int) lab hl ?_;refine G.lM none e 0 (.int .i64 (a:Int)) (Cj _ _ _ _) ?_;refine G.eF' (a:Int) lab hl ?_;refine G.lF (k:Int) 0 ?_;obtain ⟨bb,ob,rfl,eb⟩:=Ad.at' (hF.mono l1) (j:=k) (e:=Bt (a,2,mi)) (by simp [hmi]);obtain ⟨hkl,_⟩:=List.getElem?_eq_some_iff.1 hmi;refine G.a bb ob F.length ce k 3 hkl ?_;refine G.lU (some 3) bb (ob+k*3) (.agg #[.int .i64 (a:Int),.int .i64 ((2:Nat):Int),.int .i64 (mi:Int)]) eb ?_;refine G.eT ((2:Nat):Int) 2 ?_;refine G.c Tryz.call64 (D8 (z:=1) (by omega) (by omega)) ?_;intro v2 u2 l2 r2;refine G.c Tryz.call195 (Ag3 (p:=((k:Int),s)) r2 (by decide +kernel) (by decide +kernel)) ?_;intro v3 u3 l3 r3;obtain ⟨b,x,n,c,b',x',n',c',g1,g2,rfl⟩:=B7 r3;refine G.drop PH.mt (by kernel_rfl) (PH.mt_le _) ?_;exact G.r (.agg #[.bool b,.slice x n c,.bool b',.slice x' n' c',.map (some g1),.map (some g2)]) ⟨rfl,r3⟩
theorem Afe {u:PH}{v:Value}{T:List (List UInt8×Nat)}{R:List Bn}{F:List Am}{lab:Int}{a:Nat}(h:D5 u v T R F lab)(ok:Bi u T R F lab){k:Nat}(hk:Ly F a=(k:Int))(hmi:F[k]?=some (a,1,1))(hl:(a:Int)≠lab) :
  Fn0 Tryz.prog 132 [v,.int .i64 (a:Int),.string (mkS [])] u fun v' u'=>Df u' v' (CF.num ((0:Int):Rat)) 0:=by
 obtain ⟨pa,ca,pb,cb,pe,ce,rfl,hT,hR,hF⟩:=h;have hfl:=ok.f2;refine Fn0.o Tryz.func132 ?_;refine G.pastI ?_;refine G.pub 1 3 [.int .i64 (a:Int)] (by kernel_rfl) (by kernel_rfl) ?_;intro e hu hm;refine G.callK _ _ (by kernel_rfl) Tryz.call192 (He (cap:=.pointer (some ⟨e,0,none⟩)) (fun f:Am=>f.1 == a) hF (by omega) Tryz.call194 fun f _ u' _=>Mg (Cj _ _ _ _)) ?_;rintro v1 u1 l1 rfl;unfold Ly at hk;rw [hk];refine G.lM none e 0 (.int .i64 (a:Int)) (Cj _ _ _ _) ?_;refine G.eF' (a:Int) lab hl ?_;refine G.lM none e 0 (.int .i64 (a:Int)) (Cj _ _ _ _) ?_;refine G.eF' (a:Int) lab hl ?_;refine G.lF (k:Int) 0 ?_;obtain ⟨bb,ob,rfl,eb⟩:=Ad.at' (hF.mono l1) (j:=k) (e:=Bt (a,1,1)) (by simp [hmi]);obtain ⟨hkl,_⟩:=List.getElem?_eq_some_iff.1 hmi;refine G.a bb ob F.length ce k 3 hkl ?_;refine G.lU (some 3) bb (ob+k*3) (.agg #[.int .i64 (a:Int),.int .i64 ((1:Nat):Int),.int .i64 ((1:Nat):Int)]) eb ?_;refine G.eF ((1:Nat):Int) 2 ?_;refine G.q [] [] rfl ?_;refine G.eT ((1:Nat):Int) 1 ?_;refine G.c Tryz.call116 (Ll (n:=0) (by omega) (by omega)) ?_;intro v3 u3 l3 r3;obtain ⟨b,x,n,c,b',x',n',c',g1,g2,rfl⟩:=B7 r3;refine G.drop PH.mt (by kernel_rfl) (PH.mt_le _) ?_;exact G.r (.agg #[.bool b,.slice x n c,.bool b',.slice x' n' c',.map (some g1),.map (some g2)]) ⟨rfl,r3⟩
theorem Aea {u:PH}{v:Value}{T:List (List UInt8×Nat)}{R:List Bn}{F:List Am}{lab:Int}{a:Nat}(h:D5 u v T R F lab)(ok:Bi u T R F lab){k:Nat}(hk:Ly F a=(k:Int))(hmi:F[k]?=some (a,1,0))(hl:(a:Int)≠lab) :
  Fn0 Tryz.prog 132 [v,.int .i64 (a:Int),.string (mkS [])] u fun v' u'=>Df u' v' (CF.num ((1:Int):Rat)) 0:=by
 obtain ⟨pa,ca,pb,cb,pe,ce,rfl,hT,hR,hF⟩:=h;have hfl:=ok.f2;refine Fn0.o Tryz.func132 ?_;refine G.pastI ?_;refine G.pub 1 3 [.int .i64 (a:Int)] (by kernel_rfl) (by kernel_rfl) ?_;intro e hu hm;refine G.callK _ _ (by kernel_rfl) Tryz.call192 (He (cap:=.pointer (some ⟨e,0,none⟩)) (fun f:Am=>f.1 == a) hF (by omega) Tryz.call194 fun f _ u' _=>Mg (Cj _ _ _ _)) ?_;rintro v1 u1 l1 rfl;unfold Ly at hk;rw [hk];refine G.lM none e 0 (.int .i64 (a:Int)) (Cj _ _ _ _) ?_;refine G.eF' (a:Int) lab hl ?_;refine G.lM none e 0 (.int .i64 (a:Int)) (Cj _ _ _ _) ?_;refine G.eF' (a:Int) lab hl ?_;refine G.lF (k:Int) 0 ?_;obtain ⟨bb,ob,rfl,eb⟩:=Ad.at' (hF.mono l1) (j:=k) (e:=Bt (a,1,0)) (by simp [hmi]);obtain ⟨hkl,_⟩:=List.getElem?_eq_some_iff.1 hmi;refine G.a bb ob F.length ce k 3 hkl ?_;refine G.lU (some 3) bb (ob+k*3) (.agg #[.int .i64 (a:Int),.int .i64 ((1:Nat):Int),.int .i64 ((0:Nat):Int)]) eb ?_;refine G.eF ((1:Nat):Int) 2 ?_;refine G.q [] [] rfl ?_;refine G.eF ((0:Nat):Int) 1 ?_;refine G.q [] [] rfl ?_;refine G.c Tryz.call116 (Ll (n:=1) (by omega) (by omega)) ?_;intro v3 u3 l3 r3;obtain ⟨b,x,n,c,b',x',n',c',g1,g2,rfl⟩:=B7 r3;refine G.drop PH.mt (by kernel_rfl) (PH.mt_le _) ?_;exact G.r (.agg #[.bool b,.slice x n c,.bool b',.slice x' n' c',.map (some g1),.map (some g2)]) ⟨rfl,r3⟩
end
section
open Go.RowKit Go.MapKept
section rules
variable {P:Program} [Bb P] {fn:Func} {Post:B4} {st:List KI×S} {u m:PH}
theorem G.convBU (e:TypeId)(l:List UInt8)(b n c:Nat)(h:Al P (adv P st)=.conv (some (.slice e)) (some .string) (.slice (some ⟨b,0,none⟩) n c))(he:P.underlying e=some (.int .u8))(hn:n=l.length)
  (ha:Ez u b 0 1 (Be l)) (k:G P fn Post (nx (adv P st) (.string (mkS l))) u m):G P fn Post st u m:=by
 refine G.ask h (by simp) (fun env o hview w hp=>?_) k;obtain ⟨s,d,X,e1,e2,e3,e4⟩:=Iy hview;obtain ⟨dst,opp,type,pos,after,guard⟩:=o;simp only at e1; subst e1;have hm:=(hp (by simp [Gr,Ws e4 (by simp)])).1;subst hn;have:=run_convert_bytes_back (P:=P) w s d e ⟨b,0,none⟩ c l e3 he e4 (fun j hj=>by
  have h1:=ha j (.int .u8 (l[j].toNat:Int)) (by simp [Be,hj]);have h2:=(h1 0 (.int .u8 (l[j].toNat:Int)) (by simp [Value.cells])).cell hm;rw [Dk]; simpa using h2)
 simp [execOp,e2,this]
end rules
def Tl (i:Nat):UInt8:=UInt8.ofNat (97+i)
theorem Tc {i:Nat}(h:i < 26):(Tl i).toNat=97+i:=by
 unfold Tl; rw [UInt8.toNat_ofNat']; omega
theorem Nz {u:PH}{p:List UInt8}{i:Nat}(hi:i < 26)(hp:p.length≤1000):Fn0 Tryz.prog 143 [.string (mkS p),.int .i64 (i:Int)] u fun v _=>v=.string (mkS (p++[Tl i])):=by
 refine Fn0.o Tryz.func143 ?_;refine G.remZ (i:Int) 26 (i:Int) (by kernel_rfl) (by omega) (by omega) (by rw [Int.tmod_eq_emod_of_nonneg (by omega)]; omega) ?_;refine G.p 97 (i:Int) ((97+i:Nat):Int) ?_;refine G.convI .i64 .u8 .i64 ((97+i:Nat):Int) ((97+i:Nat):Int) (by kernel_rfl) ?_ ?_
 ·simp only [IntKind.wrap,IntKind.signed,IntKind.bits]; simp; omega
 have hb : [Value.int .u8 ((97+i:Nat):Int)]=Be [Tl i]:=by unfold Be; rw [List.map_cons,Tc hi]; rfl
 refine G.B 5 1 1 (.int .u8 0) [.int .u8 ((97+i:Nat):Int)] (by rw [hb]; exact I5 _) ?_;intro g u1 l1 e1;rw [hb] at e1;refine G.convBU 5 [Tl i] g 1 1 (by kernel_rfl) (by kernel_rfl) rfl e1 ?_;refine G.addS p [Tl i] (by kernel_rfl) (by simp; omega) ?_;exact G.r _ ⟨rfl,rfl⟩
def Aag:List UInt8:=[114,101,100]
def Mu:List UInt8:=[103,114,101,101,110]
def Qu:List UInt8:=[98,108,117,101]
def Aaj (s:List UInt8):Bool:=Gc s && (s == Aag || s == Mu || s == Qu)
theorem Aa1 {s:List UInt8}(h:Aaj s=true):Gc s=true:=by
 unfold Aaj at h;rw [Bool.and_eq_true] at h;exact h.1
theorem Ajl {s:List UInt8}(h:Aaj s=true):s=Aag∨s=Mu∨s=Qu:=by
 unfold Aaj at h;simp only [Bool.and_eq_true,Bool.or_eq_true,beq_iff_eq] at h;rcases h.2 with (h | h) | h
 ·exact .inl h
 ·exact .inr (.inl h)
 ·exact .inr (.inr h)
def Hd (k:Nat)(s:List UInt8):Prop:=s = []∨(k=3∧Aaj s=true)∨(k=1∧∃ z:Int,z.natAbs≤1000000000∧s=Lib.itoa z)∨(k=2∧∃ q,SmR q∧s=Ag q)
theorem Fo {q:Rat}{s:List UInt8}(h:Ag q=s)(hq:SmR q):Hd 2 s:=.inr (.inr (.inr ⟨rfl,q,hq,h.symm⟩))
theorem O2 {z:Int}{s:List UInt8}(h:Lib.itoa z=s)(hz:z.natAbs≤1000000000):Hd 1 s:=.inr (.inr (.inl ⟨rfl,z,hz,h.symm⟩))
theorem Aec {u:PH}{s:Src}{ts:List Int}{k:Nat}{x:List UInt8×Nat}(h:Hv u s ts)(hk:k≤s.n)(h1:1≤x.2)(h3:x.2≤3) :
  Ae Tryz.prog 144 [s.ptr,Dh x] u (s.M k) fun v _ m'=>∃ (t:List UInt8) (k':Nat),v=.string (mkS t)∧Hd x.2 t∧k'≤s.n∧m'=s.M k':=by
 obtain ⟨nm,kd⟩:=x;simp only at h1 h3 ⊢;refine Ae.o Tryz.func144 ?_;refine G.A Tryz.call46 (Im (n:=9) h hk (by omega) (by omega)) ?_;rintro v1 u1 m1 l1 ⟨r,k1,rfl,hr,hk1,rfl⟩ _;rw [Ci];by_cases h8:r=8
 ·refine G.eT (r:Int) 8 ?_;exact G.r (.string (mkS [])) ⟨[],k1,rfl,.inl rfl,hk1,rfl⟩
 refine G.eF (r:Int) 8 ?_;by_cases hk3:kd=3
 ·subst hk3;refine G.eT ((3:Nat):Int) 3 ?_;refine G.B 9 1 16 (.string (mkS [])) [.string (mkS Aag),.string (mkS Mu),.string (mkS Qu)] (Hz [Aag,Mu,Qu]) ?_;intro g u2 l2 e2;obtain ⟨i,hi⟩:∃ i,i=r % 3:=⟨_,rfl⟩;have hi3:i < 3:=by omega
  refine G.remZ (r:Int) 3 (i:Int) (by kernel_rfl) (by omega) (by omega) (by rw [Int.tmod_eq_emod_of_nonneg (by omega)]; omega) ?_;refine G.a g 0 3 3 i 1 hi3 ?_;obtain ⟨t,ht,hw⟩:∃ t,ElP u2 g (0+i*1) (.string (mkS t))∧Aaj t=true:=by
   rcases (by omega:i=0∨i=1∨i=2) with h | h | h
   ·rw [h]; exact ⟨Aag,e2 0 _ rfl,by decide +kernel⟩
   ·rw [h]; exact ⟨Mu,e2 1 _ rfl,by decide +kernel⟩
   ·rw [h]; exact ⟨Qu,e2 2 _ rfl,by decide +kernel⟩
  refine G.lU none g (0+i*1) (.string (mkS t)) ht ?_;exact G.r (.string (mkS t)) ⟨t,k1,rfl,.inr (.inl ⟨rfl,hw⟩),hk1,rfl⟩
 refine G.eF (kd:Int) 3 ?_;by_cases hk2:kd=1
 ·subst hk2;refine G.eT ((1:Nat):Int) 1 ?_;refine G.B 9 1 16 (.string (mkS [])) [.string (mkS [49]),.string (mkS [50]),.string (mkS [49,48])] (Hz [[49],[50],[49,48]]) ?_;intro g u2 l2 e2;obtain ⟨i,hi⟩:∃ i,i=r % 3:=⟨_,rfl⟩;have hi3:i < 3:=by omega
  refine G.remZ (r:Int) 3 (i:Int) (by kernel_rfl) (by omega) (by omega) (by rw [Int.tmod_eq_emod_of_nonneg (by omega)]; omega) ?_;refine G.a g 0 3 3 i 1 hi3 ?_;obtain ⟨t,ht,hw⟩:∃ t,ElP u2 g (0+i*1) (.string (mkS t))∧Hd 1 t:=by
   rcases (by omega:i=0∨i=1∨i=2) with h | h | h
   ·rw [h]; exact ⟨[49],e2 0 _ rfl,O2 (z:=1) (by decide +kernel) (by decide)⟩
   ·rw [h]; exact ⟨[50],e2 1 _ rfl,O2 (z:=2) (by decide +kernel) (by decide)⟩
   ·rw [h]; exact ⟨[49,48],e2 2 _ rfl,O2 (z:=10) (by decide +kernel) (by decide)⟩
  refine G.lU none g (0+i*1) (.string (mkS t)) ht ?_;exact G.r (.string (mkS t)) ⟨t,k1,rfl,hw,hk1,rfl⟩
 refine G.eF (kd:Int) 1 ?_;obtain rfl:kd=2:=by omega
 refine G.B 9 1 16 (.string (mkS [])) [.string (mkS [48]),.string (mkS [49]),.string (mkS [45,50]),.string (mkS [49,47,50]),.string (mkS [51]),.string (mkS [53,47,51]),.string (mkS [49]),.string (mkS [50])] (Hz [[48],[49],[45,50],[49,47,50],[51],[53,47,51],[49],[50]]) ?_;intro g u2 l2 e2;refine G.a g 0 8 8 r 1 (by omega) ?_;obtain ⟨t,ht,hw⟩:∃ t,ElP u2 g (0+r*1) (.string (mkS t))∧Hd 2 t:=by
  rcases (by omega:r=0∨r=1∨r=2∨r=3∨r=4∨r=5∨r=6∨r=7) with h | h | h | h | h | h | h | h
  ·rw [h]; exact ⟨_,e2 0 _ rfl,Fo (q:=0) (by decide +kernel) ⟨by decide +kernel,by decide +kernel⟩⟩
  ·rw [h]; exact ⟨_,e2 1 _ rfl,Fo (q:=1) (by decide +kernel) ⟨by decide +kernel,by decide +kernel⟩⟩
  ·rw [h]; exact ⟨_,e2 2 _ rfl,Fo (q:=-2) (by decide +kernel) ⟨by decide +kernel,by decide +kernel⟩⟩
  ·rw [h]; exact ⟨_,e2 3 _ rfl,Fo (q:=1 / 2) (by decide +kernel) ⟨by decide +kernel,by decide +kernel⟩⟩
  ·rw [h]; exact ⟨_,e2 4 _ rfl,Fo (q:=3) (by decide +kernel) ⟨by decide +kernel,by decide +kernel⟩⟩
  ·rw [h]; exact ⟨_,e2 5 _ rfl,Fo (q:=5 / 3) (by decide +kernel) ⟨by decide +kernel,by decide +kernel⟩⟩
  ·rw [h]; exact ⟨_,e2 6 _ rfl,Fo (q:=1) (by decide +kernel) ⟨by decide +kernel,by decide +kernel⟩⟩
  ·rw [h]; exact ⟨_,e2 7 _ rfl,Fo (q:=2) (by decide +kernel) ⟨by decide +kernel,by decide +kernel⟩⟩
 refine G.lU none g (0+r*1) (.string (mkS t)) ht ?_;exact G.r (.string (mkS t)) ⟨t,k1,rfl,hw,hk1,rfl⟩
end
section
open Go.RowKit Go.MapKept
theorem Ad1 {u:PH}{s:Src}{ts:List Int}{k:Nat}{v w x y:Value}{T:List (List UInt8×Nat)}(h:Hv u s ts)(hk:k≤s.n)(hT:Ad u v 2 (T.map Dh))(hl:T.length≤1000)(hkd:∀ a∈T,1≤a.2∧a.2≤3)(hw:∃ a n c,w=.slice a n c)(hx:∃ a n c,x=.slice a n c)(hy:∃ z:Int,y=.int .i64 z) :
  Ae Tryz.prog 84 [s.ptr,.agg #[v,w,x,y]] u (s.M k) fun r u' m'=>∃ (ss:List (List UInt8)) (k':Nat),Ad u' r 1 (ss.map nmV)∧ss.length=T.length∧(∀ (i:Nat) (x:List UInt8×Nat) (t:List UInt8),T[i]?=some x→ss[i]?=some t→Hd x.2 t)∧k'≤s.n∧m'=s.M k':=by
 obtain ⟨a,c,rfl⟩:=hT.opn;obtain ⟨wa,wn,wc,rfl⟩:=hw;obtain ⟨xa,xn,xc,rfl⟩:=hx;obtain ⟨z,rfl⟩:=hy;rw [List.length_map] at hT ⊢;refine Ae.o Tryz.func84 ?_;refine G.l (ι:=Nat×Nat×List (List UInt8)×(Option Addr×Nat)) (fun i=>[(0,.v s.ptr),(5,.v (.slice i.2.2.2.1 i.2.2.1.length i.2.2.2.2)),(9,.v (.slice a T.length c)),(10,.v (.int .i64 (T.length:Int))),(11,.v (.int .i64 (i.1:Int)))]) (fun _=>[])
  (fun i u' m'=>i.1≤T.length∧i.2.1≤s.n∧i.2.2.1.length=i.1∧(∀ (j:Nat) (x:List UInt8×Nat) (t:List UInt8),T[j]?=some x→i.2.2.1[j]?=some t→Hd x.2 t)∧Bag m' [s.arr i.2.1,Abp i.2.2.2.1 i.2.2.2.2 i.2.2.1])
  (fun i=>T.length - i.1) (0,k,[],(none,0))
  ⟨Nat.zero_le _,hk,rfl,fun j x t _ ht=>by simp at ht,s.bag0 k ⟨PH.mt,Af.nil _ _ _,trivial⟩⟩ ?_
 rintro J ⟨i,k1,ss,⟨na,nc⟩⟩ hJ u1 m1 l1 ⟨hi,hk1,hsl,hss,hbag⟩;simp only at hi hk1 hsl hss hbag hJ;obtain ⟨m0,hsrc,hL⟩:=hbag;obtain ⟨rfl,hg0⟩:=Src.split hsrc;by_cases hlt:i < T.length
 ·refine G.lT (i:Int) (T.length:Int) ?_;have hTi:T[i]?=some T[i]:=List.getElem?_eq_getElem hlt;obtain ⟨hk1',hk3'⟩:=hkd T[i] (List.getElem_mem hlt);obtain ⟨ba,oa,rfl,ea⟩:=Ad.at' (hT.mono l1) (j:=i) (e:=Dh T[i]) (by simp [hTi]);generalize T[i]=q at ea hTi hk1' hk3';refine G.a ba oa T.length c i 2 hlt ?_;refine G.lU (some 2) ba (oa+i*2) (.agg #[.string (mkS q.1),.int .i64 (q.2:Int)]) ea ?_;refine G.D Tryz.call144 (Src.apart hg0) (Aec (x:=q) (h.mono l1) hk1 hk1' hk3') ?_;rintro v2 u2 m2 l2 ⟨t,k2,rfl,hv,hk2,rfl⟩ _;refine G.B 9 1 16 (.string (mkS [])) [.string (mkS t)] (Hz [t]) ?_;intro g3 u3 l3 e3;have hbag2:Bag (m0.or (s.M k2)) [s.arr k2,Abp na nc ss]:=⟨m0,Src.at hg0,hL⟩;obtain ⟨mm,hx0,hput⟩:=hbag2.focus 1 rfl;rw [Ac4] at hx0;refine G.k 9 1 16 (.string (mkS [])) mm (ss.map nmV) [.string (mkS t)] (.slice na ss.length nc) g3 0 1 1 hx0 e3 (Hz [t]) ?_;intro v4 m4 hx4;rw [show ss.map nmV++[.string (mkS t)]=(ss++[t]).map nmV by rw [List.map_append]; rfl] at hx4;obtain ⟨a4,c4,rfl⟩:=hx4.shape;rw [List.length_map] at hx4 ⊢;have hbag3:=hput (Abp a4 c4 (ss++[t])) m4 hx4;refine G.i i ?_;refine G.b (hJ (i+1,k2,ss++[t],(a4,c4)) _ _ _ cv ((l1.trans l2).trans l3) ⟨by dsimp only; omega,hk2,by dsimp only; simp [hsl],?_,hbag3⟩ (by dsimp only; omega));intro j x' t' hx' ht';dsimp only at ht';rcases Nat.lt_or_ge j ss.length with hj | hj
  ·rw [List.getElem?_append_left hj] at ht';exact hss j x' t' hx' ht'
  ·rw [List.getElem?_append_right hj] at ht';have hj0:j - ss.length=0:=by
    obtain ⟨h',_⟩:=List.getElem?_eq_some_iff.1 ht';simp at h'; omega
   rw [hj0] at ht';obtain rfl:j=i:=by omega
   rw [hTi] at hx';cases hx';simp at ht';subst ht';exact hv
 ·obtain rfl:i=T.length:=by omega
  refine G.lF (T.length:Int) (T.length:Int) ?_;refine G.giveP (ma:=m0) (sm:=s.M k1) (by kernel_rfl) rfl (Src.apart hg0) (s.h0 k k1) ?_;intro u2 l2 hm;exact G.r (.slice na ss.length nc) ⟨ss,k1,hL.list hm 0 rfl,hsl,hss,hk1,rfl⟩
end
section
open Go.RowKit Go.MapKept
structure CF.One (F:CF):Prop where
 c:F.c=1
 t:∀ k,F.t k=if 0 < A4 k.1 k.2 then 0 else F.s k.1*F.s k.2
theorem CF.One.num:(CF.num 1).One:=⟨rfl,fun k=>by
 show (0:Rat)=if 0 < A4 k.1 k.2 then 0 else (0:Rat)*0
 split
 ·rfl
 ·grind⟩
theorem Amg (p:Par)(q:Rat)(k:Par):(CF.one1 p q).s k=if k=p then q else 0:=rfl
theorem CF.One.one1 (p:Par)(q:Rat):(CF.one1 p q).One:=⟨rfl,fun k=>by
 show (if k=(p,p) then q*q else 0)=if 0 < A4 k.1 k.2 then 0 else (if k.1=p then q else 0)*(if k.2=p then q else 0)
 obtain ⟨x,y⟩:=k;by_cases h:(x,y)=(p,p)
 ·obtain ⟨e1,e2⟩:=Prod.mk.inj h;subst e2;rw [e1];have:=Dd.refl y;rw [if_pos rfl,if_neg (by simp only; omega)];simp
 ·rw [if_neg h];split
  ·rfl
  ·by_cases h1:x=p
   ·have h2:y≠p:=fun e=>h (by rw [h1,e]);simp only [h2,if_false]; grind
   ·simp only [h1,if_false]; grind⟩
theorem CF.One.mul {F G:CF}(hF:F.One)(hG:G.One):(F.mul G).One∧∀ p,(F.mul G).s p=F.s p+G.s p:=by
 have hs:∀ p,(F.mul G).s p=F.s p+G.s p:=fun p=>by
  show G.s p*F.c+F.s p*G.c=_;rw [hF.c,hG.c]; grind
 refine ⟨⟨?_,fun k=>?_⟩,hs⟩
 ·show F.c*G.c=1;rw [hF.c,hG.c]; decide +kernel
 ·rw [hs,hs];show G.t k*F.c+F.t k*G.c+Ha F G k=_;rw [hF.c,hG.c,hF.t,hG.t];unfold Ha;split
  ·grind
  ·split
   ·rename_i he;rw [← he]; grind
   ·grind
abbrev LF:Type:=Option (Option (Par×Rat))
def LF.cf:LF→CF
 | none=>CF.num 0
 | some none=>CF.num 1
 | some (some x)=>CF.one1 x.1 x.2
def Ey (C:CF)(L:List LF):CF:=L.foldl (fun c y=>c.mul y.cf) C
theorem Oo (C:CF)(L:List LF)(x:LF):Ey C (L++[x])=(Ey C L).mul x.cf:=by unfold Ey; rw [List.foldl_append]; rfl
theorem Aio (F:CF):(CF.num 0).mul F=CF.num 0:=by
 rw [CF.mul_comm]; exact CF.mul_zero F
theorem Ub:∀ L,Ey (CF.num 0) L=CF.num 0
 | []=>rfl
 | x::L=>by
  unfold Ey;rw [List.foldl_cons,Aio];exact Ub L
theorem Aek {C:CF}{L:List LF}(h:none∈L):Ey C L=CF.num 0:=by
 obtain ⟨A,B,rfl⟩:=List.append_of_mem h;unfold Ey;rw [List.foldl_append,List.foldl_cons];have:(List.foldl (fun c (y:LF)=>c.mul (LF.cf y)) C A).mul (LF.cf none)=CF.num 0:=CF.mul_zero _;rw [this];exact Ub B
theorem LF.one {x:LF}(h:x≠none):x.cf.One:=by
 match x,h with
 | some none,_=>exact CF.One.num
 | some (some x),_=>exact CF.One.one1 _ _
theorem S5:∀ {L:List LF} {C:CF},C.One→none∉L→(Ey C L).One
 | [],C,h,_=>h
 | x::L,C,h,hn=>by
  have hx:x≠none:=fun e=>hn (by rw [e]; exact List.mem_cons_self ..);unfold Ey;rw [List.foldl_cons];exact S5 (h.mul (LF.one hx)).1 fun e=>hn (List.mem_cons_of_mem _ e)
theorem Wh {p:Par}:∀ {L:List LF} {C:CF},C.One→none∉L→(∀ q,some (some (p,q))∉L)→(Ey C L).s p=C.s p
 | [],C,h,_,_=>rfl
 | x::L,C,h,hn,hp=>by
  have hx:x≠none:=fun e=>hn (by rw [e]; exact List.mem_cons_self ..);have hm:=h.mul (LF.one hx);unfold Ey;rw [List.foldl_cons];have:=Wh (p:=p) hm.1 (fun e=>hn (List.mem_cons_of_mem _ e)) fun q e=>hp q (List.mem_cons_of_mem _ e);unfold Ey at this;rw [this,hm.2];have hz:x.cf.s p=0:=by
   match x,hx,hp with
   | some none,_,_=>rfl
   | some (some (p',q)),_,hp =>
    show (if p=p' then q else 0)=0;rw [if_neg fun e=>hp q (by rw [e]; exact List.mem_cons_self ..)]
  rw [hz]; grind
theorem Ai6 {p:Par}{q:Rat}{L:List LF}{C:CF}{a:Nat}(h:C.One)(hn:none∉L)(hc:C.s p=0)(ha:L[a]?=some (some (some (p,q))))(hd:∀ b q',L[b]?=some (some (some (p,q')))→b=a):(Ey C L).s p=q:=by
 obtain ⟨hal,hae⟩:=List.getElem?_eq_some_iff.1 ha;have e:L=L.take a++some (some (p,q))::L.drop (a+1):=by
  rw [← hae,List.getElem_cons_drop,List.take_append_drop]
 have hnA:none∉L.take a:=fun hh=>hn (List.mem_of_mem_take hh);have hnB:none∉L.drop (a+1):=fun hh=>hn (List.mem_of_mem_drop hh);have hpA:∀ q',some (some (p,q'))∉L.take a:=fun q' hh=>by
  obtain ⟨b,hb,hb2⟩:=List.getElem_of_mem hh;rw [List.length_take] at hb;rw [List.getElem_take] at hb2;have:=hd b q' (by rw [List.getElem?_eq_getElem (by omega),hb2]);omega
 have hpB:∀ q',some (some (p,q'))∉L.drop (a+1):=fun q' hh=>by
  obtain ⟨b,hb,hb2⟩:=List.getElem_of_mem hh;rw [List.length_drop] at hb;rw [List.getElem_drop] at hb2;have:=hd (a+1+b) q' (by rw [List.getElem?_eq_getElem (by omega),hb2]);omega
 rw [e];have hA:=Wh (p:=p) h hnA hpA;have hA1:=S5 h hnA;have hM:=hA1.mul (CF.One.one1 p q);have hB:=Wh (p:=p) hM.1 hnB hpB;have:Ey C (L.take a++some (some (p,q))::L.drop (a+1))=Ey ((Ey C (L.take a)).mul (CF.one1 p q)) (L.drop (a+1)):=by
  unfold Ey; rw [List.foldl_append,List.foldl_cons]; rfl
 rw [this,hB,hM.2,hA,hc,Amg,if_pos rfl]; grind
noncomputable def G7 (t:List UInt8):Rat:=open Classical in if h:∃ q,SmR q∧t=Ag q then h.choose else 0
theorem Ls {t:List UInt8}(h:∃ q,SmR q∧t=Ag q):SmR (G7 t)∧Ag (G7 t)=t:=by
 unfold G7;rw [dif_pos h];exact ⟨h.choose_spec.1,h.choose_spec.2.symm⟩
noncomputable def G6 (i:Nat)(f:Am)(w:List UInt8):LF:=if f.2.1=2 then some (some (((i:Int),w),1)) else if w = [] then (if f.2.2=1 then none else some none) else some (some (((i:Int),[]),G7 w))
noncomputable def Lx (w:List UInt8):LF:=if w = [] then none else some (some ((-1,[]),G7 w))
noncomputable def Di (F:List Am)(lab:Int)(a:Nat)(w:List UInt8):LF:=if (a:Int)=lab then Lx w else match F.findIdx? (fun f=>f.1 == a) with | some k=>G6 k (F.getD k (0,0,0)) w | none=>some none
noncomputable def D7 (F:List Am)(lab:Int)(ss:List (List UInt8)):List LF:=ss.mapIdx (Di F lab)
theorem Ew {F:List Am}{lab:Int}{ss:List (List UInt8)}{a:Nat}{w:List UInt8}(h:ss[a]?=some w):(D7 F lab ss)[a]?=some (Di F lab a w):=by
 unfold D7; rw [List.getElem?_mapIdx,h]; rfl
theorem En {F:List Am}{lab:Int}{ss:List (List UInt8)}:(D7 F lab ss).length=ss.length:=by unfold D7; simp
theorem Agq {F:List Am}(hn:(F.map (·.1)).Nodup){i:Nat}{f:Am}(hf:F[i]?=some f):F.findIdx? (fun g=>g.1 == f.1)=some i:=by
 obtain ⟨hi,rfl⟩:=List.getElem?_eq_some_iff.1 hf;refine List.findIdx?_eq_some_iff_getElem.2 ⟨hi,by simp,fun j hj=>?_⟩;simp only [beq_iff_eq];intro e;have:=(List.getElem_inj (xs:=F.map (·.1)) (h₀:=by rw [List.length_map]; omega) (h₁:=by rw [List.length_map]; omega) (i:=j) (j:=i) hn).1 (by rw [List.getElem_map,List.getElem_map]; exact e);omega
theorem U5 {F:List Am}{lab:Int}{i:Nat}{f:Am}{w:List UInt8}(hn:(F.map (·.1)).Nodup)(hf:F[i]?=some f)(hl:(f.1:Int)≠lab):Di F lab f.1 w=G6 i f w:=by
 unfold Di;rw [if_neg hl,Agq hn hf];simp [List.getD_eq_getElem?_getD,hf]
theorem E5 {F:List Am}{lab:Int}{a:Nat}{w:List UInt8}(h:(a:Int)≠lab):Di F lab a w=some none∨∃ (i:Nat) (f:Am),F[i]?=some f∧f.1=a∧Di F lab a w=G6 i f w:=by
 unfold Di;rw [if_neg h];cases hx:F.findIdx? (fun f=>f.1 == a) with
 | none=>exact .inl rfl
 | some k =>
  obtain ⟨hk,h1,_⟩:=List.findIdx?_eq_some_iff_getElem.1 hx;right;refine ⟨k,F[k],List.getElem?_eq_getElem hk,by simpa using h1,?_⟩;simp [List.getD_eq_getElem?_getD,List.getElem?_eq_getElem hk]
theorem Ae2 {F:List Am}{lab:Int}{ss:List (List UInt8)}(hl:-1≤lab){a b:Nat}{p:Par}{q q':Rat}(ha:(D7 F lab ss)[a]?=some (some (some (p,q))))(hb:(D7 F lab ss)[b]?=some (some (some (p,q')))):b=a:=by
 have key:∀ {a:Nat} {q:Rat},(D7 F lab ss)[a]?=some (some (some (p,q)))→((a:Int)=lab∧p.1 = -1)∨∃ (i:Nat) (f:Am),F[i]?=some f∧f.1=a∧p.1=(i:Int):=by
  intro a q ha;unfold D7 at ha;rw [List.getElem?_mapIdx] at ha;cases hw:ss[a]? with
  | none=>rw [hw] at ha; cases ha
  | some w =>
   rw [hw] at ha;simp only [Option.map_some,Option.some.injEq] at ha;by_cases h:(a:Int)=lab
   ·left;unfold Di Lx at ha;rw [if_pos h] at ha;split at ha
    ·cases ha
    ·cases ha; exact ⟨h,rfl⟩
   ·right;rcases E5 (F:=F) (w:=w) h with e | ⟨i,f,h1,h2,h3⟩
    ·rw [e] at ha; cases ha
    ·rw [h3] at ha;refine ⟨i,f,h1,h2,?_⟩;unfold G6 at ha;split at ha
     ·cases ha; rfl
     ·split at ha
      ·split at ha <;> cases ha
      ·cases ha; rfl
 rcases key ha with ⟨h1,h2⟩ | ⟨i,f,h1,h2,h3⟩ <;> rcases key hb with ⟨k1,k2⟩ | ⟨i',f',k1,k2,k3⟩
 ·omega
 ·omega
 ·omega
 ·obtain rfl:i'=i:=by omega
  rw [h1] at k1; cases k1;omega
end
section
open Go.RowKit Go.MapKept
theorem Ww {m:PH}{b:Nat}{t:TypeId}{xs:List Value}{e:Value}(hm:m b=some (.cells xs.toArray t (0,0)))(he:e.cells=xs.toArray):ElP m b 0 e:=fun i x hx=>by
 refine ⟨_,_,_,hm,?_⟩;rw [he] at hx;simpa using hx
theorem Hb.up {u:PH}{v:Value}{F:CF}{K K':Nat}(h:Hb u v F K)(hk:K≤K'):Hb u v F K':=by
 obtain ⟨T,Q,a1,c1,a2,c2,e,hT,hQ,cT,cQ,kT,kQ⟩:=h;exact ⟨T,Q,a1,c1,a2,c2,e,hT,hQ,cT,cQ,by omega,by omega⟩
theorem SmR.dat {q:Rat}(h:SmR q):Dat q:=⟨by have:=h.num; omega,h.le⟩
theorem SmR.sb {q:Rat}(h:SmR q):SB q:=h.dn.small (by omega) (pw (by decide +kernel))
theorem SmR.sb2 {q:Rat}(h:SmR q):SB (q*q):=(h.dn.mul h.dn).small (by omega) (pw (by decide +kernel))
theorem Jl:SmR 1:=⟨by decide +kernel,by decide +kernel⟩
def LF.Small:LF→Prop
 | some (some x)=>SmR x.2∧PV x.1
 | _=>True
theorem LF.Small.cfd {x:LF}(h:x.Small):CFD 2 11664 x.cf:=by
 match x,h with
 | none,_=>exact CFD.count (Dn.zero _ _)
 | some none,_=>exact CFD.count ⟨144,by decide +kernel,by decide⟩
 | some (some x),h =>
  have hq:Dn 2 11664 x.2:=by
   have:=h.1.dn.mul (show Dn 1 108 1 from ⟨12,by decide +kernel,by decide⟩);rw [show x.2*1=x.2 by grind] at this;exact this.mono (by omega)
  exact Agd ⟨144,by decide +kernel,by decide⟩ hq ((h.1.dn.mul h.1.dn).mono (by omega))
theorem LF.Small.cfv {x:LF}(h:x.Small):CFV x.cf:=by
 match x,h with
 | none,_=>exact CFV.count 0
 | some none,_=>exact CFV.count 1
 | some (some x),h=>exact Aim h.2
theorem I7 {L:List LF}(h:∀ x∈L,x.Small):∀ i,i≤L.length→CFD (2*i) (46656 ^ i) (Ey (CF.num 1) (L.take i))∧CFV (Ey (CF.num 1) (L.take i))
 | 0,_=>⟨CFD.count ⟨1,by decide +kernel,by decide⟩,CFV.count 1⟩
 | i+1,hi=>by
  obtain ⟨h1,h2⟩:=I7 h i (by omega);have hx:=h _ (List.getElem_mem (show i < L.length by omega));have e:L.take (i+1)=L.take i++[L[i]]:=by rw [List.take_add_one,List.getElem?_eq_getElem (by omega)]; rfl
  rw [e,Oo];refine ⟨?_,h2.mul hx.cfv⟩;have:=h1.mul hx.cfd;rw [show 2*(i+1)=2*i+2 by omega];exact this.mono (by rw [Nat.pow_succ]; omega)
theorem Ams {u:PH}{x:List UInt8×Nat}{t:List UInt8}(h1:1≤x.2)(h3:x.2≤3)(hv:Hd x.2 t):Fn0 Tryz.prog 191 [Dh x,.string (mkS t)] u fun v _=>v=.bool true:=by
 obtain ⟨s,k⟩:=x;rcases hv with rfl | ⟨rfl,hw⟩ | ⟨rfl,z,hz,rfl⟩ | ⟨rfl,q,hq,rfl⟩
 ·exact Ak5 h1 h3
 ·exact Ajh (Aa1 hw)
 ·exact Ak4 hz
 ·exact Ai1 hq.dat
theorem E7 {t:List UInt8}(h:Hd 2 t)(hne:t≠[]):SmR (G7 t)∧Ag (G7 t)=t:=by
 rcases h with e | ⟨e,_⟩ | ⟨e,_⟩ | ⟨_,q,hq,e⟩
 ·exact absurd e hne
 ·omega
 ·omega
 ·exact Ls ⟨q,hq,e⟩
theorem Akf {F:List Am}{a:Nat}{k:Nat}(h:F.findIdx? (fun f=>f.1 == a)=some k):Ly F a=(k:Int):=by unfold Ly Rd; rw [h]
theorem Abs {T:List (List UInt8×Nat)}{F:List Am}{lab:Int}{a:Nat}{x:List UInt8×Nat}{t:List UInt8}(hF:Cy T F lab)(hl2:∀ l:Nat,lab=(l:Int)→∃ n,T[l]?=some (n,2))(hfl:F.length≤8)(hx:T[a]?=some x)(hv:Hd x.2 t):(Di F lab a t).Small:=by
 by_cases hlab:(a:Int)=lab
 ·obtain ⟨n,hn⟩:=hl2 a hlab.symm;rw [hx] at hn; cases hn;unfold Di Lx;rw [if_pos hlab];by_cases ht:t = []
  ·rw [if_pos ht]; trivial
  ·rw [if_neg ht];exact ⟨(E7 hv ht).1,⟨by show (-1:Int)≤-1; omega,by show (-1:Int)≤1000; omega,.inl rfl⟩⟩
 ·rcases E5 (F:=F) (w:=t) hlab with e | ⟨i,f,h1,rfl,h3⟩
  ·rw [e]; trivial
  ·rw [h3];obtain ⟨hi,_⟩:=List.getElem?_eq_some_iff.1 h1;obtain ⟨n,k,hk,hkind,_⟩:=hF.ok f (List.mem_of_getElem? h1);rw [hk] at hx; cases hx;unfold G6;rcases hkind with ⟨k1,k2,k3⟩ | ⟨k1,k2,k3⟩
   ·rw [if_neg (by omega)];by_cases ht:t = []
    ·rw [if_pos ht]; split <;> trivial
    ·rw [if_neg ht];subst k2;exact ⟨(E7 hv ht).1,⟨by show (-1:Int)≤(i:Int); omega,by show (i:Int)≤1000; omega,.inl rfl⟩⟩
   ·rw [if_pos k1];refine ⟨Jl,⟨by show (-1:Int)≤(i:Int); omega,by show (i:Int)≤1000; omega,?_⟩⟩;rcases hv with e | ⟨_,hw⟩ | ⟨e,_⟩ | ⟨e,_⟩
    ·exact .inl e
    ·exact .inr (Aa1 hw)
    ·omega
    ·omega
theorem Df.up {u:PH}{v:Value}{F:CF}{N N':Nat}(h:Df u v F N)(hN:N≤N'):Df u v F N':=by
 obtain ⟨b,a,n,c,b',a',n',c',g1,g2,o1,o2,e,h1,h2,h3,h4,h5⟩:=h;exact ⟨b,a,n,c,b',a',n',c',g1,g2,o1,o2,e,h1,h2,h3,h4.up hN (Nat.le_refl _),h5.up hN (Nat.le_refl _)⟩
theorem Als {u:PH}{v:Value}{T:List (List UInt8×Nat)}{R:List Bn}{F:List Am}{lab:Int}{a:Nat}{x:List UInt8×Nat}{t:List UInt8}(h:D5 u v T R F lab)(ok:Bi u T R F lab)(hx:T[a]?=some x)(hv:Hd x.2 t) :
  Fn0 Tryz.prog 132 [v,.int .i64 (a:Int),.string (mkS t)] u fun r u'=>Df u' r (Di F lab a t).cf 1:=by
 have hnd:=ok.feat.nodup;have run:∀ {N:Nat},N≤1→(∀ u',PH.le u u'→Fn0 Tryz.prog 132 [v,.int .i64 (a:Int),.string (mkS t)] u' fun r u''=>Df u'' r (Di F lab a t).cf N)→Fn0 Tryz.prog 132 [v,.int .i64 (a:Int),.string (mkS t)] u fun r u'=>Df u' r (Di F lab a t).cf 1 :=
  fun {N} hN hl=>Fn0.weak (hl u (PH.le_refl _)) fun r u' hr=>hr.up hN
 have n0:CF.num ((0:Int):Rat)=CF.num 0:=by rw [show ((0:Int):Rat)=0 by decide +kernel]
 have n1:CF.num ((1:Int):Rat)=CF.num 1:=by rw [show ((1:Int):Rat)=1 by decide +kernel]
 by_cases hlab:(a:Int)=lab
 ·obtain ⟨n,hn⟩:=ok.l2 a hlab.symm;rw [hx] at hn; cases hn;have e:Di F lab a t=Lx t:=by unfold Di; rw [if_pos hlab]
  rw [e] at run ⊢;unfold Lx at run ⊢;by_cases hte:t = []
  ·rw [if_pos hte] at run ⊢;subst hte;refine run (N:=0) (by omega) fun u' l=>?_;have:=Adn (h.mono l) (ok.mono l) (a:=a) (i:=Ly F a) rfl hlab;rw [n0] at this; exact this
  ·rw [if_neg hte] at run ⊢;obtain ⟨g1,g2⟩:=E7 hv hte;refine run (N:=1) (by omega) fun u' l=>?_;subst hlab;have:=Agi (h.mono l) (ok.mono l) (a:=a) (q:=G7 t) g1.tx g1.sb g1.sb2;rw [g2] at this; exact this
 ·cases hidx:F.findIdx? (fun f=>f.1 == a) with
  | none =>
   have e:Di F lab a t=some none:=by unfold Di; rw [if_neg hlab,hidx]
   rw [e] at run ⊢;refine run (N:=0) (by omega) fun u' l=>?_;have:=Aep (h.mono l) (ok.mono l) (a:=a) (s:=t) (by unfold Ly Rd; rw [hidx]) hlab;rw [n1] at this; exact this
  | some k =>
   have e:Di F lab a t=G6 k (F.getD k (0,0,0)) t:=by unfold Di; rw [if_neg hlab,hidx]
   obtain ⟨hk,hk1,_⟩:=List.findIdx?_eq_some_iff_getElem.1 hidx;have hkf:F[k]?=some F[k]:=List.getElem?_eq_getElem hk;obtain ⟨n,kd,hkk,hkind,_⟩:=ok.feat.ok F[k] (List.getElem_mem hk);have hka:F[k].1=a:=by simpa using hk1
   simp only [List.getD_eq_getElem?_getD,hkf,Option.getD_some] at e;generalize F[k]=f at hkf hkk hkind hka e;obtain ⟨fa,fk,fm⟩:=f;simp only at hkk hkind hka;subst hka;rw [hkk] at hx; cases hx;have hat:=Akf hidx;rw [e] at run ⊢;unfold G6 at run ⊢;simp only at run ⊢;rcases hkind with ⟨k1,k2,k3⟩ | ⟨k1,k2,k3⟩
   ·subst k1;subst k2;rw [if_neg (by omega)] at run ⊢;by_cases hte:t = []
    ·rw [if_pos hte] at run ⊢;subst hte;by_cases hm:fm=1
     ·subst hm;rw [if_pos rfl] at run ⊢;refine run (N:=0) (by omega) fun u' l=>?_;have:=Afe (h.mono l) (ok.mono l) hat hkf hlab;rw [n0] at this; exact this
     ·obtain rfl:fm=0:=by omega
      rw [if_neg hm] at run ⊢;refine run (N:=0) (by omega) fun u' l=>?_;have:=Aea (h.mono l) (ok.mono l) hat hkf hlab;rw [n1] at this; exact this
    ·rw [if_neg hte] at run ⊢;obtain ⟨g1,g2⟩:=E7 hv hte;refine run (N:=1) (by omega) fun u' l=>?_;have:=Agr (h.mono l) (ok.mono l) hlab hat ⟨fm,hkf⟩ (q:=G7 t) g1.tx g1.sb g1.sb2;rw [g2] at this; exact this
   ·subst k1;subst k3;rw [if_pos rfl] at run ⊢;refine run (N:=1) (by omega) fun u' l=>?_;have:=Ah5 (h.mono l) (ok.mono l) (s:=t) hat hkf hlab;rw [show ((1:Int):Rat)=1 by decide +kernel] at this;exact this
end
section
open Go.RowKit Go.MapKept
structure Ca (T:List (List UInt8×Nat))(ss:List (List UInt8)):Prop where
 len:ss.length=T.length
 val:∀ (i:Nat) (x:List UInt8×Nat) (t:List UInt8),T[i]?=some x→ss[i]?=some t→Hd x.2 t
theorem Ca.at {T:List (List UInt8×Nat)}{ss:List (List UInt8)}(h:Ca T ss){i:Nat}(hi:i < ss.length):∃ x,T[i]?=some x∧Hd x.2 ss[i]:=by
 have:=h.len;have e:T[i]?=some (T[i]'(by omega)):=List.getElem?_eq_getElem (by omega);exact ⟨_,e,h.val i _ _ e (List.getElem?_eq_getElem hi)⟩
def L1 (ss:List (List UInt8))(f:Am):Bool:=f.2.1 == 1 && f.2.2 == 1 && (ss.getD f.1 []).isEmpty
def Pk (F:List Am)(lab:Int)(ss:List (List UInt8)):Bool:=!(decide (0≤lab) && (ss.getD lab.toNat []).isEmpty) && !F.any (L1 ss)
theorem W9 {T:List (List UInt8×Nat)}{F:List Am}{lab:Int}{ss:List (List UInt8)}(hF:Cy T F lab)(ht:Ca T ss){f:Am}(hf:f∈F):f.1 < ss.length:=by
 obtain ⟨n,k,h,_⟩:=hF.ok f hf;obtain ⟨h1,_⟩:=List.getElem?_eq_some_iff.1 h;have:=ht.len; omega
theorem Q5 {T:List (List UInt8×Nat)}{F:List Am}{lab:Int}{ss:List (List UInt8)}(hF:Cy T F lab)(ht:Ca T ss){i:Nat}{f:Am}(hf:F[i]?=some f):(D7 F lab ss)[f.1]?=some (G6 i f (ss.getD f.1 [])):=by
 have hm:=List.mem_of_getElem? hf;have hl:=W9 hF ht hm;obtain ⟨n,k,_,_,hne⟩:=hF.ok f hm;rw [Ew (w:=ss[f.1]) (List.getElem?_eq_getElem hl),U5 hF.nodup hf hne];simp [List.getD_eq_getElem?_getD,List.getElem?_eq_getElem hl]
theorem Aeq {F:List Am}{lab:Int}{ss:List (List UInt8)}{l:Nat}(hl:lab=(l:Int))(h:l < ss.length):(D7 F lab ss)[l]?=some (Lx (ss.getD l [])):=by
 rw [Ew (w:=ss[l]) (List.getElem?_eq_getElem h)];unfold Di;rw [if_pos hl.symm];simp [List.getD_eq_getElem?_getD,List.getElem?_eq_getElem h]
theorem Wx {T:List (List UInt8×Nat)}{F:List Am}{lab:Int}{ss:List (List UInt8)}(hF:Cy T F lab)(ht:Ca T ss)(h1:-1≤lab)(h2:∀ l:Nat,lab=(l:Int)→l < ss.length):Pk F lab ss=true↔none∉D7 F lab ss:=by
 unfold Pk;simp only [Bool.and_eq_true,Bool.not_eq_true',Bool.and_eq_false_iff,decide_eq_false_iff_not,Int.not_le];constructor
 ·rintro ⟨a,b⟩ hm;obtain ⟨i,hi,hi2⟩:=List.getElem_of_mem hm;have hi3:(D7 F lab ss)[i]?=some none:=by rw [List.getElem?_eq_getElem hi,hi2]
  have hil:i < ss.length:=by rw [En] at hi; exact hi
  rw [Ew (w:=ss[i]) (List.getElem?_eq_getElem hil)] at hi3;simp only [Option.some.injEq] at hi3;by_cases hlab:(i:Int)=lab
  ·unfold Di Lx at hi3;rw [if_pos hlab] at hi3;split at hi3
   ·rename_i he;rcases a with a | a
    ·omega
    ·rw [← hlab] at a;simp [List.getD_eq_getElem?_getD,List.getElem?_eq_getElem hil,he] at a
   ·cases hi3
  ·rcases E5 (F:=F) (w:=ss[i]) hlab with e | ⟨j,f,g1,g2,g3⟩
   ·rw [e] at hi3; cases hi3
   ·rw [g3] at hi3;unfold G6 at hi3;split at hi3
    ·cases hi3
    ·rename_i k2;split at hi3
     ·rename_i he;split at hi3
      ·rename_i k3;have hfm:=List.mem_of_getElem? g1;obtain ⟨n,k,_,hk,_⟩:=hF.ok f hfm;have k1:f.2.1=1:=by rcases hk with ⟨h,_⟩ | ⟨h,_⟩; exact h; exact absurd h k2
       have:L1 ss f=true:=by
        unfold L1;rw [g2];simp [k1,k3,List.getD_eq_getElem?_getD,List.getElem?_eq_getElem hil,he]
       have hb:=List.any_eq_false.1 b f hfm;rw [this] at hb; exact absurd rfl hb
      ·cases hi3
     ·cases hi3
 ·intro hn;constructor
  ·rcases Classical.em (lab < 0) with h | h
   ·exact .inl h
   ·right;obtain ⟨l,hl⟩:∃ l:Nat,lab=(l:Int):=⟨lab.toNat,by omega⟩;have hlt:=h2 l hl;have:=Aeq (F:=F) hl hlt;rw [hl,Int.toNat_natCast];cases he:ss.getD l [] with
    | cons x y=>rfl
    | nil =>
     rw [he] at this;exact absurd (List.mem_of_getElem? this) (by simpa [Lx] using hn)
  ·rw [List.any_eq_false];intro f hf hd;obtain ⟨i,hi,rfl⟩:=List.getElem_of_mem hf;have:=Q5 hF ht (List.getElem?_eq_getElem hi);unfold L1 at hd;simp only [Bool.and_eq_true,beq_iff_eq,List.isEmpty_iff] at hd;obtain ⟨⟨d1,d2⟩,d3⟩:=hd;rw [d3] at this;refine hn ?_;have e:G6 i F[i] []=none:=by unfold G6; rw [if_neg (by omega),if_pos rfl,if_pos d2]
   rw [e] at this;exact List.mem_of_getElem? this
noncomputable def cfT (F:List Am)(lab:Int)(ss:List (List UInt8)):CF:=Ey (CF.num 1) (D7 F lab ss)
theorem Aie {T:List (List UInt8×Nat)}{F:List Am}{lab:Int}{ss:List (List UInt8)}(hF:Cy T F lab)(ht:Ca T ss)(h1:-1≤lab)(h2:∀ l:Nat,lab=(l:Int)→l < ss.length)(hc:Pk F lab ss=false):cfT F lab ss=CF.num 0:=by
 refine Aek ?_;rcases Classical.em (none∈D7 F lab ss) with h | h
 ·exact h
 ·rw [(Wx hF ht h1 h2).2 h] at hc; cases hc
theorem Adf {T:List (List UInt8×Nat)}{F:List Am}{lab:Int}{ss:List (List UInt8)}(hF:Cy T F lab)(ht:Ca T ss)(h1:-1≤lab)(h2:∀ l:Nat,lab=(l:Int)→l < ss.length)(hc:Pk F lab ss=true):(cfT F lab ss).One :=
 S5 CF.One.num ((Wx hF ht h1 h2).1 hc)
theorem Aa8 {T:List (List UInt8×Nat)}{F:List Am}{lab:Int}{ss:List (List UInt8)}(hF:Cy T F lab)(ht:Ca T ss)(h1:-1≤lab)(h2:∀ l:Nat,lab=(l:Int)→l < ss.length)(hc:Pk F lab ss=true){a:Nat}{p:Par}{q:Rat}(h:(D7 F lab ss)[a]?=some (some (some (p,q)))):(cfT F lab ss).s p=q :=
 Ai6 CF.One.num ((Wx hF ht h1 h2).1 hc) rfl h fun b q' hb=>Ae2 h1 h hb
theorem Lf {u:PH}{T:List (List UInt8×Nat)}{R:List Bn}{F:List Am}{lab:Int}{ss:List (List UInt8)}(ok:Bi u T R F lab)(ht:Ca T ss):∀ x∈D7 F lab ss,x.Small:=fun x hx=>by
 obtain ⟨i,hi,rfl⟩:=List.getElem_of_mem hx;rw [En] at hi;have e:=Ew (F:=F) (lab:=lab) (w:=ss[i]) (List.getElem?_eq_getElem hi);rw [List.getElem?_eq_getElem (by rw [En]; exact hi),Option.some.injEq] at e;rw [e];obtain ⟨y,hy,hv⟩:=ht.at hi;exact Abs ok.feat ok.l2 ok.f2 hy hv
end
end Go.Proofs.YtnlfnomchebmcaaGreatDoor
