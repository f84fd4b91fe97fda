/- Parts of one proof, joined by a program. -/
import Derived.Test.YtijchbjkdllolaaGreatDoorP07
import Derived.RangeFuncSeq
import Derived.RangeFuncGives
import Derived.RangeFuncIn
import Derived.OrdersIn
import Derived.OwnWalkIn
set_option linter.defProp false
set_option linter.unusedVariables false
set_option linter.unusedSimpArgs false
set_option linter.unusedSectionVars false
set_option maxHeartbeats 16000000
namespace Go.Proofs.YtijchbjkdllolaaGreatDoor
open Go.Proofs.Tryz
open Go.RowKit Go.MapKept
def A7u:=@List.getElem_inj
def A4a:=@List.findIdx?_eq_some_iff_getElem
def Az9:=@List.getElem_of_mem
def A4v:=@List.map_replicate
def A0b:=@List.not_mem_nil
def A4i:=@List.pairwise_singleton
def A46:=@List.mem_append_right
def A6l:=@List.contains_iff_mem
def A5r:=@Array.getElem?_replicate
def A8k:=@List.getElem?_zipIdx
def A4n:=@List.cons.inj
section
variable {i:Nat}{q:Rat}{s:List UInt8}{u:PH}{x:Par×Rat}
def Nn (h:q≠0):Ae q≠[48]:=by
 intro e;unfold Ae at e;split at e
 ·have:=Ih (e.trans Es.symm);exact h (A4s.1 this)
 have:(47:UInt8)∈Lib.itoa q.num++47::Lib.itoa (q.den:Int):=mV;rw[e]at this;simp at this
def Ts (p q:Par)(r:Bool)(h:decide (Bf p q<0)=r):Fn0 prog 164 [Aq p,Aq q] u fun v _=>v=.bool r:=by
 refine Fn0.o func164<|G.c call219 (U5 p q) ?_;rintro j g e rfl;cases r with
 |true =>
  exact G.lT' (Bf p q) 0 (of_decide_eq_true h)<|G.r (.bool true) ⟨rfl,rfl⟩
 |false =>
  exact G.lF' (Bf p q) 0 (of_decide_eq_false h)<|G.r (.bool false) ⟨rfl,rfl⟩
def Am4 (h:Tx q)(h0:q≠0):Fn0 prog 285 [.string (mkS (Ae q))] u fun v _=>v=.bool true:=by
 refine Fn0.o func285<|G.c call143 (Eo h) ?_;rintro j g e rfl;exact G.x (Ae q) [48] (Nn h0)<|G.r (.bool true) ⟨rfl,rfl⟩
def Zq (h:Ha s=true):1<=s.length/\s.length<=12:=by
 unfold Ha at h;split at h
 ·cases h
 simp only[Azb,decide_eq_true_eq]at h;exact⟨mV,h.2⟩
def Vj (h:Ha s=true){c:UInt8}(hi:s[i]?=some c):(97<=c.toNat/\c.toNat<=122)\/(i≠0/\(c.toNat=45\/(48<=c.toNat/\c.toNat<=57))):=by
 unfold Ha at h;split at h
 ·cases h
 rename_i d l;simp only[Azb,decide_eq_true_eq,Azg,Aw5,A1z]at h;obtain⟨⟨e,g⟩,_⟩:=h
 match i,hi with
 |0,hi=>simp at hi;subst hi;exact .inl e
 |i+1,hi =>
  simp at hi;rcases g c (Ay9 hi) with h|h
  ·exact .inl h
  exact .inr ⟨oV,h⟩
def Aju (h:Ha s=true):Fn0 prog 166 [.string (mkS s)] u fun v _=>v=.bool true:=by
 obtain⟨L,N⟩:=Zq h;refine Fn0.o func166<|G.convSB (some .string) 5 s kV kV kV ?_;intro Y W T E;obtain⟨a,c,rfl⟩:=Ac.opn E;rw[Ay]at E⊢;refine G.l (ι:=Nat) (fun i=>[(0,tV s),(7,sV a s.length c),(8,iV s.length),(9,iV i)]) (fun _=>[])
  (fun i V O=>i<=s.length/\O=PH.mt) (fun i=>s.length-i) 0 ⟨oV,rfl⟩ ?_
 rintro J i g X U l2 ⟨hi,rfl⟩;by_cases m:i<s.length
 ·refine G.lT i s.length ?_;have t:s[i]?=some s[i]:=Ayr m;obtain⟨b,off,rfl,e⟩:=Ac.at' (E.mono l2) (j:=i) (e:=.int .u8 (s[i].toNat:Int)) (by simp[Bm,t]);have H:=Vj h t;generalize s[i].toNat=n at e H;refine G.a b off s.length c i 1 m<|G.lU none b (off+i*1) (.int .u8 (n:Int)) e ?_;by_cases F:97<=n/\n<=122
  ·exact G.cmpG .geq .u8 (n:Int) 97 true kV rfl (by simp[Cl];omega)<|G.cmpG .leq .u8 (n:Int) 122 true kV rfl (by simp[Cl];omega)<|G.i i<|G.b (g (i+1) _ _ _ cV l2 ⟨oV,rfl⟩ oV)
  obtain⟨K,P⟩:=H.resolve_left F;by_cases I:97<=n
  ·refine G.cmpG .geq .u8 (n:Int) 97 true kV rfl (by simp[Cl];omega)<|G.cmpG .leq .u8 (n:Int) 122 false kV rfl (by simp[Cl];omega)<|G.eF i 0 ?_;by_cases C:n=45
   ·exact G.cmpG .neq .u8 (n:Int) 45 false kV rfl (by simp[Cl];omega)<|G.i i<|G.b (g (i+1) _ _ _ cV l2 ⟨oV,rfl⟩ oV)
   exact G.cmpG .neq .u8 (n:Int) 45 true kV rfl (by simp[Cl];omega)<|G.cmpG .lss .u8 (n:Int) 48 false kV rfl (by simp[Cl];omega)<|G.cmpG .gtr .u8 (n:Int) 57 false kV rfl (by simp[Cl];omega)<|G.i i<|G.b (g (i+1) _ _ _ cV l2 ⟨oV,rfl⟩ oV)
  refine G.cmpG .geq .u8 (n:Int) 97 false kV rfl (by simp[Cl];omega)<|G.eF i 0 ?_;by_cases C:n=45
  ·exact G.cmpG .neq .u8 (n:Int) 45 false kV rfl (by simp[Cl];omega)<|G.i i<|G.b (g (i+1) _ _ _ cV l2 ⟨oV,rfl⟩ oV)
  exact G.cmpG .neq .u8 (n:Int) 45 true kV rfl (by simp[Cl];omega)<|G.cmpG .lss .u8 (n:Int) 48 false kV rfl (by simp[Cl];omega)<|G.cmpG .gtr .u8 (n:Int) 57 false kV rfl (by simp[Cl];omega)<|G.i i<|G.b (g (i+1) _ _ _ cV l2 ⟨oV,rfl⟩ oV)
 obtain rfl:i=s.length:=oV;refine G.lF s.length s.length ?_;have Q:∀ x:Int,x=(s.length:Int)->1<=x/\x<=12:=fun x R=>oV;exact G.hT s.length 1<|G.kT s.length 12<|G.r (.bool true) ⟨rfl,rfl⟩
def Afi {p:Par}(h:PV p):Fn0 prog 284 [Aq p] u fun v _=>v=.bool true:=by
 refine Fn0.o func284<|G.hT' p.1 (-1) (by have:=h.lo;omega) ?_;by_cases e:p.2 = []
 ·exact G.q p.2 [] e<|G.r (.bool true) ⟨rfl,rfl⟩
 refine G.w p.2 [] e<|G.c call166 (Aju (h.cat.resolve_left e)) ?_;rintro m j g rfl;exact G.r (.bool true) ⟨rfl,rfl⟩
def Ax9 (h:PV x.1)(e:Tx x.2)(h0:x.2≠0):Fn0 prog 283 [As x] u fun v _=>v=.bool false:=by
 refine Fn0.o func283<|G.c call284 (Afi h) ?_;rintro n j g rfl;refine G.c call285 (Am4 e h0) ?_;rintro t m l2 rfl;exact G.r (.bool false) ⟨rfl,rfl⟩
def Ax4 {x:(Par×Par)×Rat}(h:PV x.1.1)(g:PV x.1.2)(j:¬ 0<Bf x.1.1 x.1.2)(m:Tx x.2)(h0:x.2≠0):Fn0 prog 287 [D7 x] u fun v _=>v=.bool false:=by
 refine Fn0.o func287<|G.c call284 (Afi h) ?_;rintro J E n rfl;refine G.c call284 (Afi g) ?_;rintro K F l2 rfl;refine G.c call164 (Ts x.1.2 x.1.1 false (decide_eq_false fun e=>j ((Dl.sym _ _).1 e))) ?_;rintro L H t rfl;refine G.c call285 (Am4 m h0) ?_;rintro N I C rfl;exact G.r (.bool false) ⟨rfl,rfl⟩
def Avu {x y:Par×Rat}(h:Bf x.1 y.1<0):Fn0 prog 289 [As x,As y] u fun v _=>v=.bool true:=by
 refine Fn0.o func289<|G.c call164 (Ts x.1 y.1 true (decide_eq_true h)) ?_;rintro j g e rfl;exact G.r (.bool true) ⟨rfl,rfl⟩
def Au8 {x y:(Par×Par)×Rat}(h:Ni x.1 y.1<0):Fn0 prog 291 [D7 x,D7 y] u fun v _=>v=.bool true:=by
 refine Fn0.o func291 ?_;by_cases g:Bf x.1.1 y.1.1<0
 ·refine G.c call164 (Ts x.1.1 y.1.1 true (decide_eq_true g)) ?_;rintro C t n rfl;exact G.r (.bool true) ⟨rfl,rfl⟩
 have j:Bf x.1.1 y.1.1=0/\Bf x.1.2 y.1.2<0:=by
  unfold Ni at h;split at h
  ·exact absurd h g
  rename_i e;exact⟨by simpa using e,h⟩
 have m:=Dl.eq _ _ j.1;refine G.c call164 (Ts x.1.1 y.1.1 false (decide_eq_false g)) ?_;rintro C t n rfl;refine G.eqAgg 63 #[.int .i64 x.1.1.1,.string (mkS x.1.1.2)] #[.int .i64 y.1.1.1,.string (mkS y.1.1.2)] true kV kV kV (fun w=>by rw[<-decide_eq_true m];exact Bx.eq x.1.1 y.1.1 w)<|G.c call164 (Ts x.1.2 y.1.2 true (decide_eq_true j.2)) ?_;rintro F E l2 rfl;exact G.r (.bool true) ⟨rfl,rfl⟩
def Asu {u:PH}{v:Value}{T:List (Par×Rat)}{fid:Nat}(h:Ac u v 3 (T.map As))(P:T.length<=1000000)
 (g:∀ args w,(callFunc fid args).run prog w=.ok (.enter fid args) w) (K:∀ p∈T,∀ C,PH.le u C->Fn0 prog fid [As p] C fun v _=>v=.bool false) :
 Fn0 prog 218 [v,.func (.func fid) #[] #[]] u fun O _=>O=.int .i64 (-1):=by
 obtain⟨a,c,rfl⟩:=h.opn;rw[Ayt]at h⊢;refine Fn0.o func218<|G.l (ι:=Nat) (fun i=>[(0,sV a T.length c),(1,.v (.func (.func fid) #[] #[])),(7,iV T.length),(8,iV i)]) (fun _=>[])
  (fun i C L=>i<=T.length/\L=PH.mt) (fun i=>T.length-i) 0 ⟨oV,rfl⟩ ?_
 rintro J i I N Q t ⟨hi,rfl⟩;by_cases m:i<T.length
 ·refine G.lT i T.length ?_;have n:T[i]?=some T[i]:=Ayr m;obtain⟨E,F,rfl,H⟩:=Ac.at' (h.mono t) (j:=i) (e:=As T[i]) (by simp[n]);refine G.a E F T.length c i 3 oV<|G.lU (some 3) E (F+i*3) (As T[i]) H<|G.call0 fid [As T[i]] kV g (K T[i] (Ay8 m) N t) ?_;rintro U R l2 rfl;exact G.i i<|G.b (I (i+1) _ _ _ cV (t.trans l2) ⟨oV,rfl⟩ oV)
 obtain rfl:i=T.length:=oV;exact G.lF T.length T.length<|G.r (.int .i64 (-1)) ⟨rfl,rfl⟩
def Wh {u:PH}{v:Value}{T:List (Par×Rat)}{fid:Nat}(h:Ac u v 3 (T.map As))(m:T.length<=1000000)
 (e:∀ args w,(callFunc fid args).run prog w=.ok (.enter fid args) w) (j:∀ p∈T,∀ g,PH.le u g->Fn0 prog fid [As p] g fun v _=>v=.bool false) :
 Fn0 prog 162 [v,.func (.func fid) #[] #[]] u fun n _=>n=.bool false:=by
 obtain⟨a,c,rfl⟩:=h.opn;refine Fn0.o func162<|G.c call218 (Asu h m e j) ?_;rintro E C t rfl;exact G.hF (-1) 0<|G.r (.bool false) ⟨rfl,rfl⟩
def Acm {u:PH}{v:Value}{T:List (Par×Rat)}{fid:Nat}(h:Ac u v 3 (T.map As))(U:T.length<=1000000)
 (g:∀ args w,(callFunc fid args).run prog w=.ok (.enter fid args) w) (O:∀ (i:Nat) x y,T[i]?=some x->T[i+1]?=some y->∀ H,Fn0 prog fid [As x,As y] H fun v _=>v=.bool true) :
 Fn0 prog 288 [v,.func (.func fid) #[] #[]] u fun R _=>R=.bool true:=by
 obtain⟨a,c,rfl⟩:=h.opn;rw[Ayt]at h⊢;refine Fn0.o func288<|G.l (ι:=Nat) (fun i=>[(0,sV a T.length c),(1,.v (.func (.func fid) #[] #[])),(5,iV (i+1:Nat))]) (fun _=>[])
  (fun i H P=>i<=T.length/\P=PH.mt) (fun i=>T.length-i) 0 ⟨oV,rfl⟩ ?_
 rintro J i N Q V F ⟨hi,rfl⟩;by_cases E:i+1<T.length
 ·refine G.lT (i+1:Nat) T.length ?_;have m:T[i]?=some T[i]:=Ayr oV;have n:T[i+1]?=some T[i+1]:=Ayr E;obtain⟨t,C,rfl,K⟩:=Ac.at' (h.mono F) (j:=i) (e:=As T[i]) (by simp[m]);obtain⟨_,_,I,L⟩:=Ac.at' (h.mono F) (j:=i+1) (e:=As T[i+1]) (by simp[n]);cases I;refine G.s (i+1:Nat) 1 i<|G.a t C T.length c i 3 oV<|G.lU (some 3) t (C+i*3) (As T[i]) K<|G.a t C T.length c (i+1) 3 oV<|G.lU (some 3) t (C+(i+1)*3) (As T[i+1]) L<|G.call0 fid [As T[i],As T[i+1]] kV g (O i _ _ m n Q) ?_;rintro X W l2 rfl;exact G.p (i+1:Nat) 1 (i+1+1:Nat)<|G.b (N (i+1) _ _ _ cV (F.trans l2) ⟨oV,rfl⟩ oV)
 exact G.lF (i+1:Nat) T.length<|G.r (.bool true) ⟨rfl,rfl⟩
def Aq0 {u:PH}{v:Value}{T:List ((Par×Par)×Rat)}{fid:Nat}(h:Ac u v 5 (T.map D7))(P:T.length<=1000000)
 (g:∀ args w,(callFunc fid args).run prog w=.ok (.enter fid args) w) (K:∀ p∈T,∀ C,PH.le u C->Fn0 prog fid [D7 p] C fun v _=>v=.bool false) :
 Fn0 prog 309 [v,.func (.func fid) #[] #[]] u fun O _=>O=.int .i64 (-1):=by
 obtain⟨a,c,rfl⟩:=h.opn;rw[Ayt]at h⊢;refine Fn0.o func309<|G.l (ι:=Nat) (fun i=>[(0,sV a T.length c),(1,.v (.func (.func fid) #[] #[])),(7,iV T.length),(8,iV i)]) (fun _=>[])
  (fun i C L=>i<=T.length/\L=PH.mt) (fun i=>T.length-i) 0 ⟨oV,rfl⟩ ?_
 rintro J i I N Q t ⟨hi,rfl⟩;by_cases m:i<T.length
 ·refine G.lT i T.length ?_;have n:T[i]?=some T[i]:=Ayr m;obtain⟨E,F,rfl,H⟩:=Ac.at' (h.mono t) (j:=i) (e:=D7 T[i]) (by simp[n]);refine G.a E F T.length c i 5 oV<|G.lU (some 5) E (F+i*5) (D7 T[i]) H<|G.call0 fid [D7 T[i]] kV g (K T[i] (Ay8 m) N t) ?_;rintro U R l2 rfl;exact G.i i<|G.b (I (i+1) _ _ _ cV (t.trans l2) ⟨oV,rfl⟩ oV)
 obtain rfl:i=T.length:=oV;exact G.lF T.length T.length<|G.r (.int .i64 (-1)) ⟨rfl,rfl⟩
def Ahu {u:PH}{v:Value}{T:List ((Par×Par)×Rat)}{fid:Nat}(h:Ac u v 5 (T.map D7))(m:T.length<=1000000)
 (e:∀ args w,(callFunc fid args).run prog w=.ok (.enter fid args) w) (j:∀ p∈T,∀ g,PH.le u g->Fn0 prog fid [D7 p] g fun v _=>v=.bool false) :
 Fn0 prog 286 [v,.func (.func fid) #[] #[]] u fun n _=>n=.bool false:=by
 obtain⟨a,c,rfl⟩:=h.opn;refine Fn0.o func286<|G.c call309 (Aq0 h m e j) ?_;rintro E C t rfl;exact G.hF (-1) 0<|G.r (.bool false) ⟨rfl,rfl⟩
def Aes {u:PH}{v:Value}{T:List ((Par×Par)×Rat)}{fid:Nat}(h:Ac u v 5 (T.map D7))(U:T.length<=1000000)
 (g:∀ args w,(callFunc fid args).run prog w=.ok (.enter fid args) w) (O:∀ (i:Nat) x y,T[i]?=some x->T[i+1]?=some y->∀ H,Fn0 prog fid [D7 x,D7 y] H fun v _=>v=.bool true) :
 Fn0 prog 290 [v,.func (.func fid) #[] #[]] u fun R _=>R=.bool true:=by
 obtain⟨a,c,rfl⟩:=h.opn;rw[Ayt]at h⊢;refine Fn0.o func290<|G.l (ι:=Nat) (fun i=>[(0,sV a T.length c),(1,.v (.func (.func fid) #[] #[])),(5,iV (i+1:Nat))]) (fun _=>[])
  (fun i H P=>i<=T.length/\P=PH.mt) (fun i=>T.length-i) 0 ⟨oV,rfl⟩ ?_
 rintro J i N Q V F ⟨hi,rfl⟩;by_cases E:i+1<T.length
 ·refine G.lT (i+1:Nat) T.length ?_;have m:T[i]?=some T[i]:=Ayr oV;have n:T[i+1]?=some T[i+1]:=Ayr E;obtain⟨t,C,rfl,K⟩:=Ac.at' (h.mono F) (j:=i) (e:=D7 T[i]) (by simp[m]);obtain⟨_,_,I,L⟩:=Ac.at' (h.mono F) (j:=i+1) (e:=D7 T[i+1]) (by simp[n]);cases I;refine G.s (i+1:Nat) 1 i<|G.a t C T.length c i 5 oV<|G.lU (some 5) t (C+i*5) (D7 T[i]) K<|G.a t C T.length c (i+1) 5 oV<|G.lU (some 5) t (C+(i+1)*5) (D7 T[i+1]) L<|G.call0 fid [D7 T[i],D7 T[i+1]] kV g (O i _ _ m n Q) ?_;rintro X W l2 rfl;exact G.p (i+1:Nat) 1 (i+1+1:Nat)<|G.b (N (i+1) _ _ _ cV (F.trans l2) ⟨oV,rfl⟩ oV)
 exact G.lF (i+1:Nat) T.length<|G.r (.bool true) ⟨rfl,rfl⟩
def Zp {κ:Type}{c:κ->κ->Int}{T:List (κ×Rat)}(h:Ez c (T.map (·.1))){x y:κ×Rat}(j:T[i]?=some x)(m:T[i+1]?=some y):c x.1 y.1<0:=by
 obtain⟨e,rfl⟩:=Ayu.1 j;obtain⟨g,rfl⟩:=Ayu.1 m;have:=A02.1 h i (i+1) (by simpa using e) (by simpa using g) oV;simpa using this
def Au3 {v:Value}{F:CF}{K:Nat}(R:Nu u v F K)(n:CFS F)(L:CFV F)(hK:K<=1000000):Fn0 prog 243 [v] u fun V _=>V=.bool true:=by
 obtain⟨T,Q,W,Y,X,Z,rfl,hT,I,H,E,kT,kQ⟩:=R;refine Fn0.o func243<|G.c call143 (Eo (SB.tx n.c)) ?_;rintro v1 u1 h rfl;refine G.c call162 (Wh (fid:=283) (hT.mono h) oV call283 (fun p hp C _=>by
  obtain⟨e,g⟩:=H.val p hp;exact Ax9 (L.s _ (by rw[<-e];exact g)) (SB.tx (by rw[e];exact n.s _)) g)) ?_
 rintro v2 u2 l2 rfl;refine G.c call286 (Ahu (fid:=287) (I.mono (h.trans l2)) oV call287 (fun p hp C _=>by
  obtain⟨e,g⟩:=E.val p hp;obtain⟨N,O,P⟩:=L.t p.1 (by rw[<-e];exact g);exact Ax4 N O P (SB.tx (by rw[e];exact n.t _)) g)) ?_
 rintro v3 u3 J rfl;refine G.c call288 (Acm (fid:=289) (hT.mono ((h.trans l2).trans J)) oV call289 (fun i x y j m C=>Avu (Zp H.srt j m))) ?_;rintro v4 u4 U rfl;refine G.c call290 (Aes (fid:=291) (I.mono (((h.trans l2).trans J).trans U)) oV call291 (fun i x y j m C=>Au8 (Zp E.srt j m))) ?_;rintro v5 u5 l5 rfl;exact G.r (.bool true) ⟨rfl,rfl⟩
end
section
variable {F:CF}{K:Nat}{u:PH}{v:Value}
section
variable {P:Program}
def Ach {t:TypeId}(h:P.underlying t=some .string)(d:Nat)(s:List UInt8)(w:World):(Op.equalIn (d+1) t (.string (mkS s)) (.string (mkS s))).run P w=.ok true w:=by
 rw[run_equalIn_string w d _ _ _ h,Aj0];simp
def Akk {t tp ti ts tr:TypeId}{k:IntKind}(C:(P.fieldsOf t).toList.map Jc = [(true,tp,0),(true,tr,2)])(T:P.underlying t=some (.struct (P.fieldsOf t)))(hp:P.stoodInHeld t=false)
 (H:(P.fieldsOf tp).toList.map Jc = [(true,ti,0),(true,ts,1)]) (j:P.underlying tp=some (.struct (P.fieldsOf tp))) (J:P.stoodInHeld tp=false) (h:szB P tp=some 2) (hi:P.underlying ti=some (.int k)) (R:P.underlying ts=some .string) (L:P.underlying tr=some .string) (d:Nat) (x:Par×Rat) (w:World) :
 (Op.equalIn (d+3) t (As x) (As x)).run P w=.ok true w:=by
 have e:Kw P tp=some true:=by unfold Kw;rw[j]
 unfold As;rw[run_equalIn_struct w (d+2) t _ _ T hp];generalize (P.fieldsOf t).toList=fs at C;obtain⟨f,g,I⟩:=Qy C;subst I;simp only[Azu,A3n,A0f,Jc,Az0,bne_iff_ne,ne_eq,and_true]at C;obtain⟨⟨U,O,W⟩,V,Q,X⟩:=C;obtain⟨⟨m,n⟩,E⟩:=x;simp only[Op.eqFields,ne_eq,U,V,not_false_eq_true,if_true,Sem.run_bind,O,Q,W,X];rw[Cv e h,Result.andThen_ok,Cv e h,Result.andThen_ok];have N:=Ho H j J hi R d (m,n) (m,n) w;unfold Aq at N;have Y:(#[Value.int .i64 m,.string (mkS n),.string (mkS (Ae E))].extract 0 (0+2)) = #[.int .i64 m,.string (mkS n)]:=rfl;simp only[Y,N,Result.andThen_ok,decide_true,A4k,A1q,if_false,Sem.run_bind];rw[Gj (Ji L) (v:=.string (mkS (Ae E))) rfl,Result.andThen_ok,Gj (Ji L) (v:=.string (mkS (Ae E))) rfl,Result.andThen_ok,Ach L];simp
end
def Avv (x:Par×Rat)(w:World):(Op.equal 65 (As x) (As x)).run prog w=.ok true w :=
 Akk (P:=prog) (t:=65) (tp:=63) (ti:=3) (ts:=9) (tr:=32) (k:=.i64) kV kV kV kV kV kV kV kV kV kV 9997 x w
def Au7 (u:PH)(v:Value)(F:CF)(K:Nat):Prop:=∃ r,v=.tuple #[r,.int .i64 0]/\Nu u r F K
def Nu.opn (h:Nu u v F K):∃ e n j g t m,v=.agg #[.string (mkS (Ae F.c)),.slice e n j,.slice g t m]:=by
 obtain⟨T,Q,e,j,g,m,rfl,_⟩:=h;exact⟨_,_,_,_,_,_,rfl⟩
def Adp {N:Nat}(h:Rc u v F N):∃ b a n c b' g m j g1 g2,v=.agg #[.bool b,.slice a n c,.bool b',.slice g m j,.map (some g1),.map (some g2)]:=by
 obtain⟨b,a,n,c,b',g,m,j,g1,g2,t,C,e,_⟩:=h;exact⟨_,_,_,_,_,_,_,_,_,_,e⟩
def Axm (j:Nu u v F K)(n:CFS F)(g:K<=1000000):Fn0 prog 52 [v] u fun t e=>Rc e t F K :=
 Fn0.weak (Ag.giveAll (of0 j n g)) fun v e ⟨E,C,m,l2,h⟩=>h.give m l2
def CF.num (k:Rat):CF:=⟨k,fun _=>0,fun _=>0⟩
end
section
variable {b c n:Nat}{x:List UInt8}
section rules
variable [Cc] {P:Program} [A5 P] {fn:Func} {Post:By} {st:List KI×S} {u m:PH}
def FnK (P:Program)(f:FuncId)(args:List Value)(u m:PH)(R:Value->PH->Prop):Prop:=Ag P f args u m fun v u' m'=>m'=m/\R v u'
def FnK.of {R:Value->PH->Prop}{f:FuncId}{args:List Value}(g:P.funcs[f]?=some fn)(e:fn.body.isSome=true)(j:Nat.ble args.length fn.ntmps=true)(h:G P fn ⟨fun v C t=>t=m/\R v C,m⟩ (st0 fn args) u m):FnK P f args u m R:=Ag.of g e j h
def G.callK (f:Nat)(args:List Value){R:Value->PH->Prop}(h:Aj P (adv P st)=.call f args)(U:∀ args w,(callFunc f args).run P w=.ok (.enter f args) w)(c:FnK P f args u m R)
 (k:∀ v j,PH.le u j->R v j->G P fn Post (nx (adv P st) v) j m):G P fn Post st u m:=by
 refine G.big (K:=fun v j C=>C=m/\R v j) h mV Dd (.inl fun v j C Q=>by rw[Q.1];exact fun g o W=>W) (fun L o t w E=>?_) (fun v j C N O=>?_)
 ·refine He t U w _ (Calls.mono (c w E) fun e w' V=>?_);obtain⟨v,j,C,F,H,I,J⟩:=V;exact⟨v,F,j,C,H,I,J⟩
 obtain⟨rfl,T⟩:=O;exact k v j N T
end rules
section
def Arl {u m:PH}(L:List (List UInt8))(K:n<=L.length)(I:n<=1000000)(t:∀ j s,L[j]?=some s->ElP m b (0+j*1) (.string (mkS s)))(E:∀ j s,j<n->L[j]?=some s->s≠x) :
 FnK prog 294 [.slice (some ⟨b,0,none⟩) n c,.string (mkS x)] u m fun v _=>v=.int .i64 (-1):=by
 refine FnK.of func294 kV kV<|G.l (ι:=Nat) (fun i=>[(0,sV (some ⟨b,0,none⟩) n c),(1,tV x),(7,iV n),(8,iV i)]) (fun _=>[])
  (fun i O H=>i<=n/\H=m) (fun i=>n-i) 0 ⟨oV,rfl⟩ ?_
 rintro J i C Q N F ⟨hi,rfl⟩;by_cases h:i<n
 ·refine G.lT i n ?_;have g:L[i]?=some L[i]:=Ayr oV;exact G.a b 0 n c i 1 h<|G.lM none b (0+i*1) (.string (mkS L[i])) (t i _ g)<|G.w x L[i] (fun e=>E i _ h g e.symm)<|G.i i<|G.b (C (i+1) _ _ _ cV F ⟨oV,rfl⟩ oV)
 obtain rfl:i=n:=oV;exact G.lF i i<|G.r (.int .i64 (-1)) ⟨rfl,rfl⟩
def Afv {u m:PH}(L:List (List UInt8))(h:n<=L.length)(g:n<=1000000)(e:∀ j s,L[j]?=some s->ElP m b (0+j*1) (.string (mkS s)))(t:∀ j s,j<n->L[j]?=some s->s≠x) :
 FnK prog 250 [.slice (some ⟨b,0,none⟩) n c,.string (mkS x)] u m fun v _=>v=.bool false:=by
 refine FnK.of func250 kV kV<|G.callK _ _ kV call294 (Arl (c:=c) L h g e t) ?_;rintro F E C rfl;exact G.hF (-1) 0<|G.r (.bool false) ⟨rfl,rfl⟩
structure R6 (L:List (List UInt8)):Prop where
 word:∀ s∈L,Ha s=true
 nodup:L.Nodup
def Apt {u m:PH}{b k c:Nat}{L:List (List UInt8)}(h:R6 L)(N:L.length<=1000)(J:L.length<=c)(t:L[k]?=some x)(C:∀ j s,L[j]?=some s->ElP m b (0+j*1) (.string (mkS s))) :
 FnK prog 214 [.slice (some ⟨b,0,none⟩) L.length c,.int .i64 k] u m fun v _=>v=.int .i64 0:=by
 obtain⟨g,H⟩:=Ayu.1 t;refine FnK.of func214 kV kV<|G.a b 0 L.length c k 1 g<|G.lM none b (0+k*1) (.string (mkS x)) (C k x t)<|G.c call166 (Aju (h.word x (Ay9 t))) ?_;rintro T Q O rfl;refine G.sliceTo 1 (some ⟨b,0,none⟩) L.length c k kV oV<|G.a b 0 L.length c k 1 g<|G.lM none b (0+k*1) (.string (mkS x)) (C k x t)<|G.callK _ _ kV call250 (Afv (n:=k) (c:=c) (x:=x) L oV oV C fun j s K I e=>?_) ?_
 ·obtain⟨E,F⟩:=Ayu.1 I;have:=(A7u (h₀:=E) (h₁:=g) h.nodup).1 (by rw[F,H,e]);omega
 rintro U R l2 rfl;exact G.r (.int .i64 0) ⟨rfl,rfl⟩
def Dz (a:List UInt8×Nat):Value:=.agg #[.string (mkS a.1),.int .i64 a.2]
def nmV (s:List UInt8):Value:=.string (mkS s)
def Hk (L:List (List UInt8)):Ba 1 (L.map nmV):=by
 intro e g;obtain⟨s,_,rfl⟩:=Ayx.1 g;exact⟨rfl,Azg.1 rfl⟩
end
end
structure Am8 (T:List (List UInt8×Nat)):Prop where
 names:R6 (T.map (·.1))
 kind:∀ a∈T,1<=a.2/\a.2<=3
def R6.take {L:List (List UInt8)}(h:R6 L)(k:Nat):R6 (L.take k):=⟨fun s e=>h.word s (A0o e),h.nodup.sublist (List.take_sublist _ _)⟩
def getElem?_snoc_last {α:Type}(l:List α)(x:α):(l++[x])[l.length]?=some x:=mV
def Ad9 {u:PH}{v w x y:Value}{T:List (List UInt8×Nat)}(h:Ac u v 2 (T.map Dz))(ok:Am8 T)(hl:T.length<=1000)(Y:∃ a n c,w=.slice a n c)(Z:∃ a n c,x=.slice a n c)(hy:∃ z:Int,y=.int .i64 z) :
 Fn0 prog 159 [.agg #[v,w,x,y]] u fun r _=>r=.int .i64 0:=by
 obtain⟨a,c,rfl⟩:=h.opn;obtain⟨wa,wn,wc,rfl⟩:=Y;obtain⟨xa,xn,xc,rfl⟩:=Z;obtain⟨z,rfl⟩:=hy;rw[Ayt]at h⊢;refine Fn0.o func159<|G.l (ι:=Nat×(Option Addr×Nat×Nat)) (fun i=>[(3,sV i.2.1 i.2.2.1 i.2.2.2),(8,sV a T.length c),(9,iV T.length),(10,iV i.1)]) (fun _=>[])
  (fun i u' m'=>i.1<=T.length/\Af PH.mt m' (.slice i.2.1 i.2.2.1 i.2.2.2) 9 1 (((T.map (·.1)).take i.1).map nmV)) (fun i=>T.length-i.1) (0,(none,0,0)) ⟨mV,Af.nil _ _ _⟩ ?_
 rintro J ⟨i,na,nn,nc⟩ R u1 m1 U ⟨hi,I⟩;simp only at hi I R;by_cases F:i<T.length
 ·refine G.lT i T.length ?_;have H:T[i]?=some T[i]:=Ayr F;have K:=ok.kind T[i] (Ay8 F);have t:((T.map (·.1)).take (i+1))=(T.map (·.1)).take i++[T[i].1]:=by
   rw[Aze,Ayy,H];rfl
  have g:=ok.names.take (i+1);rw[t]at g;have E:((T.map (·.1)).take i).length=i:=gV;generalize hL:(T.map (·.1)).take i=L at I t g E;obtain⟨O,V,rfl,Q⟩:=Ac.at' (h.mono U) (j:=i) (e:=Dz T[i]) (by simp[H]);generalize T[i]=q at Q K t g;refine G.a O V T.length c i 2 F<|G.lU (some 2) O (V+i*2) (.agg #[.string (mkS q.1),.int .i64 q.2]) Q<|G.B 9 1 16 (.string (mkS [])) [.string (mkS q.1)] (Hk [q.1]) ?_;intro g2 u2 l2 W;refine G.k 9 1 16 (.string (mkS [])) PH.mt (L.map nmV) [.string (mkS q.1)] (.slice na nn nc) g2 0 1 1 I W (Hk [q.1]) ?_;intro v3 m3 m;rw[show L.map nmV++[.string (mkS q.1)]=(L++[q.1]).map nmV by rw[Aza];rfl]at m;obtain⟨N,P,rfl⟩:=m.ptr mV;have C:=m.cap;rw[Ayt]at m C⊢;refine G.callK _ _ kV call214 (Apt (b:=N) (k:=i) (c:=P) (x:=q.1) (L:=L++[q.1]) g gV C (by rw[<-E];exact getElem?_snoc_last L q.1) fun j s X=>m.el (by rw[Ayy,X];rfl)) ?_;rintro v4 u4 l4 rfl;exact G.nF 0 0<|G.lF q.2 1<|G.gF q.2 3<|G.i i<|G.b (R (i+1,(some ⟨N,0,none⟩,(L++[q.1]).length,P)) _ _ _ cV ((U.trans l2).trans l4) ⟨dV,by dsimp only;rw[t];exact m⟩ dV)
 obtain rfl:i=T.length:=oV;exact G.lF T.length T.length<|G.pastI<|G.drop PH.mt kV (PH.mt_le _)<|G.r (.int .i64 0) ⟨rfl,rfl⟩
section
variable {α:Type}
abbrev Am:Type:=Nat×Nat×Nat
def Ch (f:Am):Value:=.agg #[.int .i64 f.1,.int .i64 f.2.1,.int .i64 f.2.2]
def Aop {α:Type}(p:α->Bool)(T:List α):Int:=match T.findIdx? p with|some k=>(k:Int)|none=>-1
def Ara {p:α->Bool}{T:List α}{i:Nat}(hi:i<T.length)(h:p T[i]=true)(h0:∀ j (e:j<i),p (T[j]'oV)=false):Aop p T=(i:Int):=by
 have:T.findIdx? p=some i:=A4a.2 ⟨hi,h,fun j e=>by simp[h0 j e]⟩;unfold Aop;rw[this]
def Ajt {p:α->Bool}{T:List α}(h0:∀ x∈T,p x=false):Aop p T = -1:=by
 have:T.findIdx? p=none:=List.findIdx?_eq_none_iff.2 h0;unfold Aop;rw[this]
def Atd {u m:PH}{v cap:Value}{T:List Am}{fid:Nat}(p:Am->Bool)(h:Ac u v 3 (T.map Ch))(U:T.length<=1000000)
 (n:∀ args w,(callFunc fid args).run prog w=.ok (.enter fid args) w) (N:∀ f∈T,∀ F,PH.le u F->FnK prog fid [Ch f,cap] F m fun v _=>v=.bool (p f)) :
 FnK prog 252 [v,.func (.func fid) #[] #[cap]] u m fun R _=>R=.int .i64 (Aop p T):=by
 obtain⟨a,c,rfl⟩:=h.opn;rw[Ayt]at h⊢;refine FnK.of func252 kV kV<|G.l (ι:=Nat) (fun i=>[(0,sV a T.length c),(1,.v (.func (.func fid) #[] #[cap])),(7,iV T.length),(8,iV i)]) (fun _=>[])
  (fun i F P=>i<=T.length/\(∀ j (g:j<T.length),j<i->p (T[j]'g)=false)/\P=m) (fun i=>T.length-i) 0 ⟨oV,fun j g h=>oV,rfl⟩ ?_
 rintro J i L Q V E ⟨hi,h0,rfl⟩;by_cases t:i<T.length
 ·refine G.lT i T.length ?_;have C:T[i]?=some T[i]:=Ayr t;obtain⟨H,I,rfl,K⟩:=Ac.at' (h.mono E) (j:=i) (e:=Ch T[i]) (by simp[C]);refine G.a H I T.length c i 3 oV<|G.lU (some 3) H (I+i*3) (Ch T[i]) K<|G.callK fid [Ch T[i],cap] kV n (N T[i] (Ay8 t) Q E) ?_;rintro X W l2 rfl;cases hp:p T[i] with
  |true =>
   rw[Ara t hp fun j g=>h0 j oV g];exact G.r (.int .i64 i) ⟨rfl,rfl⟩
  |false =>
   refine G.i i ?_;exact G.b (L (i+1) _ _ _ cV (E.trans l2) ⟨oV,fun j g h=>by
    rcases (by omega:j<i\/j=i) with e|rfl
    ·exact h0 j g e
    exact hp,rfl⟩ oV)
 obtain rfl:i=T.length:=oV;refine G.lF T.length T.length ?_;rw[Ajt fun x O=>by obtain⟨j,g,rfl⟩:=Az9 O;exact h0 j g g];exact G.r (.int .i64 (-1)) ⟨rfl,rfl⟩
def Mh {u m:PH}{v cap:Value}{T:List Am}{fid:Nat}(h:Ac u v 3 (T.map Ch))(n:T.length<=1000000)
 (e:∀ args w,(callFunc fid args).run prog w=.ok (.enter fid args) w) (j:∀ f∈T,∀ g,PH.le u g->FnK prog fid [Ch f,cap] g m fun v _=>v=.bool false) :
 FnK prog 216 [v,.func (.func fid) #[] #[cap]] u m fun t _=>t=.bool false:=by
 obtain⟨a,c,rfl⟩:=h.opn;refine FnK.of func216 kV kV<|G.callK _ _ kV call252 (Atd (cap:=cap) (fun _=>false) h n e j) ?_;rintro F E C rfl;rw[Ajt fun x _=>rfl];exact G.hF (-1) 0<|G.r (.bool false) ⟨rfl,rfl⟩
def Xu {u m:PH}{f g:Am}{b:Nat}(h:ElP m b 0 (Ch g))(j:f.1≠g.1):FnK prog 217 [Ch f,.pointer (some ⟨b,0,none⟩)] u m fun v _=>v=.bool false:=by
 refine FnK.of func217 kV kV<|G.f 105 b 0 0 0<|G.lM none b (0+0) (.int .i64 g.1) (fun i x e=>?_) ?_
 ·have:i=0/\x=.int .i64 g.1:=by
   match i,e with
   |0,e=>exact⟨rfl,by simpa[Value.cells] using e.symm⟩
   |i+1,e=>simp[Value.cells]at e
  obtain⟨rfl,rfl⟩:=this;exact h 0 _ rfl
 exact G.eF f.1 g.1<|G.r (.bool false) ⟨rfl,rfl⟩
structure C5 (T:List (List UInt8×Nat))(F:List Am)(lab:Int):Prop where
 ok:∀ f∈F,∃ n k,T[f.1]?=some (n,k)/\((f.2.1=1/\k=2/\f.2.2<=1)\/(f.2.1=2/\k=3/\f.2.2=0))/\(f.1:Int)≠lab
 nodup:(F.map (·.1)).Nodup
end
section
variable {b:Nat}{m u:PH}
def Ac.cap {a:Option Addr}{n c sz:Nat}{es:List Value}(h:Ac u (.slice a n c) sz es):es.length<=c:=by
 obtain⟨_,_,e,g,_⟩:=h;cases e;exact g
def K8 {b off:Nat}{q:List UInt8×Nat}(h:ElP u b off (Dz q)):ElP u b (off+1) (.int .i64 q.2):=fun i x e=>by
 match i,e with
 |0,e =>
  have:x=.int .i64 q.2:=by simpa[Value.cells] using e.symm
  subst this;exact h 1 _ rfl
 |i+1,e=>simp[Value.cells]at e
def Oo {t:TypeId}{xs:List Value}{e:Value}(h:e.cells=xs.toArray):ElP (m.upd b (.cells xs.toArray t (0,0))) b 0 e:=fun i x g=>by
 refine⟨_,_,_,Ab _ _ _,?_⟩;rw[h]at g;simpa using g
def Ago {g:Am}(h:ElP m b 0 (Ch g)):ElP m b (0+0) (.int .i64 g.1):=fun i x e=>by
 match i,e with
 |0,e =>
  have:x=.int .i64 g.1:=by simpa[Value.cells] using e.symm
  subst this;exact h 0 _ rfl
 |i+1,e=>simp[Value.cells]at e
def Ak2 {v w x:Value}{T:List (List UInt8×Nat)}{F:List Am}{lab:Int}(h:Ac u v 2 (T.map Dz))(hF:Ac u x 3 (F.map Ch))(ok:C5 T F lab)(hl:T.length<=1000)(a2:F.length<=1000)(hw:∃ a n c,w=.slice a n c) :
 Fn0 prog 161 [.agg #[v,w,x,.int .i64 lab]] u fun r _=>r=.int .i64 0:=by
 obtain⟨a,c,rfl⟩:=h.opn;obtain⟨a',N,rfl⟩:=hF.opn;obtain⟨wa,wn,wc,rfl⟩:=hw;have Q:=hF.cap;rw[Ayt]at h hF Q⊢;rw[Ayt];refine Fn0.o func161<|G.l (ι:=Nat) (fun i=>[(1,.p 0 0),(9,sV a' F.length N),(10,iV F.length),(11,iV i)]) (fun _=>[(0,⟨30,[sV a T.length c,sV wa wn wc,sV a' F.length N,iV lab]⟩)])
  (fun i u' m'=>i<=F.length/\m'=PH.mt) (fun i=>F.length-i) 0 ⟨oV,rfl⟩ ?_
 rintro J i X u1 m1 O ⟨hi,rfl⟩;by_cases L:i<F.length
 ·refine G.lT i F.length ?_;have Y:F[i]?=some F[i]:=Ayr L;obtain⟨n,k,Z,H,C⟩:=ok.ok F[i] (Ay8 L);have t:∀ f∈F.take i,f.1≠(F[i]).1:=by
   intro f hf;obtain⟨j,hj,rfl⟩:=Az9 hf;rw[Ay1]at hj;rw[A2t];intro e;have:=(A7u (xs:=F.map (·.1)) (h₀:=by rw[Ayt];omega) (h₁:=by rw[Ayt];omega) (i:=j) (j:=i) ok.nodup).1 (by rw[A1f,A1f];exact e);omega
  obtain⟨P,V,rfl,ea⟩:=Ac.at' (hF.mono O) (j:=i) (e:=Ch F[i]) (by simp[Y]);have I:=(hF.mono O).take' i (by rw[Ayt];omega);rw[<-A4l]at I;have a3:(F.take i).length=i:=by rw[Ay1];omega
  generalize F[i]=f at ea Z H C t;obtain⟨a0,a1⟩:=Ayu.1 Z;obtain⟨W,ob,rfl,eb⟩:=Ac.at' (h.mono O) (j:=f.1) (e:=Dz (n,k)) (by simp[Z]);refine G.a P V F.length N i 3 L<|G.lU (some 3) P (V+i*3) (.agg #[.int .i64 f.1,.int .i64 f.2.1,.int .i64 f.2.2]) ea<|G.lF f.1 0<|G.hF f.1 T.length<|G.a W ob T.length c f.1 2 a0<|G.f 162 W (ob+f.1*2) 1 1<|G.lU none W (ob+f.1*2+1) (.int .i64 k) (K8 eb) ?_;rcases H with ⟨k1,k2,k3⟩|⟨k1,k2,k3⟩
  ·refine G.eT f.2.1 1<|G.eT k 2 ?_;by_cases k0:f.2.2=0
   ·refine G.eT f.2.2 0<|G.eF f.2.1 2<|G.pastI<|G.pub 3003 105 [.int .i64 f.1,.int .i64 f.2.1,.int .i64 f.2.2] kV kV ?_;intro K U R;refine G.f 105 K 0 0 0<|G.lM none K (0+0) (.int .i64 f.1) (Ago (g:=f) (Oo rfl))<|G.eF' f.1 lab C<|G.sliceTo 3 (some ⟨P,V,none⟩) F.length N i kV oV<|G.callK _ _ kV call216 (Mh I (by rw[Ay1];omega) call217 fun f' E u' _=>Xu (g:=f) (Oo rfl) (t f' E)) ?_;rintro v2 u2 l2 rfl;exact G.drop PH.mt kV (PH.mt_le _)<|G.i i<|G.b (X (i+1) _ _ _ cV (O.trans l2) ⟨oV,rfl⟩ oV)
   refine G.eF f.2.2 0<|G.eT f.2.2 1<|G.eF f.2.1 2<|G.pastI<|G.pub 3003 105 [.int .i64 f.1,.int .i64 f.2.1,.int .i64 f.2.2] kV kV ?_;intro K U R;refine G.f 105 K 0 0 0<|G.lM none K (0+0) (.int .i64 f.1) (Ago (g:=f) (Oo rfl))<|G.eF' f.1 lab C<|G.sliceTo 3 (some ⟨P,V,none⟩) F.length N i kV oV<|G.callK _ _ kV call216 (Mh I (by rw[Ay1];omega) call217 fun f' E u' _=>Xu (g:=f) (Oo rfl) (t f' E)) ?_;rintro v2 u2 l2 rfl;exact G.drop PH.mt kV (PH.mt_le _)<|G.i i<|G.b (X (i+1) _ _ _ cV (O.trans l2) ⟨oV,rfl⟩ oV)
  refine G.eF f.2.1 1<|G.eT f.2.1 2<|G.eT k 3<|G.eT f.2.2 0<|G.pastI<|G.pub 3003 105 [.int .i64 f.1,.int .i64 f.2.1,.int .i64 f.2.2] kV kV ?_;intro K U R;refine G.f 105 K 0 0 0<|G.lM none K (0+0) (.int .i64 f.1) (Ago (g:=f) (Oo rfl))<|G.eF' f.1 lab C<|G.sliceTo 3 (some ⟨P,V,none⟩) F.length N i kV oV<|G.callK _ _ kV call216 (Mh I (by rw[Ay1];omega) call217 fun f' E u' _=>Xu (g:=f) (Oo rfl) (t f' E)) ?_;rintro v2 u2 l2 rfl;exact G.drop PH.mt kV (PH.mt_le _)<|G.i i<|G.b (X (i+1) _ _ _ cV (O.trans l2) ⟨oV,rfl⟩ oV)
 obtain rfl:i=F.length:=oV;exact G.lF F.length F.length<|G.r (.int .i64 0) ⟨rfl,rfl⟩
end
section
variable {L:List Bool}{b c n:Nat}{m m0 u:PH}
def Asf (I:n=L.length)(H:n<=1000000)(h:∀ (j:Nat) s,L[j]?=some s->ElP m b (0+j*1) (.bool s))(C:∀ s∈L,s=true) :
 FnK prog 251 [.slice (some ⟨b,0,none⟩) n c,.bool false] u m fun v _=>v=.int .i64 (-1):=by
 refine FnK.of func251 kV kV<|G.l (ι:=Nat) (fun i=>[(0,sV (some ⟨b,0,none⟩) n c),(1,bV false),(7,iV n),(8,iV i)]) (fun _=>[])
  (fun i N F=>i<=n/\F=m) (fun i=>n-i) 0 ⟨oV,rfl⟩ ?_
 rintro J i t O K E ⟨hi,rfl⟩;by_cases g:i<n
 ·refine G.lT i n ?_;have e:L[i]?=some true:=by
   rw[Ayr oV];exact congrArg some (C _ (Ay8 oV))
  exact G.a b 0 n c i 1 g<|G.lM none b (0+i*1) (.bool true) (h i _ e)<|G.eqB false true kV<|G.i i<|G.b (t (i+1) _ _ _ cV E ⟨oV,rfl⟩ oV)
 obtain rfl:i=n:=oV;exact G.lF i i<|G.r (.int .i64 (-1)) ⟨rfl,rfl⟩
def Ah0 (h:n=L.length)(g:n<=1000000)(e:∀ (j:Nat) s,L[j]?=some s->ElP m b (0+j*1) (.bool s))(t:∀ s∈L,s=true) :
 FnK prog 215 [.slice (some ⟨b,0,none⟩) n c,.bool false] u m fun v _=>v=.bool false:=by
 refine FnK.of func215 kV kV<|G.callK _ _ kV call251 (Asf (c:=c) (L:=L) h g e t) ?_;rintro F E C rfl;exact G.hF (-1) 0<|G.r (.bool false) ⟨rfl,rfl⟩
abbrev Bu:Type:=List UInt8×List Nat×(Option Addr×Nat)
def Hq (r:Bu):Value:=.agg #[.string (mkS r.1),.slice r.2.2.1 r.2.1.length r.2.2.2]
structure Pf (u:PH)(n:Nat)(R:List Bu):Prop where
 names:R6 (R.map (·.1))
 ne:∀ r∈R,r.2.1≠[]
 lt:∀ r∈R,∀ a∈r.2.1,a<n
 len:∀ r∈R,r.2.1.length<=1000
 asc:∀ r∈R,∀ (k:Nat) x y,r.2.1[k]?=some x->r.2.1[k+1]?=some y->x<y
 all:∀ a<n,∃ r∈R,a∈r.2.1
 at':∀ r∈R,Ac u (.slice r.2.2.1 r.2.1.length r.2.2.2) 1 (Ai r.2.1)
def Amq (g n:Nat)(L:List Bool):Arr:=⟨.slice (some ⟨g,0,none⟩) n n,4,1,L.map .bool⟩
def Ahq (a:Option Addr)(c:Nat)(L:List (List UInt8)):Arr:=⟨.slice a L.length c,9,1,L.map nmV⟩
def Ah2 {g n:Nat}:(Amq g n L).At m0 m=Af m0 m (.slice (some ⟨g,0,none⟩) n n) 4 1 (L.map .bool):=rfl
def Ajm {a:Option Addr}{L:List (List UInt8)}:(Ahq a c L).At m0 m=Af m0 m (.slice a L.length c) 9 1 (L.map nmV):=rfl
def Qr (L:List Bool)(a:Nat):(L.map Value.bool).set a (.bool true)=(L.set a true).map Value.bool:=by rw[A1d]
def Agi {w x y:Value}{a0:Option Addr}{n c0:Nat}{R:List Bu}(hR:Ac u w 2 (R.map Hq))(ok:Pf u n R)(hn:n<=1000)(ax:0<n)(hl:R.length<=1000)(hx:∃ a n c,x=.slice a n c)(hy:∃ z:Int,y=.int .i64 z) :
 Fn0 prog 160 [.agg #[.slice a0 n c0,w,x,y]] u fun r _=>r=.int .i64 0:=by
 obtain⟨a,c,rfl⟩:=hR.opn;obtain⟨xa,xn,xc,rfl⟩:=hx;obtain⟨z,rfl⟩:=hy;rw[Ayt]at hR⊢;refine Fn0.o func160<|G.make 4 1 1 (.bool false) n kV rfl rfl oV oV oV ?_;rintro v1 m1 af ⟨ad,rfl⟩;obtain⟨g,rfl,_⟩:=af.some';refine G.l (ι:=Nat×List Bool×List (List UInt8)×(Option Addr×Nat)) (fun i=>[(3,sV i.2.2.2.1 i.2.2.1.length i.2.2.2.2),(4,sV (some ⟨g,0,none⟩) n n),(16,sV a R.length c),(17,iV R.length),(18,iV i.1)]) (fun _=>[])
  (fun i u' m'=>i.1<=R.length/\i.2.1.length=n/\i.2.2.1=(R.map (·.1)).take i.1/\(∀ r∈R.take i.1,∀ q∈r.2.1,i.2.1[q]?=some true)/\Bag m' [Amq g n i.2.1,Ahq i.2.2.2.1 i.2.2.2.2 i.2.2.1]) (fun i=>R.length-i.1) (0,List.replicate n false,[],(none,0))
  ⟨mV,mV,mV,mV,⟨PH.mt,by rw[Ah2,A4v];exact af,PH.mt,Af.nil _ _ _,trivial⟩⟩ ?_
 rintro J ⟨i,L,N,⟨na,nc⟩⟩ hJ u2 m2 l2 ⟨hi,hL,hN,P,Q⟩;simp only at hi hL hN P Q hJ;by_cases a9:i<R.length
 ·refine G.lT i R.length ?_;have a8:R[i]?=some R[i]:=Ayr a9;have C:R[i]∈R:=Ay8 a9;have a1:(R.map (·.1)).take (i+1)=N++[R[i].1]:=by
   rw[Aze,Ayy,a8,hN];rfl
  have a5:R.take (i+1)=R.take i++[R[i]]:=by
   rw[Aze,a8];rfl
  have t:=ok.names.take (i+1);rw[a1]at t;have aj:N.length=i:=by rw[hN];simp;omega
  obtain⟨ba,oa,rfl,ea⟩:=Ac.at' (hR.mono l2) (j:=i) (e:=Hq R[i]) (by simp[a8]);generalize R[i]=q at ea C a1 a5 t;obtain⟨T,h,qa,qc⟩:=q;have au:h≠[]:=ok.ne _ C;have ak:∀ p∈h,p<n:=ok.lt _ C;have az:h.length<=1000:=ok.len _ C;have ai:∀ (k:Nat) x y,h[k]?=some x->h[k+1]?=some y->x<y:=ok.asc _ C;have ao:Ac u2 (.slice qa h.length qc) 1 (Ai h):=(ok.at' _ C).mono l2;have ay:0<h.length:=A29.2 au;simp only at a1 t;refine G.a ba oa R.length c i 2 a9<|G.lU (some 2) ba (oa+i*2) (.agg #[.string (mkS T),.slice qa h.length qc]) ea<|G.B 9 1 16 (.string (mkS [])) [.string (mkS T)] (Hk [T]) ?_;intro g3 u3 l3 e3;obtain⟨mm,ab,a4⟩:=Q.focus 1 rfl;rw[Ajm]at ab;refine G.k 9 1 16 (.string (mkS [])) mm (N.map nmV) [.string (mkS T)] (.slice na N.length nc) g3 0 1 1 ab e3 (Hk [T]) ?_;intro v4 m4 F;rw[show N.map nmV++[.string (mkS T)]=(N++[T]).map nmV by rw[Aza];rfl]at F;obtain⟨b4,c4,rfl⟩:=F.ptr mV;have V:=F.cap;rw[Ayt]at F V⊢;have I:=a4 (Ahq (some ⟨b4,0,none⟩) c4 (N++[T])) m4 F;simp only[A0i,A0p]at I;refine G.callK _ _ kV call214 (Apt (b:=b4) (k:=i) (c:=c4) (x:=T) (L:=N++[T]) t gV V (by rw[<-aj];exact getElem?_snoc_last N T) fun j s hs=>F.el (by rw[Ayy,hs];rfl)) ?_;rintro v5 u5 l5 rfl;refine G.nF 0 0<|G.eF h.length 0 ?_;generalize N++[T]=N' at I a1;clear F a4 ab Q V t;have aw:∀ p∈h,p<n:=ak;refine G.l (ι:=Nat×List Bool) (fun j=>[(3,sV (some ⟨b4,0,none⟩) N'.length c4),(4,sV (some ⟨g,0,none⟩) n n),(6,.p 5003 0),(16,sV (some ⟨ba,oa,none⟩) R.length c),(17,iV R.length),(18,iV i),(39,sV qa h.length qc),(40,iV h.length),(41,iV j.1)])
   (fun _=>[(5003,⟨164,[tV T,sV qa h.length qc]⟩)])
   (fun j u' m'=>j.1<=h.length/\j.2.length=n/\(∀ r∈R.take i,∀ q∈r.2.1,j.2[q]?=some true)/\(∀ q∈h.take j.1,j.2[q]?=some true)/\Bag m' [Amq g n j.2,Ahq (some ⟨b4,0,none⟩) c4 N']) (fun j=>h.length-j.1) (0,L)
   ⟨mV,hL,P,mV,I⟩ ?_
  rintro J2 ⟨j,L2⟩ ah u6 m6 l6 ⟨hj,a7,H,E,K⟩;simp only at hj a7 H E K ah;have Y:=ao.mono ((l3.trans l5).trans l6);by_cases X:j<h.length
  ·refine G.lT j h.length ?_;have ap:h[j]?=some h[j]:=Ayr X;have al:h[j]<n:=ak _ (Ay8 X);have a6:h.take (j+1)=h.take j++[h[j]]:=by rw[Aze,ap];rfl
   obtain⟨bq,oq,rfl,eq⟩:=Ac.at' Y (j:=j) (e:=.int .i64 (h[j]:Int)) (by simp[Ai,ap]);generalize h[j]=p at eq al a6;refine G.a bq oq h.length qc j 1 X<|G.lU none bq (oq+j*1) (.int .i64 p) eq<|G.lF p 0<|G.hF p n<|G.a g 0 n n p 1 al ?_;obtain⟨av,aq,aa⟩:=K.focus 0 rfl;rw[Ah2]at aq;refine G.storeA 1 av (L2.map Value.bool) g n n p (.bool true) kV aq (by rw[Ayt];omega) rfl rfl ?_;intro m7 ag;rw[Qr]at ag;have U:=aa (Amq g n (L2.set p true)) m7 ag;simp only[A0p]at U;refine G.i j ?_;have W:∀ q,L2[q]?=some true->(L2.set p true)[q]?=some true:=fun q O=>by
    rw[A1g];split
    ·subst_vars;rw[if_pos oV]
    exact O
   exact G.b (ah (j+1,L2.set p true) _ _ _ cV l6 ⟨dV,by simp[a7],fun r hr q O=>W q (H r hr q O),by
    intro q O;dsimp only at O⊢;rw[a6,Ay5,Azs]at O;rcases O with O|rfl
    ·exact W q (E q O)
    rw[A1g];simp;omega,U⟩ dV)
  obtain rfl:j=h.length:=oV;refine G.lF h.length h.length ?_;rw[Azj]at E;refine G.l (ι:=Nat) (fun k=>[(3,sV (some ⟨b4,0,none⟩) N'.length c4),(4,sV (some ⟨g,0,none⟩) n n),(6,.p 5003 0),(10,iV (k+1:Nat)),(16,sV (some ⟨ba,oa,none⟩) R.length c),(17,iV R.length),(18,iV i)])
   (fun _=>[(5003,⟨164,[tV T,sV qa h.length qc]⟩)])
   (fun k u' m'=>k+1<=h.length/\m'=m6) (fun k=>h.length-k) 0
   ⟨oV,rfl⟩ ?_
  rintro J3 k ar u8 m8 l8 ⟨hk,rfl⟩;have Z:=Y.mono l8;by_cases a3:k+1<h.length
  ·refine G.lT (k+1:Nat) h.length ?_;have am:h[k]?=some h[k]:=Ayr oV;have an:h[k+1]?=some h[k+1]:=Ayr a3;have a2:=ai k _ _ am an;obtain⟨bq,oq,rfl,ae⟩:=Ac.at' Z (j:=k+1) (e:=.int .i64 (h[k+1]:Int)) (by simp[Ai,an]);obtain⟨_,_,e',ac⟩:=Ac.at' Z (j:=k) (e:=.int .i64 (h[k]:Int)) (by simp[Ai,am]);cases e';generalize h[k]=p1 at ac a2;generalize h[k+1]=p2 at ae a2;exact G.a bq oq h.length qc (k+1) 1 a3<|G.lU none bq (oq+(k+1)*1) (.int .i64 p2) ae<|G.s (k+1:Nat) 1 k<|G.a bq oq h.length qc k 1 oV<|G.lU none bq (oq+k*1) (.int .i64 p1) ac<|G.kF p2 p1<|G.p (k+1:Nat) 1 (k+1+1:Nat)<|G.b (ar (k+1) _ _ _ cV l8 ⟨oV,rfl⟩ oV)
  refine G.lF (k+1:Nat) h.length<|G.i i ?_;exact G.b (hJ (i+1,L2,N',(some ⟨b4,0,none⟩,c4)) _ _ _ cV ((((l2.trans l3).trans l5).trans l6).trans l8) ⟨dV,a7,a1.symm,by
   intro r hr q O;dsimp only at hr O⊢;rw[a5,Ay5,Azs]at hr;rcases hr with hr|rfl
   ·exact H r hr q O
   exact E q O,K⟩ dV)
 obtain rfl:i=R.length:=oV;refine G.lF R.length R.length ?_;rw[Azj]at P;refine G.callK _ _ kV call215 (Ah0 (b:=g) (c:=n) (L:=L) hL.symm oV (fun j s hs=>Q.el 0 rfl (x:=Amq g n L) rfl (by show (L.map Value.bool)[j]?=_;rw[Ayy,hs];rfl)) fun s hs=>by
  obtain⟨j,hj,rfl⟩:=Az9 hs;obtain⟨r,hr,O⟩:=ok.all j oV;have:=P r hr j O;rw[Ayr hj]at this;exact A0j this) ?_
 rintro v3 u3 l3 rfl;exact G.drop PH.mt kV (PH.mt_le _)<|G.r (.int .i64 0) ⟨rfl,rfl⟩
end
structure Bt (u:PH)(T:List (List UInt8×Nat))(R:List Bu)(F:List Am)(lab:Int):Prop where
 att:Am8 T
 rel:Pf u T.length R
 feat:C5 T F lab
 t1:0<T.length
 t2:T.length<=12
 r1:0<R.length
 r2:R.length<=6
 f2:F.length<=8
 l1:-1<=lab
 l2:∀ l:Nat,lab=(l:Int)->∃ n,T[l]?=some (n,2)
def Pf.mono {u u':PH}{n:Nat}{R:List Bu}(h:Pf u n R)(hl:PH.le u u'):Pf u' n R:=⟨h.names,h.ne,h.lt,h.len,h.asc,h.all,fun r hr=>(h.at' r hr).mono hl⟩
def Bt.mono {u u':PH}{T:List (List UInt8×Nat)}{R:List Bu}{F:List Am}{lab:Int}(h:Bt u T R F lab)(hl:PH.le u u'):Bt u' T R F lab:=⟨h.att,h.rel.mono hl,h.feat,h.t1,h.t2,h.r1,h.r2,h.f2,h.l1,h.l2⟩
def G8 (u:PH)(v:Value)(T:List (List UInt8×Nat))(R:List Bu)(F:List Am)(lab:Int):Prop :=
 ∃ a c b d e f,v=.agg #[.slice a T.length c,.slice b R.length d,.slice e F.length f,.int .i64 lab]/\Ac u (.slice a T.length c) 2 (T.map Dz)/\Ac u (.slice b R.length d) 2 (R.map Hq)/\Ac u (.slice e F.length f) 3 (F.map Ch)
def G8.mono {u u':PH}{v:Value}{T:List (List UInt8×Nat)}{R:List Bu}{F:List Am}{lab:Int}(h:G8 u v T R F lab)(hl:PH.le u u'):G8 u' v T R F lab:=by
 obtain⟨a,c,b,d,e,f,hv,h1,h2,h3⟩:=h;exact⟨a,c,b,d,e,f,hv,h1.mono hl,h2.mono hl,h3.mono hl⟩
def Acb {u:PH}{v:Value}{T:List (List UInt8×Nat)}{R:List Bu}{F:List Am}{lab:Int}(h:G8 u v T R F lab)(ok:Bt u T R F lab) :
 Fn0 prog 89 [v] u fun r _=>r=.int .i64 0:=by
 obtain⟨a,c,b,d,e,f,rfl,hT,X,hF⟩:=h;have t1:=ok.t1;have t2:=ok.t2;have r1:=ok.r1;have r2:=ok.r2;have f2:=ok.f2;have lo:=ok.l1;have hi:lab<T.length:=by
  rcases A3z lab 0 with t|K
  ·omega
  obtain⟨n,L⟩:=ok.l2 lab.toNat oV;obtain⟨hk,_⟩:=Ayu.1 L;omega
 refine Fn0.o func89<|G.eF T.length 0<|G.gF T.length 12<|G.eF R.length 0<|G.gF R.length 6<|G.gF F.length 8<|G.buildU 102 1 8 (.nilFunc) [.func (.func 159) #[] #[],.func (.func 160) #[] #[],.func (.func 161) #[] #[]] kV (fun x P=>by
  simp only[Ay7,A0b,or_false]at P;rcases P with rfl|rfl|rfl<;>exact⟨rfl,Azg.1 rfl⟩) rfl oV mV mV ?_
 intro g u1 Z V;refine G.l (ι:=Nat) (fun i=>[(1,.p 0 0),(34,sV (some ⟨g,0,none⟩) 3 3),(35,iV (3:Nat)),(36,iV i)])
  (fun _=>[(0,⟨30,[sV a T.length c,sV b R.length d,sV e F.length f,iV lab]⟩)])
  (fun i u' m'=>i<=3/\m'=PH.mt) (fun i=>3-i) 0 ⟨oV,rfl⟩ ?_
 rintro J i I u2 m2 l2 ⟨Y,rfl⟩;have m:=Z.trans l2;have H:=V.mono l2;by_cases t:i<3
 ·refine G.lT i (3:Nat)<|G.a g 0 3 3 i 1 t ?_;rcases (by omega:i=0\/i=1\/i=2) with rfl|rfl|rfl
  ·refine G.lU none g (0+0*1) (.func (.func 159) #[] #[]) (H 0 _ rfl)<|G.c call159 (Ad9 (w:=.slice b R.length d) (x:=.slice e F.length f) (y:=.int .i64 lab) (hT.mono m) ok.att oV ⟨_,_,_,rfl⟩ ⟨_,_,_,rfl⟩ ⟨_,rfl⟩) ?_;rintro U Q C rfl;exact G.nF 0 0<|G.p (0:Nat) 1 (0+1:Nat)<|G.b (I (0+1) _ _ _ cV (l2.trans C) ⟨oV,rfl⟩ oV)
  ·refine G.lU none g (0+1*1) (.func (.func 160) #[] #[]) (H 1 _ rfl)<|G.c call160 (Agi (a0:=a) (c0:=c) (x:=.slice e F.length f) (y:=.int .i64 lab) (X.mono m) (ok.rel.mono m) oV oV oV ⟨_,_,_,rfl⟩ ⟨_,rfl⟩) ?_;rintro U Q C rfl;exact G.nF 0 0<|G.p (1:Nat) 1 (1+1:Nat)<|G.b (I (1+1) _ _ _ cV (l2.trans C) ⟨oV,rfl⟩ oV)
  refine G.lU none g (0+2*1) (.func (.func 161) #[] #[]) (H 2 _ rfl)<|G.c call161 (Ak2 (w:=.slice b R.length d) (hT.mono m) (hF.mono m) ok.feat oV oV ⟨_,_,_,rfl⟩) ?_;rintro U Q C rfl;exact G.nF 0 0<|G.p (2:Nat) 1 (2+1:Nat)<|G.b (I (2+1) _ _ _ cV (l2.trans C) ⟨oV,rfl⟩ oV)
 obtain rfl:i=3:=oV;refine G.lF (3:Nat) (3:Nat)<|G.lF lab (-1)<|G.hF lab T.length ?_;rcases A3z lab 0 with O|K
 ·exact G.hF lab 0<|G.r (.int .i64 0) ⟨rfl,rfl⟩
 refine G.hT lab 0 ?_;obtain⟨l,rfl⟩:∃ l:Nat,lab=(l:Int):=⟨lab.toNat,oV⟩;obtain⟨n,L⟩:=ok.l2 l rfl;obtain⟨E,N,rfl,W⟩:=Ac.at' (hT.mono m) (j:=l) (e:=Dz (n,2)) (by simp[L]);exact G.a E N T.length c l 2 oV<|G.f 162 E (N+l*2) 1 1<|G.lU none E (N+l*2+1) (.int .i64 (2:Nat)) (K8 W)<|G.nF (2:Nat) 2<|G.r (.int .i64 0) ⟨rfl,rfl⟩
section
variable {n:Nat}{v:Value}{z:Int}
def Axx (n:Nat):(Aa n).getD 0 0=n%1000000000:=by
 by_cases h:n=0
 ·subst h;rw[Bd];rfl
 rw[Dq h];rfl
def Ax8 (n:Nat):(Aa n).getD 1 0=n/1000000000%1000000000:=by
 by_cases h:n=0
 ·subst h;rw[Bd];rfl
 rw[Dq h];show (Aa (n/1000000000)).getD 0 0=_;rw[Axx]
def Aij (h:n<1000000000000000000):(Aa n).length<=2:=by
 by_cases h0:n=0
 ·subst h0;rw[Bd];simp
 rw[Dq h0];by_cases e:n/1000000000=0
 ·rw[e,Bd];simp
 rw[Dq e,show n/1000000000/1000000000=0 by omega,Bd];simp
def Z1 (e:0<=z)(g:z<18446744073709551616):IntKind.u64.wrap z=z:=by
 simp only[IntKind.wrap,IntKind.signed,IntKind.bits];simp;omega
section rules
variable {P:Program} [A5 P] {fn:Func} {Post:By} {st:List KI×S} {u m:PH}
def G.mul64 (x y z:Int)(h:Aj P (adv P st)=.bin .mul (.int .u64 x) (.int .u64 y))(j:x*y=z)(e:0<=z)(g:z<18446744073709551616)
 (k:G P fn Post (nx (adv P st) (.int .u64 z)) u m):G P fn Post st u m :=
 G.bin _ h Cp (fun t w=>by simp[binOp,Op.intArith,j,Z1 e g]) k
def G.add64 (x y z:Int)(h:Aj P (adv P st)=.bin .add (.int .u64 x) (.int .u64 y))(j:x+y=z)(e:0<=z)(g:z<18446744073709551616)
 (k:G P fn Post (nx (adv P st) (.int .u64 z)) u m):G P fn Post st u m :=
 G.bin _ h Cp (fun t w=>by simp[binOp,Op.intArith,j,Z1 e g]) k
end rules
def Aao {u:PH}(h:C6 u v n)(j:n<1000000000000000000)(i:Nat):Fn0 prog 222 [v,.int .i64 i] u fun r _=>r=.int .u64 (((Aa n).getD i 0:Nat):Int):=by
 have t:=Aij j;obtain⟨a,c,rfl,_⟩:=id h;refine Fn0.o func222 ?_;by_cases g:i<(Aa n).length
 ·refine G.lT i ((Aa n).length:Int) ?_;obtain⟨b,off,rfl,e⟩:=h.at g;exact G.a b off (Aa n).length c i 1 g<|G.lU none b (off+i*1) _ e<|G.r _ ⟨rfl,rfl⟩
 refine G.lF i ((Aa n).length:Int) ?_;rw[Fr g];exact G.r (.int .u64 0) ⟨rfl,rfl⟩
def Akj {u:PH}(h:C6 u v n)(e:n<1000000000000000000):Fn0 prog 258 [v] u fun r _=>r=.int .u64 (n:Int):=by
 obtain⟨a,c,rfl,_⟩:=id h;refine Fn0.o func258<|G.c call222 (Aao h e 1) ?_;rintro C j g rfl;rw[Ax8];refine G.mul64 ((n/1000000000%1000000000:Nat):Int) 1000000000 _ kV rfl oV oV<|G.c call222 (Aao (h.mono g) e 0) ?_;rintro E t l2 rfl;rw[Axx];exact G.add64 (((n/1000000000%1000000000:Nat):Int)*1000000000) ((n%1000000000:Nat):Int) (n:Int) kV oV oV oV<|G.r _ ⟨rfl,rfl⟩
def Ak4 {u:PH}(h:Bq u v z)(t:z.natAbs<1000000000000000000):Fn0 prog 280 [v] u fun r _=>r=.tuple #[.int .i64 z,.bool true]:=by
 obtain⟨a,I,c,rfl,j⟩:=h;obtain⟨a,c,e,_⟩:=id j;cases e;have E:=Aij t;generalize F:z.natAbs=n at j t E⊢;refine Fn0.o func280<|G.gF ((Aa n).length:Int) 3<|G.c call222 (Aao j t 2) ?_;rintro N J C rfl;rw[Fr (k:=2) oV];refine G.cmpG .gtr .u64 ((0:Nat):Int) 4 false kV rfl (by simp[Cl])<|G.c call222 (Aao (j.mono C) t 2) ?_;rintro O K l2 rfl;rw[Fr (k:=2) oV];refine G.mul64 ((0:Nat):Int) 1000000000 0 kV oV oV oV<|G.mul64 0 1000000000 0 kV oV oV oV<|G.c call258 (Akj (j.mono (C.trans l2)) t) ?_;rintro Q L H rfl;refine G.add64 0 (n:Int) (n:Int) kV oV oV oV<|G.cmpG .gtr .u64 (n:Int) 4611686018427387904 false kV rfl (by simp[Cl];omega) ?_;by_cases g:z<0
 ·rw[decide_eq_true g];refine G.convI .u64 .i64 .u64 (n:Int) (n:Int) kV ?_ ?_
  ·simp only[IntKind.wrap,IntKind.signed,IntKind.bits];simp;omega
  exact G.neg (n:Int) z kV oV oV oV<|G.r (.tuple #[.int .i64 z,.bool true]) ⟨rfl,rfl⟩
 rw[decide_eq_false g];refine G.convI .u64 .i64 .u64 (n:Int) (n:Int) kV ?_ ?_
 ·simp only[IntKind.wrap,IntKind.signed,IntKind.bits];simp;omega
 obtain rfl:z=(n:Int):=oV;exact G.r (.tuple #[.int .i64 n,.bool true]) ⟨rfl,rfl⟩
end
section
variable {q:Rat}{u:PH}{z:Int}
def I8 (h:z.natAbs<1000000000000000000):Lib.nDigits z.natAbs<=400:=Ayv (D9 (k:=18) oV oV) oV
def Zv (h:z.natAbs<1000000000000000000):Fn0 prog 236 [.string (mkS (Lib.itoa z))] u fun v _=>v=.tuple #[.int .i64 z,.bool true]:=by
 refine Fn0.o func236<|G.c call203 (I9 (I8 h)) ?_;rintro I E n rfl;refine G.c call242 (Wi (I8 h)) ?_;intro J F l2 e;obtain⟨j,g,C,m,rfl⟩:=e.opn;refine G.c call280 (Ak4 e h) ?_;rintro K H t rfl;exact G.r (.tuple #[.int .i64 z,.bool true]) ⟨rfl,rfl⟩
def Av1 (h:Tx q):Fn0 prog 235 [.string (mkS (Ae q))] u fun v _=>v=.tuple #[.string (mkS (Lib.itoa q.num)),.string (mkS (Lib.itoa (q.den:Int))),.bool true]:=by
 refine Fn0.o func235<|G.c call143 (Eo h) ?_;rintro n j g rfl;refine G.c call118 (Awj h) ?_;rintro t m l2 rfl;by_cases e:q.den=1
 ·rw[if_pos e,decide_eq_false (by simp[e]),e,show ((1:Nat):Int)=1 from rfl,Gz];exact G.r (.tuple #[.string (mkS (Lib.itoa q.num)),.string (mkS [49]),.bool true]) ⟨rfl,rfl⟩
 rw[if_neg e,decide_eq_true e];exact G.r (.tuple #[.string (mkS (Lib.itoa q.num)),.string (mkS (Lib.itoa (q.den:Int))),.bool true]) ⟨rfl,rfl⟩
def Afd (h:z.natAbs<=1000000000):Fn0 prog 234 [.string (mkS (Lib.itoa z))] u fun v _=>v=.bool true:=by
 refine Fn0.o func234<|G.c call236 (Zv (z:=z) oV) ?_;rintro j g e rfl;exact G.hT z (-1000000000)<|G.kT z 1000000000<|G.r (.bool true) ⟨rfl,rfl⟩
structure Dat (q:Rat):Prop where
 num:q.num.natAbs<=1000000000
 den:q.den<=12
def Dat.tx (h:Dat q):Tx q:=⟨I8 (by have:=h.num;omega),by have:=I8 (z:=(q.den:Int)) (by have:=h.den;omega);simpa using this⟩
def Anf :Ae q≠[]:=by
 intro e;unfold Ae at e;split at e
 ·by_cases h:q.num<0
  ·rw[Oc h]at e;cases e
  rw[Lib.itoa,if_neg h]at e;exact Ga _ e
 simp at e
def Ary {s:List UInt8}(h:Dat q):Fn0 prog 192 [Dz (s,2),.string (mkS (Ae q))] u fun v _=>v=.bool true:=by
 have e:=h.den;have hp:=q.den_pos;refine Fn0.o func192<|G.eF (2:Nat) 1<|G.eT (2:Nat) 2<|G.c call235 (Av1 h.tx) ?_;rintro C m g rfl;refine G.c call236 (Zv (z:=(q.den:Int)) oV) ?_;rintro E n l2 rfl;refine G.w (Ae q) [] Anf<|G.c call234 (Afd h.num) ?_;rintro F t j rfl;exact G.hT q.den 1<|G.kT q.den 12<|G.r (.bool true) ⟨rfl,rfl⟩
end
def CF.one1 (p:Par)(q:Rat):CF:=⟨1,I1 (fun _=>0) p q,I1 (fun _=>0) (p,p) (q*q)⟩
section
variable {F:CF}{K:Nat}{u:PH}{v:Value}
def Ayn (p:Par)(h:Nu u v F K)(hK:K<=1000000):Fn0 prog 206 [v,Aq p] u fun r _=>r=.string (mkS (Ae (F.s p))):=by
 obtain⟨T,Q,O,H,Y,Z,rfl,hT,hQ,I,cQ,kT,kQ⟩:=h;refine Fn0.o func206<|G.l (ι:=Nat) (fun i=>[(3,.p 1 0),(8,sV O T.length H),(9,iV T.length),(10,iV i)]) (fun _=>[(1,⟨63,[iV p.1,tV p.2]⟩)])
  (fun i u' X=>i<=T.length/\(∀ j (g:j<T.length),j<i->(T[j]'g).1≠p)/\X=PH.mt) (fun i=>T.length-i) 0 ⟨oV,fun j g h=>oV,rfl⟩ ?_
 rintro J i R u1 m1 L ⟨hi,h0,rfl⟩;by_cases m:i<T.length
 ·refine G.lT i T.length ?_;have C:T[i]?=some T[i]:=Ayr m;have n:=(I.val _ (Ay8 m)).1;obtain⟨E,N,rfl,P⟩:=Ac.at' (hT.mono L) (j:=i) (e:=As T[i]) (by simp[C]);refine G.a E N T.length H i 3 oV<|G.lU (some 3) E (N+i*3) (.agg #[.int .i64 T[i].1.1,.string (mkS T[i].1.2),.string (mkS (Ae T[i].2))]) P ?_;by_cases t:T[i].1=p
  ·exact G.eqAgg 63 #[.int .i64 T[i].1.1,.string (mkS T[i].1.2)] #[.int .i64 p.1,.string (mkS p.2)] true kV kV kV (fun w=>by rw[<-decide_eq_true t];exact Bx.eq T[i].1 p w)<|G.r (.string (mkS (Ae T[i].2))) ⟨rfl,by rw[n,t]⟩
  refine G.eqAgg 63 #[.int .i64 T[i].1.1,.string (mkS T[i].1.2)] #[.int .i64 p.1,.string (mkS p.2)] false kV kV kV (fun w=>by rw[<-decide_eq_false t];exact Bx.eq T[i].1 p w)<|G.i i ?_;exact G.b (R (i+1) _ _ _ cV L ⟨oV,fun j g h=>by
   rcases (by omega:j<i\/j=i) with e|rfl
   ·exact h0 j g e
   exact t,rfl⟩ oV)
 obtain rfl:i=T.length:=oV;refine G.lF T.length T.length ?_;have W:F.s p=0:=I.out p fun U=>by
  obtain⟨x,V,e⟩:=Ayx.1 U;obtain⟨j,g,rfl⟩:=Az9 V;exact h0 j g g e
 exact G.r (.string (mkS [48])) ⟨rfl,by rw[W,D8]⟩
def Aos (p q:Par)(h:Nu u v F K)(hK:K<=1000000):Fn0 prog 207 [v,Aq p,Aq q] u fun r _=>r=.string (mkS (Ae (F.t (A2 p q)))):=by
 obtain⟨T,Q,a1,c1,a2,V,rfl,hT,hQ,cT,W,kT,kQ⟩:=h;refine Fn0.o func207 ?_;by_cases I:Bf q p<0
 ·rw[show A2 p q=(q,p) by unfold A2;rw[if_pos ((Dl.sym _ _).1 I)]];refine G.c call164 (Ts q p true (decide_eq_true I)) ?_;rintro v0 u0 l0 rfl;refine G.l (ι:=Nat) (fun i=>[(4,.p 1 0),(5,.p 2 0),(15,sV a2 Q.length V),(16,iV Q.length),(17,iV i)]) (fun _=>[(1,⟨63,[iV q.1,tV q.2]⟩),(2,⟨63,[iV p.1,tV p.2]⟩)])
   (fun i u' m'=>i<=Q.length/\(∀ j (n:j<Q.length),j<i->(Q[j]'n).1≠(q,p))/\m'=PH.mt) (fun i=>Q.length-i) 0 ⟨oV,fun j n h=>oV,rfl⟩ ?_
  rintro J i R u1 m1 O ⟨hi,h0,rfl⟩;by_cases C:i<Q.length
  ·refine G.lT i Q.length ?_;have L:Q[i]?=some Q[i]:=Ayr C;have E:=(W.val _ (Ay8 C)).1;obtain⟨P,U,rfl,X⟩:=Ac.at' (hQ.mono (l0.trans O)) (j:=i) (e:=D7 Q[i]) (by simp[L]);have g:Q[i].1≠(q,p)->∀ j (n:j<Q.length),j<i+1->(Q[j]'n).1≠(q,p):=fun N j n h=>by
    rcases (by omega:j<i\/j=i) with e|rfl
    ·exact h0 j n e
    exact N
   refine G.a P U Q.length V i 5 oV<|G.lU (some 5) P (U+i*5) (.agg #[.int .i64 Q[i].1.1.1,.string (mkS Q[i].1.1.2),.int .i64 Q[i].1.2.1,.string (mkS Q[i].1.2.2),.string (mkS (Ae Q[i].2))]) X ?_;by_cases H:Q[i].1.1=q
   ·refine G.eqAgg 63 #[.int .i64 Q[i].1.1.1,.string (mkS Q[i].1.1.2)] #[.int .i64 q.1,.string (mkS q.2)] true kV kV kV (fun w=>by rw[<-decide_eq_true H];exact Bx.eq Q[i].1.1 q w) ?_;by_cases m:Q[i].1.2=p
    ·exact G.eqAgg 63 #[.int .i64 Q[i].1.2.1,.string (mkS Q[i].1.2.2)] #[.int .i64 p.1,.string (mkS p.2)] true kV kV kV (fun w=>by rw[<-decide_eq_true m];exact Bx.eq Q[i].1.2 p w)<|G.r (.string (mkS (Ae Q[i].2))) ⟨rfl,by rw[E,show Q[i].1=(q,p) from A6g H m]⟩
    exact G.eqAgg 63 #[.int .i64 Q[i].1.2.1,.string (mkS Q[i].1.2.2)] #[.int .i64 p.1,.string (mkS p.2)] false kV kV kV (fun w=>by rw[<-decide_eq_false m];exact Bx.eq Q[i].1.2 p w)<|G.i i<|G.b (R (i+1) _ _ _ cV O ⟨oV,g fun e=>m (congrArg Prod.snd e),rfl⟩ oV)
   exact G.eqAgg 63 #[.int .i64 Q[i].1.1.1,.string (mkS Q[i].1.1.2)] #[.int .i64 q.1,.string (mkS q.2)] false kV kV kV (fun w=>by rw[<-decide_eq_false H];exact Bx.eq Q[i].1.1 q w)<|G.i i<|G.b (R (i+1) _ _ _ cV O ⟨oV,g fun e=>H (congrArg Prod.fst e),rfl⟩ oV)
  obtain rfl:i=Q.length:=oV;refine G.lF Q.length Q.length ?_;have hz:F.t (q,p)=0:=W.out (q,p) fun Y=>by
   obtain⟨x,Z,e⟩:=Ayx.1 Y;obtain⟨j,n,rfl⟩:=Az9 Z;exact h0 j n n e
  exact G.r (.string (mkS [48])) ⟨rfl,by rw[hz,D8]⟩
 rw[show A2 p q=(p,q) by unfold A2;rw[if_neg fun e=>I ((Dl.sym _ _).2 e)]];refine G.c call164 (Ts q p false (decide_eq_false I)) ?_;rintro v0 u0 l0 rfl;refine G.l (ι:=Nat) (fun i=>[(4,.p 1 0),(5,.p 2 0),(15,sV a2 Q.length V),(16,iV Q.length),(17,iV i)]) (fun _=>[(1,⟨63,[iV p.1,tV p.2]⟩),(2,⟨63,[iV q.1,tV q.2]⟩)])
  (fun i u' m'=>i<=Q.length/\(∀ j (n:j<Q.length),j<i->(Q[j]'n).1≠(p,q))/\m'=PH.mt) (fun i=>Q.length-i) 0 ⟨oV,fun j n h=>oV,rfl⟩ ?_
 rintro J i R u1 m1 O ⟨hi,h0,rfl⟩;by_cases C:i<Q.length
 ·refine G.lT i Q.length ?_;have L:Q[i]?=some Q[i]:=Ayr C;have E:=(W.val _ (Ay8 C)).1;obtain⟨P,U,rfl,X⟩:=Ac.at' (hQ.mono (l0.trans O)) (j:=i) (e:=D7 Q[i]) (by simp[L]);have g:Q[i].1≠(p,q)->∀ j (n:j<Q.length),j<i+1->(Q[j]'n).1≠(p,q):=fun N j n h=>by
   rcases (by omega:j<i\/j=i) with e|rfl
   ·exact h0 j n e
   exact N
  refine G.a P U Q.length V i 5 oV<|G.lU (some 5) P (U+i*5) (.agg #[.int .i64 Q[i].1.1.1,.string (mkS Q[i].1.1.2),.int .i64 Q[i].1.2.1,.string (mkS Q[i].1.2.2),.string (mkS (Ae Q[i].2))]) X ?_;by_cases H:Q[i].1.1=p
  ·refine G.eqAgg 63 #[.int .i64 Q[i].1.1.1,.string (mkS Q[i].1.1.2)] #[.int .i64 p.1,.string (mkS p.2)] true kV kV kV (fun w=>by rw[<-decide_eq_true H];exact Bx.eq Q[i].1.1 p w) ?_;by_cases m:Q[i].1.2=q
   ·exact G.eqAgg 63 #[.int .i64 Q[i].1.2.1,.string (mkS Q[i].1.2.2)] #[.int .i64 q.1,.string (mkS q.2)] true kV kV kV (fun w=>by rw[<-decide_eq_true m];exact Bx.eq Q[i].1.2 q w)<|G.r (.string (mkS (Ae Q[i].2))) ⟨rfl,by rw[E,show Q[i].1=(p,q) from A6g H m]⟩
   exact G.eqAgg 63 #[.int .i64 Q[i].1.2.1,.string (mkS Q[i].1.2.2)] #[.int .i64 q.1,.string (mkS q.2)] false kV kV kV (fun w=>by rw[<-decide_eq_false m];exact Bx.eq Q[i].1.2 q w)<|G.i i<|G.b (R (i+1) _ _ _ cV O ⟨oV,g fun e=>m (congrArg Prod.snd e),rfl⟩ oV)
  exact G.eqAgg 63 #[.int .i64 Q[i].1.1.1,.string (mkS Q[i].1.1.2)] #[.int .i64 p.1,.string (mkS p.2)] false kV kV kV (fun w=>by rw[<-decide_eq_false H];exact Bx.eq Q[i].1.1 p w)<|G.i i<|G.b (R (i+1) _ _ _ cV O ⟨oV,g fun e=>H (congrArg Prod.fst e),rfl⟩ oV)
 obtain rfl:i=Q.length:=oV;refine G.lF Q.length Q.length ?_;have hz:F.t (p,q)=0:=W.out (p,q) fun Y=>by
  obtain⟨x,Z,e⟩:=Ayx.1 Y;obtain⟨j,n,rfl⟩:=Az9 Z;exact h0 j n n e
 exact G.r (.string (mkS [48])) ⟨rfl,by rw[hz,D8]⟩
end
section
variable {p:Par}{q:Rat}
def Amp {d N:Nat}(e:Dn d N 1)(h:Dn d N q)(g:Dn d N (q*q)):CFD d N (CF.one1 p q) :=
 ⟨e,fun k=>by
  show Dn d N (I1 (fun _=>(0:Rat)) p q k);unfold I1;split
  ·exact h
  ·exact Dn.zero _ _,fun k=>by
  show Dn d N (I1 (fun _=>(0:Rat)) (p,p) (q*q) k);unfold I1;split
  ·exact g
  exact Dn.zero _ _⟩
def Aqd (hp:PV p):CFV (CF.one1 p q) :=
 ⟨fun k g=>by
  have g:I1 (fun _=>(0:Rat)) p q k≠0:=g;unfold I1 at g;split at g
  ·subst_vars;exact hp
  ·exact absurd rfl g,fun k g=>by
  have g:I1 (fun _=>(0:Rat)) (p,p) (q*q) k≠0:=g;unfold I1 at g;split at g
  ·subst_vars
   exact⟨hp,hp,fun e=>by
   have e:0<Bf p p:=e;have:=(Dl.sym _ _).2 e;omega⟩
  exact absurd rfl g⟩
def Fz.listP {u:PH}{g sz:Nat}{es:List Value}(h:Fz u g 0 sz es):Ac u (.slice (some ⟨g,0,none⟩) es.length es.length) sz es:=⟨_,_,rfl,Ay2 _,fun j e m=>⟨g,0,rfl,h j e m⟩⟩
def Q1 {L:List (List UInt8)}(h:(L.all Ha&&decide L.Nodup)=true):R6 L:=by
 rw[Azb,Azg,decide_eq_true_iff]at h;exact⟨h.1,h.2⟩
end
section
variable {s:List UInt8}{u:PH}{z:Int}
def Qi :Fn0 prog 203 [.string (mkS [])] u fun v _=>v=.bool false:=by
 refine Fn0.o func203<|G.w [] [48] fV<|G.c call241 (Tl (s:=[]) (p:=[45])) ?_;rintro h g e rfl;exact G.q (Lib.trimPrefix [] [45]) [] rfl<|G.r (.bool false) ⟨rfl,rfl⟩
def Ahk :Fn0 prog 143 [.string (mkS [])] u fun v _=>v=.bool false:=by
 refine Fn0.o func143<|G.c call118 (Axy (T:=[]) mV) ?_;rintro n h e rfl;refine G.c call203 Qi ?_;rintro t j l2 rfl;refine G.c call203 Qi ?_;rintro C m g rfl;exact G.r (.bool false) ⟨rfl,rfl⟩
def Asy :Fn0 prog 235 [.string (mkS [])] u fun v _=>v=.tuple #[.string (mkS []),.string (mkS []),.bool false]:=by
 refine Fn0.o func235<|G.c call143 Ahk ?_;rintro h g e rfl;exact G.r (.tuple #[.string (mkS []),.string (mkS []),.bool false]) ⟨rfl,rfl⟩
def Afk :Fn0 prog 236 [.string (mkS [])] u fun v _=>v=.tuple #[.int .i64 0,.bool false]:=by
 refine Fn0.o func236<|G.c call203 Qi ?_;rintro h g e rfl;exact G.r (.tuple #[.int .i64 0,.bool false]) ⟨rfl,rfl⟩
def Atn {x:List UInt8×Nat}(e:1<=x.2)(g:x.2<=3):Fn0 prog 192 [Dz x,.string (mkS [])] u fun v _=>v=.bool true:=by
 obtain⟨s,k⟩:=x;simp only at e g;refine Fn0.o func192 ?_;rcases (by omega:k=1\/k=2\/k=3) with rfl|rfl|rfl
 ·exact G.eT (1:Nat) 1<|G.q [] [] rfl<|G.r (.bool true) ⟨rfl,rfl⟩
 ·refine G.eF (2:Nat) 1<|G.eT (2:Nat) 2<|G.c call235 Asy ?_;rintro n j h rfl;refine G.c call236 Afk ?_;rintro t m l2 rfl;exact G.q [] [] rfl<|G.r (.bool true) ⟨rfl,rfl⟩
 exact G.eF (3:Nat) 1<|G.eF (3:Nat) 2<|G.eT (3:Nat) 3<|G.q [] [] rfl<|G.r (.bool true) ⟨rfl,rfl⟩
def Ae9 :Lib.itoa z≠[]:=by
 by_cases h:z<0
 ·rw[Oc h];simp
 rw[Lib.itoa,if_neg h];exact Ga _
def Arw (h:z.natAbs<=1000000000):Fn0 prog 192 [Dz (s,1),.string (mkS (Lib.itoa z))] u fun v _=>v=.bool true:=by
 refine Fn0.o func192<|G.eT (1:Nat) 1<|G.w (Lib.itoa z) [] Ae9<|G.c call234 (Afd h) ?_;rintro j g e rfl;exact G.r (.bool true) ⟨rfl,rfl⟩
def Asa {s t:List UInt8}(h:Ha t=true):Fn0 prog 192 [Dz (s,3),.string (mkS t)] u fun v _=>v=.bool true:=by
 refine Fn0.o func192<|G.eF (3:Nat) 1<|G.eF (3:Nat) 2<|G.eT (3:Nat) 3<|G.w t [] (fun e=>by rw[e]at h;cases h)<|G.c call166 (Aju h) ?_;rintro m j g rfl;exact G.r (.bool true) ⟨rfl,rfl⟩
end
section
variable {i k:Nat}{s:List UInt8}
section rules
variable {P:Program} [A5 P] {fn:Func} {Post:By} {st:List KI×S} {u m:PH}
def G.convBU (e:TypeId)(l:List UInt8)(b n c:Nat)(h:Aj P (adv P st)=.conv (some (.slice e)) (some .string) (.slice (some ⟨b,0,none⟩) n c))(Q:P.underlying e=some (.int .u8))(U:n=l.length)
 (O:Fz u b 0 1 (Bm l)) (k:G P fn Post (nx (adv P st) (.string (mkS l))) u m):G P fn Post st u m:=by
 refine G.ask h mV (fun K o g w hp=>?_) k;obtain⟨s,d,X,C,I,J,E⟩:=Lk g;obtain⟨H,V,F,pos,after,t⟩:=o;simp only at C;subst C;have T:=(hp (by simp[Hg,Ab9 E mV])).1;subst U;have:=run_convert_bytes_back (P:=P) w s d e ⟨b,0,none⟩ c l J Q E (fun j R=>by
  have L:=O j (.int .u8 (l[j].toNat:Int)) (by simp[Bm,R]);have N:=(L 0 (.int .u8 (l[j].toNat:Int)) (by simp[Value.cells])).cell T;rw[D5];simpa using N)
 simp[execOp,I,this]
end rules
def Yf (i:Nat):UInt8:=UInt8.ofNat (97+i)
def Vi (h:i<26):(Yf i).toNat=97+i:=by
 unfold Yf;rw[UInt8.toNat_ofNat'];omega
def Ql {u:PH}{p:List UInt8}(hi:i<26)(hp:p.length<=1000):Fn0 prog 167 [.string (mkS p),.int .i64 i] u fun v _=>v=.string (mkS (p++[Yf i])):=by
 refine Fn0.o func167<|G.remZ (i:Int) 26 (i:Int) kV oV oV (by rw[A2o oV];omega)<|G.p 97 i (97+i:Nat)<|G.convI .i64 .u8 .i64 (97+i:Nat) ((97+i:Nat):Int) kV ?_ ?_
 ·simp only[IntKind.wrap,IntKind.signed,IntKind.bits];simp;omega
 have h : [Value.int .u8 ((97+i:Nat):Int)]=Bm [Yf i]:=by unfold Bm;rw[Azu,Vi hi];rfl
 refine G.B 5 1 1 (.int .u8 0) [.int .u8 ((97+i:Nat):Int)] (by rw[h];exact Lz _) ?_;intro g n j e;rw[h]at e;exact G.convBU 5 [Yf i] g 1 1 kV kV rfl e<|G.addS p [Yf i] kV gV<|G.r _ ⟨rfl,rfl⟩
def Afl:List UInt8:=[114,101,100]
def Pp:List UInt8:=[103,114,101,101,110]
def Xq:List UInt8:=[98,108,117,101]
def Aev (s:List UInt8):Bool:=Ha s&&(s==Afl||s==Pp||s==Xq)
def Ahe (h:Aev s=true):Ha s=true:=by
 unfold Aev at h;rw[Azb]at h;exact h.1
def Asj (h:Aev s=true):s=Afl\/s=Pp\/s=Xq:=by
 unfold Aev at h;simp only[Azb,A1z,beq_iff_eq]at h;rcases h.2 with (h|h)|h
 ·exact .inl h
 ·exact .inr (.inl h)
 exact .inr (.inr h)
def Rl (k:Nat)(s:List UInt8):Prop:=s = []\/(k=3/\Aev s=true)\/(k=1/\∃ z:Int,z.natAbs<=1000000000/\s=Lib.itoa z)\/(k=2/\∃ q,SmW q/\s=Ae q)
def Yd (k:Nat)(s:List UInt8):Prop:=s = []\/(k=3/\Aev s=true)\/(k=1/\∃ z:Int,z.natAbs<=1000000000/\s=Lib.itoa z)\/(k=2/\∃ q,SmR q/\s=Ae q)
def Yd.ok (h:Yd k s):Rl k s:=h.imp id (Or.imp id (Or.imp id fun⟨e,q,g,j⟩=>⟨e,q,g.w,j⟩))
def Gm {q:Rat}(h:Ae q=s)(e:SmR q):Yd 2 s:=.inr (.inr (.inr ⟨rfl,q,e,h.symm⟩))
def Sv {z:Int}(h:Lib.itoa z=s)(e:z.natAbs<=1000000000):Yd 1 s:=.inr (.inr (.inl ⟨rfl,z,e,h.symm⟩))
def Alf {u:PH}{s:Src}{ts:List Int}{x:List UInt8×Nat}(h:Ig u s ts)(R:k<=s.n)(O:1<=x.2)(Q:x.2<=3) :
 Ag prog 168 [s.ptr,Dz x] u (s.M k) fun v _ T=>∃ (t:List UInt8) (N:Nat),v=.string (mkS t)/\Yd x.2 t/\N<=s.n/\T=s.M N:=by
 obtain⟨nm,H⟩:=x;simp only at O Q⊢;refine Ag.o func168<|G.A call48 (Jd (n:=9) h R oV oV) ?_;rintro Z Y X W ⟨r,J,rfl,V,j,rfl⟩ _;rw[Bw];by_cases U:r=8
 ·exact G.eT r 8<|G.r (.string (mkS [])) ⟨[],J,rfl,.inl rfl,j,rfl⟩
 refine G.eF r 8 ?_;by_cases L:H=3
 ·subst L;refine G.eT (3:Nat) 3<|G.B 9 1 16 (.string (mkS [])) [.string (mkS Afl),.string (mkS Pp),.string (mkS Xq)] (Hk [Afl,Pp,Xq]) ?_;intro g I l2 e;obtain⟨i,hi⟩:∃ i,i=r%3:=⟨_,rfl⟩;have C:i<3:=oV;refine G.remZ (r:Int) 3 (i:Int) kV oV oV (by rw[A2o oV];omega)<|G.a g 0 3 3 i 1 C ?_;obtain⟨t,E,F⟩:∃ t,ElP I g (0+i*1) (.string (mkS t))/\Aev t=true:=by
   rcases (by omega:i=0\/i=1\/i=2) with h|h|h
   ·rw[h];exact⟨Afl,e 0 _ rfl,jV⟩
   ·rw[h];exact⟨Pp,e 1 _ rfl,jV⟩
   rw[h];exact⟨Xq,e 2 _ rfl,jV⟩
  exact G.lU none g (0+i*1) (.string (mkS t)) E<|G.r (.string (mkS t)) ⟨t,J,rfl,.inr (.inl ⟨rfl,F⟩),j,rfl⟩
 refine G.eF H 3 ?_;by_cases K:H=1
 ·subst K;refine G.eT (1:Nat) 1<|G.B 9 1 16 (.string (mkS [])) [.string (mkS [49]),.string (mkS [50]),.string (mkS [49,48])] (Hk [[49],[50],[49,48]]) ?_;intro g I l2 e;obtain⟨i,hi⟩:∃ i,i=r%3:=⟨_,rfl⟩;have C:i<3:=oV;refine G.remZ (r:Int) 3 (i:Int) kV oV oV (by rw[A2o oV];omega)<|G.a g 0 3 3 i 1 C ?_;obtain⟨t,E,F⟩:∃ t,ElP I g (0+i*1) (.string (mkS t))/\Yd 1 t:=by
   rcases (by omega:i=0\/i=1\/i=2) with h|h|h
   ·rw[h];exact⟨[49],e 0 _ rfl,Sv (z:=1) jV fV⟩
   ·rw[h];exact⟨[50],e 1 _ rfl,Sv (z:=2) jV fV⟩
   rw[h];exact⟨[49,48],e 2 _ rfl,Sv (z:=10) jV fV⟩
  exact G.lU none g (0+i*1) (.string (mkS t)) E<|G.r (.string (mkS t)) ⟨t,J,rfl,F,j,rfl⟩
 refine G.eF H 1 ?_;obtain rfl:H=2:=oV;refine G.B 9 1 16 (.string (mkS [])) [.string (mkS [48]),.string (mkS [49]),.string (mkS [45,50]),.string (mkS [49,47,50]),.string (mkS [51]),.string (mkS [53,47,51]),.string (mkS [49]),.string (mkS [50])] (Hk [[48],[49],[45,50],[49,47,50],[51],[53,47,51],[49],[50]]) ?_;intro g I l2 e;refine G.a g 0 8 8 r 1 oV ?_;obtain⟨t,E,F⟩:∃ t,ElP I g (0+r*1) (.string (mkS t))/\Yd 2 t:=by
  rcases (by omega:r=0\/r=1\/r=2\/r=3\/r=4\/r=5\/r=6\/r=7) with h|h|h|h|h|h|h|h
  ·rw[h];exact⟨_,e 0 _ rfl,Gm (q:=0) jV ⟨jV,jV⟩⟩
  ·rw[h];exact⟨_,e 1 _ rfl,Gm (q:=1) jV ⟨jV,jV⟩⟩
  ·rw[h];exact⟨_,e 2 _ rfl,Gm (q:=-2) jV ⟨jV,jV⟩⟩
  ·rw[h];exact⟨_,e 3 _ rfl,Gm (q:=1/2) jV ⟨jV,jV⟩⟩
  ·rw[h];exact⟨_,e 4 _ rfl,Gm (q:=3) jV ⟨jV,jV⟩⟩
  ·rw[h];exact⟨_,e 5 _ rfl,Gm (q:=5/3) jV ⟨jV,jV⟩⟩
  ·rw[h];exact⟨_,e 6 _ rfl,Gm (q:=1) jV ⟨jV,jV⟩⟩
  rw[h];exact⟨_,e 7 _ rfl,Gm (q:=2) jV ⟨jV,jV⟩⟩
 exact G.lU none g (0+r*1) (.string (mkS t)) E<|G.r (.string (mkS t)) ⟨t,J,rfl,F,j,rfl⟩
end
def Alg {u:PH}{s:Src}{ts:List Int}{k:Nat}{v w x y:Value}{T:List (List UInt8×Nat)}(h:Ig u s ts)(hk:k<=s.n)(hT:Ac u v 2 (T.map Dz))(hl:T.length<=1000)(a0:∀ a∈T,1<=a.2/\a.2<=3)(hw:∃ a n c,w=.slice a n c)(hx:∃ a n c,x=.slice a n c)(hy:∃ z:Int,y=.int .i64 z) :
 Ag prog 98 [s.ptr,.agg #[v,w,x,y]] u (s.M k) fun r u' m'=>∃ (ss:List (List UInt8)) (k':Nat),Ac u' r 1 (ss.map nmV)/\ss.length=T.length/\(∀ (i:Nat) (x:List UInt8×Nat) (t:List UInt8),T[i]?=some x->ss[i]?=some t->Yd x.2 t)/\k'<=s.n/\m'=s.M k':=by
 obtain⟨a,c,rfl⟩:=hT.opn;obtain⟨wa,wn,wc,rfl⟩:=hw;obtain⟨xa,xn,xc,rfl⟩:=hx;obtain⟨z,rfl⟩:=hy;rw[Ayt]at hT⊢;refine Ag.o func98<|G.l (ι:=Nat×Nat×List (List UInt8)×(Option Addr×Nat)) (fun i=>[(0,.v s.ptr),(5,sV i.2.2.2.1 i.2.2.1.length i.2.2.2.2),(9,sV a T.length c),(10,iV T.length),(11,iV i.1)]) (fun _=>[])
  (fun i u' m'=>i.1<=T.length/\i.2.1<=s.n/\i.2.2.1.length=i.1/\(∀ (j:Nat) (x:List UInt8×Nat) (t:List UInt8),T[j]?=some x->i.2.2.1[j]?=some t->Yd x.2 t)/\Bag m' [s.arr i.2.1,Ahq i.2.2.2.1 i.2.2.2.2 i.2.2.1])
  (fun i=>T.length-i.1) (0,k,[],(none,0))
  ⟨Azh _,hk,rfl,fun j x t _ ht=>by simp at ht,s.bag0 k ⟨PH.mt,Af.nil _ _ _,trivial⟩⟩ ?_
 rintro J ⟨i,k1,ss,⟨na,nc⟩⟩ hJ u1 m1 l1 ⟨hi,N,P,Q,C⟩;simp only at hi N P Q C hJ;obtain⟨m0,V,hL⟩:=C;obtain⟨rfl,L⟩:=Src.split V;by_cases O:i<T.length
 ·refine G.lT i T.length ?_;have H:T[i]?=some T[i]:=Ayr O;obtain⟨E,F⟩:=a0 T[i] (Ay8 O);obtain⟨ba,oa,rfl,ea⟩:=Ac.at' (hT.mono l1) (j:=i) (e:=Dz T[i]) (by simp[H]);generalize T[i]=q at ea H E F;refine G.a ba oa T.length c i 2 O<|G.lU (some 2) ba (oa+i*2) (.agg #[.string (mkS q.1),.int .i64 q.2]) ea<|G.D call168 (Src.apart L) (Alf (x:=q) (h.mono l1) N E F) ?_;rintro v2 u2 m2 l2 ⟨t,k2,rfl,hv,Z,rfl⟩ _;refine G.B 9 1 16 (.string (mkS [])) [.string (mkS t)] (Hk [t]) ?_;intro g3 u3 l3 e3;have I:Bag (m0.or (s.M k2)) [s.arr k2,Ahq na nc ss]:=⟨m0,Src.at L,hL⟩;obtain⟨mm,W,U⟩:=I.focus 1 rfl;rw[Ajm]at W;refine G.k 9 1 16 (.string (mkS [])) mm (ss.map nmV) [.string (mkS t)] (.slice na ss.length nc) g3 0 1 1 W e3 (Hk [t]) ?_;intro v4 m4 m;rw[show ss.map nmV++[.string (mkS t)]=(ss++[t]).map nmV by rw[Aza];rfl]at m;obtain⟨a4,c4,rfl⟩:=m.shape;rw[Ayt]at m⊢;have K:=U (Ahq a4 c4 (ss++[t])) m4 m;refine G.i i<|G.b (hJ (i+1,k2,ss++[t],(a4,c4)) _ _ _ cV ((l1.trans l2).trans l3) ⟨dV,Z,by dsimp only;simp[P],?_,K⟩ dV);intro j x' t' R g;dsimp only at g;rcases Az8 j ss.length with X|X
  ·rw[Azi X]at g;exact Q j x' t' R g
  rw[Azy X]at g;have Y:j-ss.length=0:=by
   obtain⟨h',_⟩:=Ayu.1 g;simp at h';omega
  rw[Y]at g;obtain rfl:j=i:=oV;rw[H]at R;cases R;simp at g;subst g;exact hv
 obtain rfl:i=T.length:=oV;refine G.lF T.length T.length<|G.giveP (ma:=m0) (sm:=s.M k1) kV rfl (Src.apart L) (s.h0 k k1) ?_;intro u2 l2 hm;exact G.r (.slice na ss.length nc) ⟨ss,k1,hL.list hm 0 rfl,P,Q,N,rfl⟩
section
variable {F:List Am}{R:List Bu}{T:List (List UInt8×Nat)}{a:Option Addr}{c k n:Nat}{l:List Nat}{m m0 u:PH}
def nmA (j:Nat):List UInt8:=[97]++[Yf j]
def nmR (j:Nat):List UInt8:=[114]++[Yf j]
def Aum (h:n<=6):R6 ((List.range n).map nmA):=by
 have e:∀ n:Fin 7,(((List.range n.val).map nmA).all Ha&&decide ((List.range n.val).map nmA).Nodup)=true:=jV
 exact Q1 (e ⟨n,oV⟩)
def Au5 (h:n<=6):R6 ((List.range n).map nmR):=by
 have e:∀ n:Fin 7,(((List.range n.val).map nmR).all Ha&&decide ((List.range n.val).map nmR).Nodup)=true:=jV
 exact Q1 (e ⟨n,oV⟩)
structure TOK (T:List (List UInt8×Nat)):Prop where
 nm:T.map (·.1)=(List.range T.length).map nmA
 kd:∀ a∈T,1<=a.2/\a.2<=3
 le:T.length<=6
def TOK.nil:TOK []:=⟨rfl,fun a e=>by simp at e,mV⟩
def TOK.snoc (h:TOK T)(g:1<=k)(j:k<=3)(C:T.length<6):TOK (T++[(nmA T.length,k)]):=by
 refine⟨?_,fun a t=>?_,gV⟩
 ·rw[Aza,h.nm,Ay3,A0u,A4r,Aza];rfl
 rcases Ay5.1 t with e|e
 ·exact h.kd a e
 obtain rfl:=Azs.1 e;exact⟨g,j⟩
structure TOM (N:Nat)(T:List (List UInt8×Nat)):Prop extends TOK T where
 lem:T.length<=N
def TOM.nil (N:Nat):TOM N []:=⟨TOK.nil,Azh _⟩
def TOM.snocm {N:Nat}(h:TOM N T)(e:1<=k)(g:k<=3)(t:T.length<N)(j:N<=6):TOM N (T++[(nmA T.length,k)]) :=
 ⟨h.toTOK.snoc e g oV,by rw[Ay3,A0u];omega⟩
def TOK.att (h:TOK T):Am8 T:=⟨by rw[h.nm];exact Aum h.le,h.kd⟩
structure LOK (l:List Nat)(n:Nat):Prop where
 asc:l.Pairwise (· < ·)
 lt:∀ a∈l,a<n
 len:l.length<=n
def LOK.nil:LOK [] 0:=⟨List.Pairwise.nil,fun a e=>by simp at e,mV⟩
def LOK.up (h:LOK l n):LOK l (n+1):=⟨h.asc,fun a e=>by have:=h.lt a e;omega,by have:=h.len;omega⟩
def LOK.snoc (h:LOK l n):LOK (l++[n]) (n+1):=by
 refine⟨A1e.2 ⟨h.asc,A4i _ _,fun a g b j=>?_⟩,fun a g=>?_,by simp;have:=h.len;omega⟩
 ·obtain rfl:=Azs.1 j;exact h.lt a g
 rcases Ay5.1 g with e|e
 ·have:=h.lt a e;omega
 obtain rfl:=Azs.1 e;omega
def LOK.zero (h:0<n):LOK [0] n:=⟨A4i _ _,fun a e=>by
 obtain rfl:=Azs.1 e;exact h,gV⟩
structure ROK (u:PH)(n:Nat)(R:List Bu):Prop where
 nm:R.map (·.1)=(List.range R.length).map nmR
 ne:∀ r∈R,r.2.1≠[]
 ok:∀ r∈R,LOK r.2.1 n
 all:∀ a<n,∃ r∈R,a∈r.2.1
 at':∀ r∈R,Ac u (.slice r.2.2.1 r.2.1.length r.2.2.2) 1 (Ai r.2.1)
def ROK.nil :ROK u 0 []:=⟨rfl,fun a e=>by simp at e,fun a e=>by simp at e,fun a e=>oV,fun a e=>by simp at e⟩
def ROK.mono {u u':PH}{n:Nat}{R:List Bu}(h:ROK u n R)(hl:PH.le u u'):ROK u' n R:=⟨h.nm,h.ne,h.ok,h.all,fun r hr=>(h.at' r hr).mono hl⟩
def ROK.snoc {n t:Nat}(h:ROK u n R)(K:n<=t)(I:LOK l t)(H:l≠[])(j:∀ a,n<=a->a<t->a∈l)(E:Ac u (.slice a l.length c) 1 (Ai l)):ROK u t (R++[(nmR R.length,l,(a,c))]):=by
 refine⟨?_,fun r g=>?_,fun r g=>?_,fun a C=>?_,fun r g=>?_⟩
 ·rw[Aza,h.nm,Ay3,A0u,A4r,Aza];rfl
 ·rcases Ay5.1 g with e|e
  ·exact h.ne r e
  obtain rfl:=Azs.1 e;exact H
 ·rcases Ay5.1 g with e|e
  ·have:=h.ok r e;exact⟨this.asc,fun a C=>by have:=this.lt a C;omega,by have:=this.len;omega⟩
  obtain rfl:=Azs.1 e;exact I
 ·rcases Az8 a n with e|e
  ·obtain⟨r,g,J⟩:=h.all a e;exact⟨r,A0x _ g,J⟩
  exact⟨_,A46 _ (Azs.2 rfl),j a e C⟩
 rcases Ay5.1 g with e|e
 ·exact h.at' r e
 obtain rfl:=Azs.1 e;exact E
def ROK.rel (h:ROK u n R)(H:n<=6)(t:R.length<=6):Pf u n R:=by
 refine⟨by rw[h.nm];exact Au5 t,h.ne,fun r e=>(h.ok r e).lt,fun r e=>by have:=(h.ok r e).len;omega,fun r e k x y C E=>?_,h.all,h.at'⟩;obtain⟨g,rfl⟩:=Ayu.1 C;obtain⟨j,rfl⟩:=Ayu.1 E;exact A02.1 (h.ok r e).asc k (k+1) g j oV
structure FOK (T:List (List UInt8×Nat))(F:List Am)(lab:Int)(a:Nat):Prop where
 feat:C5 T F lab
 lt:∀ f∈F,f.1<a
 len:F.length<=a
 l1:-1<=lab
 l2:∀ l:Nat,lab=(l:Int)->l<a/\∃ n,T[l]?=some (n,2)
def FOK.nil :FOK T [] (-1) 0:=⟨⟨fun f e=>by simp at e,mV⟩,fun f e=>by simp at e,mV,oV,fun l g=>oV⟩
def FOK.skip {lab:Int}{a:Nat}(h:FOK T F lab a):FOK T F lab (a+1):=⟨h.feat,fun f g=>by have:=h.lt f g;omega,by have:=h.len;omega,h.l1,fun l j=>by
 obtain⟨t,e⟩:=h.l2 l j;exact⟨oV,e⟩⟩
def FOK.lab {lab:Int}{a:Nat}{n:List UInt8}(h:FOK T F lab a)(t:T[a]?=some (n,2)):FOK T F (a:Int) (a+1):=by
 refine⟨⟨fun f e=>?_,h.feat.nodup⟩,fun f e=>by have:=h.lt f e;omega,by have:=h.len;omega,oV,fun l E=>?_⟩
 ·obtain⟨n,k,g,j,C⟩:=h.feat.ok f e;exact⟨n,k,g,j,by have:=h.lt f e;omega⟩
 obtain rfl:l=a:=oV;exact⟨oV,n,t⟩
def FOK.put {lab:Int}{a k:Nat}{n:List UInt8}{g:Nat×Nat}(h:FOK T F lab a)(C:T[a]?=some (n,k))(E:(g.1=1/\k=2/\g.2<=1)\/(g.1=2/\k=3/\g.2=0)):FOK T (F++[(a,g)]) lab (a+1):=by
 refine⟨⟨fun f j=>?_,?_⟩,fun f j=>?_,by simp;have:=h.len;omega,h.l1,fun l H=>?_⟩
 ·rcases Ay5.1 j with e|e
  ·exact h.feat.ok f e
  obtain rfl:=Azs.1 e;refine⟨n,k,C,E,fun e=>?_⟩;have:=(h.l2 a e.symm).1;omega
 ·rw[Aza];refine A1h.2 ⟨h.feat.nodup,mV,fun x I y J=>?_⟩;obtain⟨f,j,rfl⟩:=Ayx.1 I;have:=h.lt f j;simp at J;omega
 ·rcases Ay5.1 j with e|e
  ·have:=h.lt f e;omega
  obtain rfl:=Azs.1 e;show a<a+1;omega
 obtain⟨K,t⟩:=h.l2 l H;exact⟨oV,t⟩
def Av2 {lab:Int}(hT:TOK T)(h:ROK u T.length R)(hF:FOK T F lab T.length)(h0:0<T.length)(g:0<R.length)(e:R.length<=6):Bt u T R F lab :=
 ⟨hT.att,h.rel hT.le e,hF.feat,h0,by have:=hT.le;omega,g,e,by have:=hF.len;have:=hT.le;omega,hF.l1,fun l j=>(hF.l2 l j).2⟩
def Abm (a:Option Addr)(c:Nat)(T:List (List UInt8×Nat)):Arr:=⟨.slice a T.length c,162,2,T.map Dz⟩
def X8 (a:Option Addr)(c:Nat)(R:List Bu):Arr:=⟨.slice a R.length c,164,2,R.map Hq⟩
def Xm (a:Option Addr)(c:Nat)(F:List Am):Arr:=⟨.slice a F.length c,105,3,F.map Ch⟩
def Aea (a:Option Addr)(c:Nat)(l:List Nat):Arr:=⟨.slice a l.length c,3,1,Ai l⟩
def Aq3 :(Abm a c T).At m0 m=Af m0 m (.slice a T.length c) 162 2 (T.map Dz):=rfl
def Ajr :(X8 a c R).At m0 m=Af m0 m (.slice a R.length c) 164 2 (R.map Hq):=rfl
def Aaq :(Xm a c F).At m0 m=Af m0 m (.slice a F.length c) 105 3 (F.map Ch):=rfl
def Aan :(Aea a c l).At m0 m=Af m0 m (.slice a l.length c) 3 1 (Ai l):=rfl
def Aj9 (x:List UInt8×Nat):Ba 2 [Dz x]:=by
 intro e g;simp at g;subst g;exact⟨rfl,fun y h=>by simp[Dz,Value.cells]at h;rcases h with rfl|rfl<;>rfl⟩
def Rk (x:Bu):Ba 2 [Hq x]:=by
 intro e g;simp at g;subst g;exact⟨rfl,fun y h=>by simp[Hq,Value.cells]at h;rcases h with rfl|rfl<;>rfl⟩
def Ju (x:Am):Ba 3 [Ch x]:=by
 intro e g;simp at g;subst g;exact⟨rfl,fun y h=>by simp[Ch,Value.cells]at h;rcases h with rfl|rfl|rfl<;>rfl⟩
end
section
variable {A T:List Nat}{i x:Nat}{listed:Array Bool}{o:Oper}{s0:S}
variable [Cc] [Cm]
section
variable {P:Program} {id:Nat} {ops:Array Oper} {dr:Bool} {Fin:S->PH->PH->Prop} {c:Cx} {Q:Exit->Act->World->Prop}
def Ob.append {l2:List Nat}:∀ {e:List Nat} {s:S} {u m:PH},Ob P id ops dr (fun s u m=>Ob P id ops dr Fin l2 s u m) e s u m->Ob P id ops dr Fin (e++l2) s u m
 |[],s,u,m,h=>by
  cases h with
  |nil h=>exact h
 |i::e,s,u,m,h=>by
  cases h with
  |auto ho hg hd he hl=>exact .auto ho hg hd he hl.append
  |skip ho hg hd hl=>exact .skip ho hg hd hl.append
  |ask ho hg hd hv hs hal hw hl=>exact .ask ho hg hd hv hs hal hw hl.append
  |big ho hg hd hv hs hf hk hw hl=>exact .big ho hg hd hv hs hf hk hw fun v t n g j=>(hl v t n g j).append
def Ob.fin {e:S->PH->PH->Prop}(g:∀ s u m,Fin s u m->e s u m):∀ {l:List Nat} {s:S} {u m:PH},Ob P id ops dr Fin l s u m->Ob P id ops dr e l s u m
 |[],s,u,m,h=>by
  cases h with
  |nil h=>exact .nil (g _ _ _ h)
 |i::l1,s,u,m,h=>by
  cases h with
  |auto ho hg hd he hl=>exact .auto ho hg hd he (hl.fin g)
  |skip ho hg hd hl=>exact .skip ho hg hd (hl.fin g)
  |ask ho hg hd hv hs hal hw hl=>exact .ask ho hg hd hv hs hal hw (hl.fin g)
  |big ho hg hd hv hs hf' hk hw hl=>exact .big ho hg hd hv hs hf' hk hw fun v C t j n=>(hl v C t j n).fin g
structure H9 (ops:Array Oper)(listed:Array Bool)(T:List Nat):Prop where
 sz:listed.size=ops.size
 mem:∀ i,i<ops.size->(listed.getD i true=false↔i∈T)
 lt:∀ i∈T,i<ops.size
 nd:T.Nodup
 cl:Agx ops listed
def Oj :i∈Region.ready .any ops listed↔i<ops.size/\listed.getD i true=false/\∃ o,ops[i]?=some o/\∀ e∈o.after,Region.binds .any e=true->listed.getD e.on false=true:=by
 simp only[Region.ready,A2v,A64,Azb,A1b];refine and_congr_right fun hi=>and_congr_right fun _=>?_;have n:ops[i]?=some ops[i]:=A0l hi;rw[n];simp only[A1n,A07,A8u,Ayz,exists_eq_left',A1z,A1b];constructor
 ·intro h e j g;rcases h e j with h|h
  ·rw[g]at h;cases h
  exact h
 intro h e j;cases g:Region.binds .any e with
 |false=>exact .inl rfl
 |true=>exact .inr (h e j g)
def H9.no (h:H9 ops listed T)(j:x∈T):listed.getD x false=true->False:=by
 intro e;have g:=h.lt x j;have:=(h.mem x g).2 j;have n:x<listed.size:=by have:=h.sz;omega
 simp only[Azn,A0l n,A07]at e this;rw[this]at e;cases e
def H9.next {A B:List Nat}(h:H9 ops listed (A++i::B))(W:ops[i]?=some o)(K:∀ e∈o.after,Region.binds .any e=true->listed.getD e.on false=true):H9 ops (listed.setIfInBounds i true) (A++B):=by
 obtain⟨L,hT,H,E,N⟩:=h;have J:i<listed.size:=by rw[L];exact H i mV
 have n:(A++B).Nodup/\i∉A++B:=by
  rw[A1h]at E⊢;simp only[A1i,Ay7,Ay5]at E⊢;obtain⟨Z,⟨n2,n3⟩,V⟩:=E;exact⟨⟨Z,n3,fun x X y Y=>V x X y (.inr Y)⟩,fun h=>h.elim (fun h=>V i h i (.inl rfl) rfl) n2⟩
 refine⟨by simpa using L,fun j C=>?_,fun j C=>H j ?_,n.1,?_⟩
 ·by_cases g:j=i
  ·subst g;simp only[Azn,A2n J,A07];exact⟨fun h=>absurd h mV,fun h=>absurd h n.2⟩
  have:=hT j C;simp only[Azn,A0s (fun h=>g h.symm)]at this⊢;rw[this];simp[g]
 ·simp only[Ay5,Ay7]at C⊢;rcases C with h|h
  ·exact .inl h
  exact .inr (.inr h)
 intro j C o' F e R O;have t:∀ k,listed.getD k false=true->(listed.setIfInBounds i true).getD k false=true:=by
  intro k U;by_cases I:k=i
  ·subst I;simp only[Azn,A2n J,A07]
  simp only[Azn,A0s (fun h=>I h.symm)]at U⊢;exact U
 by_cases g:j=i
 ·subst g;rw[W]at F;obtain rfl:=A0j F;exact t _ (K e R O)
 refine t _ (N j ?_ o' F e R O);simp only[Azn,A0s (fun h=>g h.symm)]at C⊢;exact C
def H9.swaps (h:H9 ops listed T)(E:∀ x∈A,x∈T)(H:ops[i]?=some o)(t:∀ e∈o.after,Region.binds .any e=true->listed.getD e.on false=true)(F:∀ x∈A,Ed ops s0 x i=true):∀ x∈A,Afa ops s0 x i=true:=by
 intro x C;have hp:=F x C;unfold Ed at hp;simp only[Azb,A1z]at hp;have n:∀ o',ops[i]?=some o'->∀ e∈o'.after,Region.binds .any e=true->listed.getD e.on false=true:=fun o' j=>by rw[H]at j;obtain rfl:=A0j j;exact t
 rcases hp.2 with (g|g)|g
 ·exact (h.no (E x C) (Wl n g)).elim
 ·exact g
 exact (h.no (E x C) (Fd h.cl ops.size i n g)).elim
def H9.any {s0:S}(e:M6 s0)(j:(List.range ops.size).all (Hs ops)=true)(hF:∀ s u m ρ a w,Fin s u m->Rel c s u m ρ a w->Q .normal a w){n:Nat}{T:List Nat}{listed:Array Bool}{s:S}{u m:PH}{ρ:Nat->Nat}{a:Act}{w:World}(h:H9 ops listed T)(E:T.length=n)
 (C:T.Pairwise (fun x y=>Ed ops s0 x y=true)) (g:Fi ops s0 s) (t:Ob P id ops true Fin T s u m) (F:Rel c s u m ρ a w):Go.wpAny P .any ops Q n listed a w :=
 Ob.wpAny e j hF n T listed E h.sz h.mem h.lt h.nd h.cl C g t F
def H9.perm {T e:List Nat}(h:H9 ops listed T)(hp:T.Perm e):H9 ops listed e :=
 ⟨h.sz,fun i hi=>(h.mem i hi).trans hp.mem_iff,fun i hi=>h.lt i (hp.mem_iff.2 hi),hp.nodup_iff.1 h.nd,h.cl⟩
def H9.first {t:Nat}(h:H9 ops listed (t::T))(F:(List.range ops.size).all (Hs ops)=true)(K:∀ x∈T,dir ops t x=false):t∈Region.ready .any ops listed:=by
 have hp:=h.lt t mV;refine Oj.2 ⟨hp,(h.mem t hp).2 mV,ops[t],A0l hp,fun e I H=>?_⟩;rw[Azg]at F;have g:=F t (by simpa using hp);unfold Hs at g;rw[A0l hp]at g;simp only[Azg]at g;have:=g e (by simpa using I);simp only[H,A4k,A7f,Azb,A1b]at this;have C:e.on<ops.size:=A5t▸this.1;have E:e.on≠t:=fun h=>by rw[h]at this;simp at this
 have j:dir ops t e.on=true:=by
  unfold dir;rw[A0l hp];simp only[A4c,Azb];exact⟨e,by simpa using I,H,mV⟩
 cases hl:listed.getD e.on true with
 |true =>
  have J:e.on<listed.size:=by have:=h.sz;omega
  simp only[Azn,A0l J,A07]at hl⊢;exact hl
 |false =>
  have n:=(h.mem e.on C).1 hl;rcases Ay7.1 n with n|n
  ·exact absurd n E
  rw[K _ n]at j;cases j
def Bbc {x y:Nat}(h:Ed ops s0 x y=true):dir ops x y=false:=by
 unfold Ed at h;simp only[Azb,A1b]at h;exact h.1.1
def Ob.wpAny2 (J:M6 s0)(hE:(List.range ops.size).all (Hs ops)=true)(hF:∀ s u m ρ a w,Fin s u m->Rel c s u m ρ a w->Q .normal a w){p q:Nat}{e:List Nat}(X:∀ y∈e,bef ops ops.size y p=true)(a1:dir ops p q=false) :
 ∀ (n:Nat) (C:List Nat) (listed:Array Bool) {s:S} {u m:PH} {ρ:Nat->Nat} {a:Act} {w:World},C.length+(e.length+2)=n->H9 ops listed (C++p::q::e) ->
  (C++p::e).Pairwise (fun x y=>Ed ops s0 x y=true)->(C++q::e).Pairwise (fun x y=>Ed ops s0 x y=true)->Fi ops s0 s ->
  Ob P id ops true (fun s u m=>Ob P id ops true Fin (p::q::e) s u m/\Ob P id ops true Fin (q::p::e) s u m) C s u m->Rel c s u m ρ a w->Go.wpAny P .any ops Q n listed a w:=by
 intro n;induction n with
 |zero=>intro C listed s u m ρ a w U;omega
 |succ n ih =>
  intro C listed s u m ρ a w U g H L I hO Y;refine⟨fun V=>?_,fun i hi=>?_⟩
  ·exfalso;cases C with
   |nil =>
    have:=g.first hE fun x F=>by
     rcases Ay7.1 F with rfl|F
     ·exact a1
     exact Bbc (A0m H F)
    rw[V]at this;cases this
   |cons t T' =>
    have:=H9.first (t:=t) (T:=T'++p::q::e) g hE fun x F=>by
     simp only[Ay5,Ay7]at F;rcases F with F|rfl|rfl|F
     ·exact Bbc (A0m H (by simp[F]))
     ·exact Bbc (A0m H mV)
     ·exact Bbc (A0m L mV)
     exact Bbc (A0m H (by simp[F]))
    rw[V]at this;cases this
  obtain⟨h1,h2,o,W,E⟩:=Oj.1 hi;have O:=(g.mem i h1).1 h2;simp only[Ay5,Ay7]at O;rcases O with O|O|O|O
  ·obtain⟨A,B,rfl⟩:=A3i O;have j:H9 ops listed (A++i::(B++p::q::e)):=by
    rw[Azm]at g;exact g
   have R:(A++i::(B++p::e)).Pairwise (fun x y=>Ed ops s0 x y=true):=by
    rw[Azm]at H;exact H
   have Z:(A++i::(B++q::e)).Pairwise (fun x y=>Ed ops s0 x y=true):=by
    rw[Azm]at L;exact L
   have N:=j.swaps (A:=A) (s0:=s0) (fun x F=>by simp[F]) W E fun x F=>(A1e.1 R).2.2 x F i mV;have K:=Ob.bubble J A N Y.lv I hO;refine wpOp_mono (fun a' w' ⟨s',u',m',ρ',r1,ra,r2⟩=>?_) (K.step (Q:=Q) Y);refine ih (A++B) _ (by simp at U⊢;omega) (by rw[Azm];exact j.next W E) ?_ ?_ (I.trans ra) r2 r1
   ·rw[Azm];exact R.sublist (A2h (A2p i _) A)
   rw[Azm];exact Z.sublist (A2h (A2p i _) A)
  ·subst O;have N:=g.swaps (A:=C) (s0:=s0) (fun x F=>by simp[F]) W E fun x F=>(A1e.1 H).2.2 x F i mV;have K:=Ob.bubble J C N Y.lv I (Ob.append (l2:=i::q::e) (hO.fin fun s u m h=>h.1));refine wpOp_mono (fun a' w' ⟨s',u',m',ρ',r1,ra,r2⟩=>?_) (K.step (Q:=Q) Y);exact (g.next W E).any J hE hF gV L (I.trans ra) r2 r1
  ·subst O;have j:H9 ops listed (C++i::p::e):=g.perm ((List.Perm.swap i p e).append_left C);have N:=j.swaps (A:=C) (s0:=s0) (fun x F=>by simp[F]) W E fun x F=>(A1e.1 L).2.2 x F i mV;have K:=Ob.bubble J C N Y.lv I (Ob.append (l2:=i::p::e) (hO.fin fun s u m h=>h.2));refine wpOp_mono (fun a' w' ⟨s',u',m',ρ',r1,ra,r2⟩=>?_) (K.step (Q:=Q) Y);exact (j.next W E).any J hE hF gV H (I.trans ra) r2 r1
  exfalso;exact g.no (x:=p) mV (Fd g.cl ops.size i (fun o' a0=>by rw[W]at a0;obtain rfl:=A0j a0;exact E) (X i O))
def Pd (P:Program)(id:Nat)(ops:Array Oper):List Nat->S->Option S
 |[],s=>some s
 |i::l,s=>match ops[i]? with
  |some o=>match E1 s o with
   |true=>match gv s ops o with
    |some true=>match eff P (id*1000+i) s o.op with
     |some (x,hw)=>Pd P id ops l ((s.put o.dst x).setb hw)
     |none=>none
    |some false=>Pd P id ops l (s.put o.dst (.v undef))
    |none=>none
   |false=>none
  |none=>none
def Ob.autos:∀ {l:List Nat} {s e:S} {u m:PH},Pd P id ops l s=some e->Fin e u m->Ob P id ops dr Fin l s u m
 |[],s,e,u,m,h,hf=>by
  unfold Pd at h;cases h;exact .nil hf
 |i::l,s,e,u,m,h,hf=>by
  unfold Pd at h;split at h
  ·rename_i o ho;split at h
   ·rename_i hd;split at h
    ·rename_i hg;split at h
     ·rename_i x hw he;exact .auto ho hg hd he (Ob.autos h hf)
     cases h
    ·rename_i hg;exact .skip ho hg hd (Ob.autos h hf)
    cases h
   cases h
  cases h
def Apq (ops:Array Oper)(s:S)(pre:List Nat)(p q:Nat)(post:List Nat):Bool :=
 Nat.beq (pre.length+(post.length+2)) ops.size&&(List.range ops.size).all (fun i=>(pre++p::q::post).contains i)&&(pre++p::q::post).all (fun i=>Nat.blt i ops.size)&&Mw ops s (pre++p::post)&&Mw ops s (pre++q::post) &&
  (List.range ops.size).all (Hs ops)&&post.all (fun y=>bef ops ops.size y p) && !dir ops p q && !Nat.beq p q
end
section
variable {P:Program} {fn:Func} {Post:By}
def G2 {ops:Array Oper}{s:S}(h:T.Pairwise (fun x y=>Ed ops s x y=true)):T.Nodup:=by
 refine h.imp fun {x y} hxy e=>?_;unfold Ed at hxy;subst e;simp at hxy
def Sym.reg_two (hm:P.follows .mixedOrders=true){id:Nat}{ops:Array Oper}{j g:List Nat}{p q:Nat}{s:S}(C:Apq ops s j p q g=true){k:List KI}{u m:PH}
 (h:Ob P id ops true (fun s u m=>Ob P id ops true (Fw P fn Post k) (p::q::g) s u m/\Ob P id ops true (Fw P fn Post k) (q::p::g) s u m) j s u m):Fw P fn Post (.code (.region id ops true)::k) s u m:=by
 intro c ρ a w F n;simp only[Fy,Exit.then];unfold Apq at C;simp only[Azb,A1b]at C;obtain⟨⟨⟨⟨⟨⟨⟨⟨t,U⟩,V⟩,b4⟩,b5⟩,b6⟩,W⟩,b8⟩,X⟩:=C;have t:=Azp t;rw[Azg]at U V W;have N:=Ef b4;have O:=Ef b5;have K:=G2 N;have L:=G2 O;have H:p≠q:=fun e=>by rw[e]at X;simp at X
 refine wp_region_any hm ?_;refine Ob.wpAny2 (c:=c) n.lv b6 (fun s u m ρ a w hf n=>hf c ρ a w F n) W b8 _ j _ t ⟨mV,fun i hi=>?_,fun i hi=>A5t▸V i hi,?_,fun i hi=>?_⟩ N O (Fi.refl _ _) h n.drew
 ·have:=U i (by simpa using hi);rw[A6l]at this;simp only[Azn,A5r,hi,if_true,A07];exact⟨fun _=>this,fun _=>trivial⟩
 ·rw[A1h]at K L⊢;simp only[A1i,Ay7]at K L⊢;obtain⟨Y,⟨Z,a3⟩,R⟩:=K;obtain⟨c1,⟨c2,c3⟩,c4⟩:=L;refine⟨Y,⟨fun e=>e.elim H Z,c2,c3⟩,fun x I y J=>?_⟩;rcases J with rfl|rfl|J
  ·exact R x I _ (.inl rfl)
  ·exact c4 x I _ (.inl rfl)
  exact R x I _ (.inr J)
 exfalso;simp only[Azn]at hi;by_cases E:i<ops.size
 ·simp[E]at hi
 rw[A1w gV]at hi;simp at hi
def Aug (P:Program)(pre:List Nat)(p q:Nat)(post:List Nat)(st:List KI×S):Bool:=match st with
 |(.code (.region id ops true)::k,s)=>Apq ops s pre p q post&&(Pd P id ops pre s).isSome
 |_=>false
def Nr (P:Program)(pre l:List Nat)(st:List KI×S):List KI×S:=match st with
 |(.code (.region id ops true)::k,s)=>match Pd P id ops pre s with
  |some s'=>(.reg id ops true l::k,s')
  |none=>st
 |_=>st
end
section rules
variable {P:Program} [A5 P] {fn:Func} {Post:By} {st:List KI×S} {u m:PH}
def G.both (j:List Nat)(p q:Nat)(g:List Nat)(h:Aug P j p q g (adv P st)=true)(t:G P fn Post (Nr P j (p::q::g) (adv P st)) u m)(C:G P fn Post (Nr P j (q::p::g) (adv P st)) u m):G P fn Post st u m:=by
 refine G.stp ⟨?_⟩;generalize adv P st=st' at h t C;unfold Aug at h;split at h
 ·rename_i id ops k s;rw[Azb]at h;obtain⟨E,F⟩:=h;obtain⟨H,n⟩:=A3m.1 F;have e:∀ l,Nr P j l (.code (.region id ops true)::k,s)=(.reg id ops true l::k,H):=fun l=>by unfold Nr;simp only[n]
  rw[e]at t C;exact Sym.reg_two A5.mx E (Ob.autos n ⟨t.out,C.out⟩)
 cases h
end rules
end
section
variable {a:Act}{i:Nat}{o:Oper}{s:S}{w w':World}
structure Als (F:Fence):Prop where
 fn:∀ f,F.fn f
 dep:F.depth.isSome=false
 calls:∀ {P:Program} {f:FuncId} {args:Array Value} {w:World} {R:Ending->World->Prop},Calls P f args w R->CallsIn F 0 P f args w R
def Sl:Als Fence.wide:=⟨fun _=>trivial,rfl,fun h=>callsIn_wide.2 h⟩
def Agb (l:Nat):Als (Fence.wide.inRound l):=⟨fun _=>trivial,rfl,fun h=>(callsIn_wide (n:=0)).2 h⟩
def Ait:Op->Bool
 |.defer _=>true
 |_=>false
def L8 (ops:Array Oper):Bool:=ops.toList.all fun o=>!Ait o.op
def Mt {ops:Array Oper}(h:L8 ops=true)(g:ops[i]?=some o):∀ c,o.op≠.defer c:=fun c e=>by
 unfold L8 at h;rw[Azg]at h;have:=h o (Array.mem_toList_iff.2 (Array.mem_of_getElem? g));rw[e]at this;simp[Ait]at this
section
variable {P:Program} {id:Nat} {ops:Array Oper} {dr:Bool} {Fin:S->PH->PH->Prop} {c:Cx} {Q:Exit->Act->World->Prop} {F:Fence}
def Zh {y:Value}{K:Act->World->Prop}(hF:Als F)(g:∀ c,o.op≠.defer c)(h:Awl P a o w y w')(e:K (a.put o.dst y) w'):o.wpIn F 0 P a w K Q:=by
 unfold Oper.wpIn;refine⟨fun f _=>hF.fn f,?_⟩;rw[Oper.semAt_plain F _ _ g];rcases h with h|⟨h,rfl⟩<;>rw[h]<;>exact e
def Aoj {a:Act}{o:Oper}{w:World}{s:S}{u m:PH}{ρ:Nat->Nat}{K:Value->World->Prop}{j:Act->World->Prop}(hF:Als F)(E:∀ c,o.op≠.defer c)(H:Rel c s u m ρ a w)(J:Ka s o.op=true)(I:Iu o.op=true)
 (h:Eb P (Cn s) o w K) (g:∀ v w',K v w'->j (a.put o.dst v) w'):o.wpIn F 0 P a w j Q:=by
 unfold Oper.wpIn;refine⟨fun f _=>hF.fn f,?_⟩;rw[Oper.semAt_plain F _ _ E,Hr H (Ge I) J];unfold Eb at h;split at h
 ·rename_i v w' e;rw[e];exact g _ _ h
 ·rename_i w' e;rw[e];exact g _ _ h
 ·rename_i f args w' e;rw[e];refine⟨fun n=>(by rw[hF.dep]at n;cases n),hF.calls (Calls.mono h fun N L C=>?_)⟩;obtain⟨v,rfl,t⟩:=C;exact g _ _ t
 exact h.elim
def Rel.after {u m t j:PH}{ρ:Nat->Nat}(h:Rel c s u m ρ a w)(g1:Bo t j w')(g2:Br u m w t j w'){d:Option Nat}(L:∀ e,d=some e->e<s.n)(v:Value):Rel c (s.put d (.v v)) t j ρ (a.put d v) w':=by
 refine Rel.put (x:=.v v) ?_ (fun _=>rfl) mV L;refine⟨h.sz,h.tm,h.df.of fun r e _ N H=>⟨by rw[g2.old _ (A3 e) H];exact e,by rw[g2.us _ (A3 e)];exact N,g2.ms _ (A3 e) H⟩,fun k b K=>?_,h.inj,h.lv,g1,h.gr.trans g2⟩;obtain⟨C,I,J,E⟩:=h.box k b K;have g:ρ k<w.heap.size:=by obtain⟨cs,e,_⟩:=C;exact A3 e
 refine⟨?_,I,?_,?_⟩
 ·rw[g2.old _ g E];exact C
 ·rw[g2.us _ g];exact J
 exact g2.ms _ g E
def Ob.wpOpsIn (hF:Als F)(g:L8 ops=true){rest:List Nat}(e:∀ s u m ρ a w,Fin s u m->Rel c s u m ρ a w->Go.wpOpsIn F 0 P ops Q rest a w) :
 ∀ {l:List Nat} {s:S} {u m:PH} {ρ:Nat->Nat} {a:Act} {w:World},Ob P id ops dr Fin l s u m->Rel c s u m ρ a w->Go.wpOpsIn F 0 P ops Q (l++rest) a w
 |[],s,u,m,ρ,a,w,h,hr=>by
  cases h with
  |nil h=>exact e _ _ _ _ _ _ h hr
 |i::l,s,u,m,ρ,a,w,h,hr=>by
  rw[A11,wpOpsIn_cons];cases h with
  |auto ho hg hd he hl =>
   simp only[wpOpIn,ho,Eq hr hg,if_true];obtain⟨H,w',y,n,t⟩:=Zr (P:=P) hr he (Kv hd);exact Zh hF (Mt g ho) n (Ob.wpOpsIn hF g e hl t)
  |skip ho hg hd hl =>
   simp only[wpOpIn,ho,Eq hr hg,if_false,A1q];exact⟨fun f _=>hF.fn f,Ob.wpOpsIn hF g e hl (hr.put (x:=.v undef) (fun _=>rfl) mV (Kv hd))⟩
  |ask ho hg hd hv hs hal hw hl =>
   simp only[wpOpIn,ho,Eq hr hg,if_true];refine Zh hF (Mt g ho) (.inl ?_) (Ob.wpOpsIn hF g e hl (hr.put (fun _=>rfl) mV (Kv hd)));rw[Hr hr (Ge hs) hv];exact hw w (fun _=>⟨hr.gd.pu,hr.gd.pm⟩)
  |big ho hg hd hv hs hf hk hw hl =>
   simp only[wpOpIn,ho,Eq hr hg,if_true];refine Aoj hF (Mt g ho) hr hv hs (hw w hr.gd) fun v w' ⟨E,C,g1,g2,j⟩=>?_;exact Ob.wpOpsIn hF g e (hl v E C (g2.le hr.gd.pu) j) (hr.after g1 g2 (Kv hd) v)
end
def yv (s:S)(ops:Array Oper)(i:Nat):Option (Nat×List Value):=match ops[i]? with
 |some o=>match E1 s o&&(Ka s o.op&&Iu o.op) with
  |true=>match gv s ops o with
   |some true=>match o.op with
    |.call c=>match c.callee with
     |.value f=>match Cn s f with
      |.func (.yield l) first cap=>some (l,first.toList++c.args.toList.map (Cn s))
      |_=>none
     |_=>none
    |_=>none
   |_=>none
  |false=>none
 |none=>none
def ysk (s:S)(ops:Array Oper)(i:Nat):Bool:=match ops[i]? with
 |some o=>match E1 s o with
  |true=>match gv s ops o with
   |some false=>true
   |_=>false
  |false=>false
 |none=>false
def Abf (P:Program)(l:Nat)(args:List Value)(u m:PH)(K:Value->PH->PH->Prop):Prop :=
 ∀ w,Bo u m w->YieldAt Fence.wide 0 P l args.toArray w fun e w'=>∃ v u' m',e=.returned v/\Bo u' m' w'/\Br u m w u' m' w'/\K v u' m'
def Aqz {ops:Array Oper}{i l:Nat}{args:List Value}(h:yv s ops i=some (l,args)):∃ o,ops[i]?=some o/\gv s ops o=some true/\E1 s o=true/\Ka s o.op=true/\Iu o.op=true /\
 ∀ (P:Program) (w:World),(execOp (Cn s) o).run P w=(Instr.yield l args.toArray).run P w:=by
 unfold yv at h;split at h
 ·rename_i o ho;split at h
  ·rename_i hc;simp only[Azb]at hc;split at h
   ·rename_i hg;split at h
    ·rename_i c hop;split at h
     ·rename_i f hcal;split at h
      ·rename_i l' first cap he
       simp only[Ayz,Az0]at h;obtain⟨rfl,rfl⟩:=h;refine⟨o,ho,hg,hc.1,hc.2.1,hc.2.2,fun P w=>?_⟩;obtain⟨j,t,g,pos,after,e⟩:=o;simp only at hop;subst hop;have n:(first.toList++c.args.toList.map (Cn s)).toArray=first++c.args.map (Cn s):=by apply A2u;simp
       rw[n];simp[execOp,resolve,hcal,he,Deferred.ofValue,invoke]
      cases h
     cases h
    cases h
   cases h
  cases h
 cases h
def Aoy {ops:Array Oper}(h:ysk s ops i=true):∃ o,ops[i]?=some o/\gv s ops o=some false/\E1 s o=true:=by
 unfold ysk at h;split at h
 ·rename_i o ho;split at h
  ·rename_i hd;split at h
   ·rename_i hg;exact⟨o,ho,hg,hd⟩
   cases h
  cases h
 cases h
def yB (pre:List Nat)(i:Nat)(post:List Nat)(st:List KI×S):Bool:=match st.1 with
 |.code (.region _ ops false)::_=>Nat.beq ops.size (pre.length+1+post.length)&&(List.range ops.size).zipIdx.all (fun x=>(pre++i::post)[x.2]? == some x.1)&&L8 ops
 |_=>false
def Axa (st:List KI×S):Array Oper:=match st.1 with
 |.code (.region _ ops false)::_=>ops
 |_=>#[]
def yS (pre:List Nat)(J:S->PH->PH->Prop)(st:List KI×S):List KI×S:=match st.1 with
 |.code (.region id ops false)::k=>(.reg id ops false pre::.lp J::k,st.2)
 |_=>st
def Ajp (i:Nat)(post:List Nat)(st:List KI×S)(s:S)(v:Value):List KI×S:=match st.1 with
 |.code (.region id ops false)::k=>match ops[i]? with
  |some o=>(.reg id ops false post::k,s.put o.dst (.v v))
  |none=>st
 |_=>st
section rules
variable {P:Program} [A5 P] {fn:Func} {Post:By} {st:List KI×S} {u m:PH}
def G.yreg (U:List Nat)(i:Nat)(g:List Nat)(h:yB U i g (E6 P 200 st)=true)
 (kk:∀ J:S->PH->PH->Prop,
  (∀ C L N,ysk C (Axa (E6 P 200 st)) i=true->G P fn Post (Ajp i g (E6 P 200 st) C undef) L N->J C L N) ->
  (∀ C L N l args (K:Value->PH->PH->Prop),yv C (Axa (E6 P 200 st)) i=some (l,args)->Abf P l args L N K->(∀ v t H,PH.le L t->K v t H->G P fn Post (Ajp i g (E6 P 200 st) C v) t H)->J C L N) ->
  G P fn Post (yS U J (E6 P 200 st)) u m):G P fn Post st u m:=by
 refine⟨L9 200 st ?_⟩;generalize E6 P 200 st=st' at h kk;obtain⟨ks,s⟩:=st';unfold yB at h;simp only at h;split at h
 ·rename_i id ops k;simp only[Azb]at h;obtain⟨⟨h1,X⟩,O⟩:=h;have hl:List.range ops.size=U++i::g:=by
   refine A2f fun j=>?_;rw[Azg]at X;by_cases hj:j<ops.size
   ·have:=X (j,j) (by
     refine Ay9 (i:=j) ?_;rw[A8k];simp[hj])
    simp only[beq_iff_eq]at this;rw[this];simp[hj]
   have R:=Azp h1;rw[Azo gV,Azo gV]
  intro c ρ a w W hr;simp only[Fy,Exit.then];refine (wpIn_wide (n:=0)).1 (wpIn_region ?_);rw[hl];have a0:=(kk (fun C L N=>(∃ o,ops[i]?=some o/\gv C ops o=some false/\E1 C o=true/\Ob P id ops false (Fw P fn Post k) g (C.put o.dst (.v undef)) L N) \/
   ∃ (o:Oper) (l:Nat) (args:List Value) (K:Value->PH->PH->Prop),ops[i]?=some o/\gv C ops o=some true/\E1 C o=true/\Ka C o.op=true/\Iu o.op=true/\(∀ (P:Program) (w:World),(execOp (Cn C) o).run P w=(Instr.yield l args.toArray).run P w)/\Abf P l args L N K /\
    ∀ v t H,PH.le L t->K v t H->Ob P id ops false (Fw P fn Post k) g (C.put o.dst (.v v)) t H)
   (fun C L N hs hg=>by
    obtain⟨o,I,R,T⟩:=Aoy hs;have I:ops[i]?=some o:=I;have:=hg.out;simp only[Ajp]at this;rw[I]at this;exact .inl ⟨o,I,R,T,this⟩)
   (fun C L N l args K hy hc hg=>by
    obtain⟨o,I,R,T,V,Y,Z⟩:=Aqz hy;have I:ops[i]?=some o:=I;refine .inr ⟨o,l,args,K,I,R,T,V,Y,Z,hc,fun v t H h1 X=>?_⟩;have:=(hg v t H h1 X).out;simp only[Ajp]at this;rw[I]at this;exact this)).out
  refine Ob.wpOpsIn Sl O (fun s1 u1 m1 ρ1 a1 w1 hf a2=>?_) a0 hr;obtain⟨s2,u2,m2,ρ2,E,hJ⟩:=hf c ρ1 a1 w1 W a2;rw[wpOpsIn_cons];have fin:∀ (s u m ρ a w),Fw P fn Post k s u m->Rel c s u m ρ a w->Go.wpOpsIn Fence.wide 0 P ops (Fy P fn Post c k) [] a w:=fun s u m ρ a w hf hr=>hf c ρ a w W hr;rcases hJ with ⟨o,I,R,T,V⟩|⟨o,l,args,K,I,R,T,V,Y,Z,e6,e7⟩
  ·simp only[wpOpIn,I,Eq E R,if_false,A1q];refine⟨fun f _=>trivial,?_⟩;have:=Ob.wpOpsIn Sl O fin V (E.put (x:=.v undef) (fun _=>rfl) mV (Kv T));rwa[Azl]at this
  simp only[wpOpIn,I,Eq E R,if_true];unfold Oper.wpIn;refine⟨fun f _=>trivial,?_⟩;rw[Oper.semAt_plain _ _ _ (Mt O I),Hr E (Ge Y) V,Z];obtain⟨a3,tmps,assign,body,hy,hR⟩:=e6 w1 E.gd;rw[hy];refine⟨fun hh=>(by cases hh),hR.mono fun e w' he=>?_⟩;obtain⟨v,L,N,rfl,g1,g2,g3⟩:=he;have:=Ob.wpOpsIn Sl O fin (e7 v L N (g2.le E.gd.pu) g3) (E.after g1 g2 (Kv T) v);rwa[Azl]at this
 cases h
def Axk {F:Fence}(hF:Als F){id:Nat}{ops:Array Oper}(g:L8 ops=true){J:S->PH->PH->Prop}{s:S}{c:Cx}{ρ:Nat->Nat}{a:Act}{w:World}{Q:Exit->Act->World->Prop}
 (h:G P fn Post ([.reg id ops false (List.range ops.size),.lp J],s) u m) (I:Rel c s u m ρ a w) (e:c.m0=Post.m0) (E:∀ s u m ρ a w,Rel c s u m ρ a w->J s u m->Q .normal a w):(Code.region id ops false).wpIn F 0 P Q a w:=by
 refine wpIn_region ?_;have:=Ob.wpOpsIn (rest:=[]) hF g (Q:=Q) (fun R U N L t K H j=>by
  obtain⟨T,V,O,W,n,C⟩:=H c L t K e j;exact E _ _ _ _ _ _ n C) h.out I
 rwa[Azl]at this
end rules
def S.ofT (n:Nat)(T:List (Nat×Value)):S:={ n:=n,tm:=fun d=>match T.find? (fun x=>Nat.beq x.1 d) with|some x=>.v x.2|none=>.junk,hp:=fun _=>none }
def Rel.start {u m:PH}(h:Bo u m w){tmps:Array Value}{T:List (Nat×Value)}(hT:∀ x∈T,tmps[x.1]?=some x.2):Rel ⟨w,u,m⟩ (S.ofT tmps.size T) u m (fun _=>0) { tmps:=tmps,defers:=[] } w:=by
 refine⟨rfl,fun d g=>?_,Ad3.nil _ _ _ _,fun k b n=>(by cases n),fun k j t=>absurd rfl t,⟨fun d k off g=>?_,fun j b k off n=>(by cases n)⟩,h,⟨Ay2 _,fun _ _ _=>rfl,fun _ _=>rfl,fun _ _ h=>h,⟨rfl,rfl⟩,fun _=>⟨rfl,Ay2 _⟩⟩⟩
 ·unfold S.ofT at g⊢;simp only at g⊢;split
  ·rename_i x hx;have:=hT x (List.mem_of_find?_eq_some hx);have e:=List.find?_some hx;rw[<-Azp e];exact this
  rename_i hx;rw[hx]at g;exact absurd rfl g
 unfold S.ofT at g;simp only at g;split at g<;>cases g
def Bo.putO {u m:PH}(h:Bo u m w){g:Nat}{o o':Obj}(e:m g=some o)(j:Rj o'=true):Bo u (m.upd g o') (w.putObj g o')/\Br u m w u (m.upd g o') (w.putObj g o'):=by
 have:=h.setO e j;rwa[show Sb w g o'=w.putObj g o' from rfl]at this
end
section
variable {a:Act}{d0:Deferred}{dl:List Deferred}{t:Array Value}
section
variable [Fl:Cc] {P:Program} {c:Cx} {s:S} {u m u' m':PH} {ρ:Nat->Nat} {w w':World}
def Rel.grow [Cm](h:Rel c s u m ρ a w)(g1:Bo u' m' w')(g2:Br u m w u' m' w'):Rel c s u' m' ρ a w':=by
 refine⟨h.sz,h.tm,h.df.of fun r e _ I C=>⟨by rw[g2.old _ (A3 e) C];exact e,by rw[g2.us _ (A3 e)];exact I,g2.ms _ (A3 e) C⟩,fun k b H=>?_,h.inj,h.lv,g1,h.gr.trans g2⟩;obtain⟨j,E,F,n⟩:=h.box k b H;have g:ρ k<w.heap.size:=by obtain⟨cs,e,_⟩:=j;exact A3 e
 refine⟨?_,E,?_,?_⟩
 ·rw[g2.old _ g n];exact j
 ·rw[g2.us _ g];exact F
 exact g2.ms _ g n
def Rel.grow0 (e:Rel c s u m ρ a w)(g1:Bo u' m' w')(g2:Br u m w u' m' w'):Rel c s u' m' ρ a w':=e.grow g1 g2
def Rel.unbase [Bs:Cm](e:Rel c s u m ρ { tmps:=t,defers:=d0::dl } w)(F:Bs.dl = [d0])(j:Tz d0=false):@Rel Fl Cm.no c s u m ρ { tmps:=t,defers:=dl } w:=by
 refine @Rel.mk Fl Cm.no c s u m ρ { tmps:=t,defers:=dl } w e.sz e.tm ?_ e.box e.inj e.lv e.gd e.gr;obtain⟨n,C,h,g,E⟩:=e.df;rw[A3g,if_neg (by simp[j])]at h;rw[A3g,if_pos (by simp[j]),F]at g;exact⟨n,C,h,(A4n g).2,E⟩
def Rel.rebase (e:Rel c s u m ρ { tmps:=t,defers:=dl } w)(h:Tz d0=false):@Rel Fl ⟨[d0]⟩ c s u m ρ { tmps:=t,defers:=d0::dl } w:=by
 refine @Rel.mk Fl ⟨[d0]⟩ c s u m ρ { tmps:=t,defers:=d0::dl } w e.sz e.tm ?_ e.box e.inj e.lv e.gd e.gr;obtain⟨j,n,C,g,E⟩:=e.df;refine⟨j,n,?_,?_,E⟩
 ·rw[A3g,if_neg (by simp[h])];exact C
 rw[A3g,if_pos (by simp[h]),g];rfl
def Rel.leavesV {fn:Func}{R:Ending->World->Prop}{t:Array Value}:∀ {dl:List Deferred} {w':World},Rel c s u m ρ { tmps:=t,defers:=dl } w' ->
 (∀ e,Rel c s u m ρ { tmps:=t,defers:=[] } e->∃ v,(results fn t).run P e=.ok v e/\R (.returned v) e)->LeavesInM Fence.wide 1 P fn t R dl .returning w'
 |[],w',hr,hv=>by
  obtain⟨v,g,h⟩:=hv w' hr;exact⟨v,g,h⟩
 |d::dl,w',hr,hv=>by
  obtain⟨r,n,g,h,j⟩:=hr.shut (P:=P) hr.marks;exact⟨mV,.inl ⟨r,n,g,h,Rel.leavesV j hv⟩⟩
def Rel.fin0 [A5 P]{fn:Func}{Post:By}{l:List Value}{e:PH}(h:Rel c s u m ρ a w)(j:S6 P s m fn.results.toList l)(g:PH.le e m)(n:Post.post (Ok l) u e):∃ v,(results fn a.tmps).run P w=.ok v w/\Aeh c Post.post (.returned v) w :=
 ⟨_,Px h j,_,_,_,rfl,(h.less g).gd,(h.less g).gr,n⟩
def Agw (P:Program)(f:FuncId)(args:List Value)(u m:PH)(K:PH->PH->Prop):Prop:=∀ w,Bo u m w->CallsDIn Fence.wide 0 P f args.toArray .returning w fun e md w'=>md=.returning/\∃ v u' m',e=.returned v/\Bo u' m' w'/\Br u m w u' m' w'/\K u' m'
def Rel.leavesD [Bs:Cm]{fn:Func}{R:Ending->World->Prop}{t:Array Value}{d0:Deferred}(g:Bs.dl = [d0]){fv:Fn}{cap:Array Value}{f:FuncId}{args:List Value}{K:PH->PH->Prop}(H:d0.target=.fn fv cap)
 (hi:∀ w,(invoke d0.target d0.args).run P w=.ok (.enter f args.toArray) w) (E:Agw P f args u m K)
 (F:∀ u' m' w',PH.le u u'->K u' m'->@Rel Fl Cm.no c s u' m' ρ { tmps:=t,defers:=[] } w'->∃ v,(results fn t).run P w'=.ok v w'/\R (.returned v) w') :
 ∀ {dl:List Deferred} {w:World},Rel c s u m ρ { tmps:=t,defers:=dl } w->LeavesInM Fence.wide 1 P fn t R dl .returning w
 |[],w,hr=>by
  obtain⟨_,_,_,h,_⟩:=hr.df;rw[g]at h;cases h
 |d::dl,w,hr=>by
  cases hm:Tz d with
  |true =>
   obtain⟨r,w',J,L,N⟩:=hr.shut (P:=P) hm;exact⟨mV,.inl ⟨r,w',J,L,Rel.leavesD g H hi E F N⟩⟩
  |false =>
   have O:d=d0:=by
    obtain⟨_,_,_,h,_⟩:=hr.df;rw[A3g,if_pos (by simp[hm]),g]at h;exact (A4n h).1
   subst O;refine⟨mV,.inr ⟨(fun h=>by cases h),fv,cap,f,args.toArray,H,hi w,fun _ _=>trivial,?_⟩⟩;refine (E w hr.gd).mono ?_;rintro e Q w' ⟨rfl,v,u',m',rfl,g1,g2,I⟩;have n:=Rel.grow0 (hr.unbase g hm) g1 g2;exact Rel.leavesV n fun C j=>F u' m' C (g2.le hr.gd.pu) I j
end
section
variable [Fl:Cc] {P:Program} [A5 P] {fn:Func} {Post:By} {st:List KI×S} {u m:PH}
def G.retD [Bs:Cm]{d0:Deferred}(J:Bs.dl = [d0]){fv:Fn}{cap:Array Value}{f:FuncId}{args:List Value}{K:PH->PH->Prop}(O:d0.target=.fn fv cap)
 (hi:∀ w,(invoke d0.target d0.args).run P w=.ok (.enter f args.toArray) w) (h:Akf (adv P st)=true) (L:Agw P f args u m K)
 (n:∀ u' m',PH.le u u'->K u' m'->∃ l g,S6 P (adv P st).2 m' fn.results.toList l/\PH.le g m'/\Post.post (Ok l) u' g):G P fn Post st u m:=by
 refine G.stp ?_;generalize adv P st=st' at h n;obtain⟨Q,s⟩:=st';have key:∀ c ρ a w,Rel c s u m ρ a w->Al8 P fn (Aeh c Post.post) .ret a w/\Al8 P fn (Aeh c Post.post) .normal a w:=by
  intro c ρ a w e;have:=Rel.leavesD (fn:=fn) (R:=Aeh c Post.post) (t:=a.tmps) J O hi L (fun u' m' w' N I H=>by
   obtain⟨l,g,C,E,F⟩:=n u' m' N I;exact Rel.fin0 (a:=⟨a.tmps,[]⟩) H C E F) (dl:=a.defers) e
  exact⟨this,this⟩
 unfold Akf at h;simp only at h;split at h
 ·refine⟨?_⟩;intro c ρ a w j e;exact wp_ret (Jp (key c ρ a w e).1 _)
 ·refine⟨?_⟩;intro c ρ a w j e;exact (key c ρ a w e).2
 cases h
end
def Aw9 (s:S)(l:List KI):Option (Nat×Fn×List Value):=match l with
 |.code (.region _ ops false)::_=>match ops.toList with
  |[⟨some d,.makeFunc fn first caps,_,_,_,none⟩,⟨none,.defer c,_,_,_,none⟩]=>match c.callee with
   |.value (.tmp e)=>cond (Nat.beq d e&&Nat.beq first.size 0&&Nat.beq c.args.size 0&&Nat.blt d s.n&&caps.toList.all fun x=>isV (s.ev x)) (some (d,fn,caps.toList.map (Cn s))) none
   |_=>none
  |_=>none
 |_=>none
def Awm (l:List KI):List KI:=match l with|_::k=>k|[]=>[]
def Yj (fn:Fn)(vs:List Value):Deferred:={ target:=.fn fn vs.toArray,args:=#[] }
section
variable [Fl:Cc] {P:Program} [A5 P] {fnc:Func} {Post:By} {st:List KI×S} {u m:PH}
def Awp:List KI->Bool
 |[]=>true
 |.lp _::_=>false
 |_::k=>Awp k
def O4 (e g:Cm)(c:Cx):∀ j:List KI,Awp j=true->@Fy Fl e P fnc Post c j=@Fy Fl g P fnc Post c j
 |[],_=>rfl
 |.code x::k,h=>by simp only[Fy];rw[O4 e g c k h]
 |.blk id::k,h=>by simp only[Fy];rw[O4 e g c k h]
 |.reg _ _ _ _::k,h=>by simp only[Fy];rw[O4 e g c k h]
 |.lp _::_,h=>by cases h
def G.outC [Bs:Cm]{e:List KI}{s:S}(h:G P fnc Post (e,s) u m)(g:Fv e=true):Fw P fnc Post e s u m:=by
 have:=h.out;rwa[Sym.ofNo g]at this
def G.go (n:Nat)(k:G P fnc Post (run P n st) u m):G P fnc Post st u m:=⟨Se A5.mx n st k.out⟩
def G.off {d:Nat}{fn:Fn}{vs:List Value}(h:Aw9 st.2 st.1=some (d,fn,vs))(X:Fv (Awm st.1)=true)(J:Awp (Awm st.1)=true)(k:@G Fl ⟨[Yj fn vs]⟩ P fnc Post (Awm st.1,st.2.put (some d) (.v (.func fn #[] vs.toArray))) u m):G P fnc Post st u m:=by
 obtain⟨ks,s⟩:=st;unfold Aw9 at h;simp only at h;split at h
 ·rename_i id ops kk;split at h
  ·rename_i d' fn' first caps ty pos af c ty2 pos2 af2 hops
   split at h
   ·rename_i e hc;cases hb:(Nat.beq d' e&&Nat.beq first.size 0&&Nat.beq c.args.size 0&&Nat.blt d' s.n&&caps.toList.all fun x=>isV (s.ev x)) with
    |false=>rw[hb]at h;cases h
    |true =>
     rw[hb]at h;simp only[cond_true,Ayz,Az0]at h;obtain⟨rfl,rfl,rfl⟩:=h;simp only[Azb]at hb;obtain⟨⟨⟨⟨C,E⟩,F⟩,H⟩,Q⟩:=hb;have C:=Azp C;subst C;have E:first = #[]:=A3o (Azp E)
     subst E;have F:c.args = #[]:=A3o (Azp F);have H:d' < s.n:=by simpa using H
     rw[Azg]at Q;have W:=G.outC (Bs:=⟨[Yj fn' (caps.toList.map (Cn s))]⟩) k X;refine⟨?_⟩;rw[Sym.ofNo rfl];intro O ρ a w K R;simp only[Fy,Exit.then];refine wp_region ?_;have Y:ops = #[⟨some d',.makeFunc fn' #[] caps,ty,pos,af,none⟩,⟨none,.defer c,ty2,pos2,af2,none⟩]:=by
      apply A2u;rw[hops]
     subst Y;have I:caps.map a.eval=(caps.toList.map (Cn s)).toArray:=by
      apply A2u;simp only[Array.toList_map,A09];refine A5f fun x Z=>?_;have j:=Q x Z;unfold Cn;cases e:s.ev x with
      |v y=>rw[R.eval x (by rw[e];simp),e];rfl
      |junk=>rw[e]at j;cases j
      |p i o=>rw[e]at j;cases j
     have g:=Rel.put (x:=.v (.func fn' #[] (caps.toList.map (Cn s)).toArray)) (d:=some d') (y:=.func fn' #[] (caps.toList.map (Cn s)).toArray) R (fun _=>rfl) mV (fun e V=>by cases V;exact H);have T:(execOp a.eval ⟨some d',.makeFunc fn' #[] caps,ty,pos,af,none⟩).run P w=.ok (.value (.func fn' #[] (caps.toList.map (Cn s)).toArray)) w:=by
      have:(execOp a.eval ⟨some d',.makeFunc fn' #[] caps,ty,pos,af,none⟩).run P w=.ok (.value (.func fn' #[] (caps.map a.eval))) w:=by
       have L:∀ (fn:Fn) (first cap:Array Value) (w:World),(Instr.makeFunc fn first cap).run P w=.ok (.func fn first cap) w:=fun _ _ _ _=>rfl
       simp[execOp,L]
      rw[this,I]
     have U:(execOp (a.put (some d') (.func fn' #[] (caps.toList.map (Cn s)).toArray)).eval ⟨none,.defer c,ty2,pos2,af2,none⟩).run P w=.ok (.defer (Yj fn' (caps.toList.map (Cn s)))) w:=by
      have j:=g.eval (.tmp d') (by show (s.put (some d') _).tm d'≠_;rw[A4];simp);rw[show (s.put (some d') (.v (.func fn' #[] (caps.toList.map (Cn s)).toArray))).ev (.tmp d')=.v (.func fn' #[] (caps.toList.map (Cn s)).toArray) from A4 _ _ _]at j;simp[execOp,resolve,hc,j,F,SV.den,Deferred.ofValue,Yj]
     have N:=Rel.rebase (t:=(a.put (some d') (.func fn' #[] (caps.toList.map (Cn s)).toArray)).tmps) (dl:=(a.put (some d') (.func fn' #[] (caps.toList.map (Cn s)).toArray)).defers) g (d0:=Yj fn' (caps.toList.map (Cn s))) rfl;refine .inl ?_;show Oper.upon P ⟨some d',.makeFunc fn' #[] caps,ty,pos,af,none⟩ a _ _ ((execOp a.eval ⟨some d',.makeFunc fn' #[] caps,ty,pos,af,none⟩).run P w);rw[T,Oper.upon_value];show wpOps P _ _ [1] (a.put (some d') (.func fn' #[] (caps.toList.map (Cn s)).toArray)) w;refine .inl ?_;show Oper.upon P ⟨none,.defer c,ty2,pos2,af2,none⟩ (a.put (some d') (.func fn' #[] (caps.toList.map (Cn s)).toArray)) _ _ ((execOp (a.put (some d') (.func fn' #[] (caps.toList.map (Cn s)).toArray)).eval ⟨none,.defer c,ty2,pos2,af2,none⟩).run P w);rw[U,Oper.upon_defer];have:=W O ρ _ w K N;rw[O4 _ Cm.no O _ J]at this;exact this
   cases h
  cases h
 cases h
end
end
end Go.Proofs.YtijchbjkdllolaaGreatDoor
