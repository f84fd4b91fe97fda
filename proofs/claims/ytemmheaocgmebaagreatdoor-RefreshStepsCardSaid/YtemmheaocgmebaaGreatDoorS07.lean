/- Parts of one proof, joined by a program. -/
import Derived.Test.YtemmheaocgmebaaGreatDoorS06
set_option linter.defProp false
set_option linter.unusedVariables false
set_option linter.unusedSimpArgs false
set_option linter.unusedSectionVars false
set_option maxHeartbeats 16000000
namespace Go.Proofs.YtemmheaocgmebaaGreatDoor
open Go.Proofs.Tryz
open Go.RowKit Go.MapKept
def A3n:=@List.pairwise_iff_getElem
def A9e:=@List.getElem_inj
def A52:=@List.findIdx?_eq_some_iff_getElem
def A2y:=@List.getElem_of_mem
def A7w:=@List.getElem_take
def A3v:=@List.getElem_map
def A8z:=@List.map_replicate
def A11:=@List.not_mem_nil
def A5w:=@List.foldl_append
def A91:=@List.getElem?_mapIdx
def A6p:=@List.any_eq_false
def Bas:=@Classical.em
def A92:=@List.getElem?_zipIdx
def A6v:=@List.mem_append_right
def A6f:=@List.pairwise_singleton
section
variable {i:Nat}{q:Rat}{s:zB}{u:PH}{x:Par×Rat}
def Sf (h:q≠0):Ae q≠[48]:=by
 intro e;unfold Ae at e;split at e
 ·have:=Im (e.trans E5.symm);exact h (A4r.1 this)
 have:(47:UInt8)∈Lib.itoa q.num++47::Lib.itoa (q.den:Int):=mV;rw[e]at this;simp at this
def Re (p q:Par)(r:Bool)(h:decide (Bk p q<0)=r):zF 127 [Ap p,Ap q] u fun v _=>v=.bool r:=by
 refine Fn0.o func127<|G.c call200 (Afb p q) ?_;rintro m j e rfl;cases r with
 |true =>
  exact G.lT' (Bk p q) 0 (of_decide_eq_true h)<|G.z zT
 |false =>
  exact G.lF' (Bk p q) 0 (of_decide_eq_false h)<|G.z zL
def Aoz (h:Tx q)(h0:q≠0):zF 294 [zS (Ae q)] u fun v _=>v=zT:=by
 refine Fn0.o func294<|G.c call169 (Gu h) ?_;rintro m j e rfl;exact G.x (Ae q) [48] (Sf h0)<|G.z zT
theorem Aa2 (h:Hn s=true):1<=s.length/\s.length<=12:=by
 unfold Hn at h;split at h
 ·cases h
 grind
theorem Y3 (h:Hn s=true){c:UInt8}(hi:s[i]?=some c):(97<=c.toNat/\c.toNat<=122)\/(i≠0/\(c.toNat=45\/(48<=c.toNat/\c.toNat<=57))):=by
 unfold Hn at h;split at h
 ·cases h
 simp only[Aym]at h
 match i,hi with
 |0,hi=>grind
 |i+1,hi=>grind
theorem Asw (h:Hn s=true):zF 218 [zS s] u fun v _=>v=zT:=by
 obtain⟨I,K⟩:=Aa2 h;refine Fn0.o func218<|G.convSB (some .string) 5 s kV kV kV ?_;intro X V R E;obtain⟨a,c,rfl⟩:=Ac.opn E;rw[Au]at E⊢;refine G.l (ι:=Nat) (fun i=>[(0,tV s),(7,sV a s.length c),(8,iV s.length),(9,iV i)]) (fun _=>[])
  (fun i U Q=>i<=s.length/\Q=PH.mt) (fun i=>s.length-i) 0 ⟨oV,rfl⟩ ?_
 rintro J i C W T l2 ⟨hi,rfl⟩;by_cases m:i<s.length
 ·refine G.lT i s.length ?_;have t:s[i]?=some s[i]:=A01 m;obtain⟨b,off,rfl,e⟩:=Ac.at' (E.mono l2) (j:=i) (e:=.int .u8 (s[i].toNat:Int)) (by simp[Bm,t]);have P:=Y3 h t;generalize s[i].toNat=n at e P;refine G.N s.length c m e ?_;by_cases L:97<=n/\n<=122
  ·exact G.cmpG .geq .u8 (n:Int) 97 true kV rfl (by simp[Db];omega)<|G.cmpG .leq .u8 (n:Int) 122 true kV rfl (by simp[Db];omega)<|G.i i<|G.b (C (i+1) _ _ _ cV l2 ⟨oV,rfl⟩ oV)
  by_cases H:97<=n
  ·grind
  refine G.cmpG .geq .u8 (n:Int) 97 false kV rfl (by simp[Db];omega)<|G.eF i 0 ?_;by_cases F:n=45
  ·exact G.cmpG .neq .u8 (n:Int) 45 false kV rfl (by simp[Db];omega)<|G.i i<|G.b (C (i+1) _ _ _ cV l2 ⟨oV,rfl⟩ oV)
  exact G.cmpG .neq .u8 (n:Int) 45 true kV rfl (by simp[Db];omega)<|G.cmpG .lss .u8 (n:Int) 48 false kV rfl (by simp[Db];omega)<|G.cmpG .gtr .u8 (n:Int) 57 false kV rfl (by simp[Db];omega)<|G.i i<|G.b (C (i+1) _ _ _ cV l2 ⟨oV,rfl⟩ oV)
 obtain rfl:i=s.length:=oV;exact G.lF s.length s.length<|G.hT s.length 1<|G.kT s.length 12<|G.z zT
def Ahn {p:Par}(h:PV p):zF 293 [Ap p] u fun v _=>v=zT:=by
 refine Fn0.o func293<|G.hT' p.1 (-1) (by have:=h.lo;omega) ?_;by_cases e:p.2 = []
 ·exact G.q p.2 [] e<|G.z zT
 refine G.w p.2 [] e<|G.c call218 (Asw (h.cat.resolve_left e)) ?_;rintro t m j rfl;exact G.z zT
def A0m (h:PV x.1)(e:Tx x.2)(h0:x.2≠0):zF 292 [Bt x] u fun v _=>v=zL:=by
 refine Fn0.o func292<|G.c call293 (Ahn h) ?_;rintro C m j rfl;refine G.c call294 (Aoz e h0) ?_;rintro E t l2 rfl;exact G.z zL
def A0u {x:(Par×Par)×Rat}(h:PV x.1.1)(j:PV x.1.2)(m:¬ 0<Bk x.1.1 x.1.2)(t:Tx x.2)(h0:x.2≠0):zF 296 [D8 x] u fun v _=>v=zL:=by
 refine Fn0.o func296<|G.c call293 (Ahn h) ?_;rintro L H C rfl;refine G.c call293 (Ahn j) ?_;rintro P I l2 rfl;refine G.c call127 (Re x.1.2 x.1.1 false (decide_eq_false fun e=>m ((Et.sym _ _).1 e))) ?_;rintro Q J E rfl;refine G.c call294 (Aoz t h0) ?_;rintro R K F rfl;exact G.z zL
def Ayf {x y:Par×Rat}(h:Bk x.1 y.1<0):zF 298 [Bt x,Bt y] u fun v _=>v=zT:=by
 refine Fn0.o func298<|G.c call127 (Re x.1 y.1 true (decide_eq_true h)) ?_;rintro m j e rfl;exact G.z zT
def Ax6 {x y:(Par×Par)×Rat}(h:Oc x.1 y.1<0):zF 300 [D8 x,D8 y] u fun v _=>v=zT:=by
 refine Fn0.o func300 ?_;by_cases j:Bk x.1.1 y.1.1<0
 ·refine G.c call127 (Re x.1.1 y.1.1 true (decide_eq_true j)) ?_;rintro F E C rfl;exact G.z zT
 have m:Bk x.1.1 y.1.1=0/\Bk x.1.2 y.1.2<0:=by
  unfold Oc at h;split at h
  ·exact absurd h j
  rename_i e;exact⟨by simpa using e,h⟩
 have t:=Et.eq _ _ m.1;refine G.c call127 (Re x.1.1 y.1.1 false (decide_eq_false j)) ?_;rintro F E C rfl;refine G.eqAgg 118 #[zI x.1.1.1,zS x.1.1.2] #[zI y.1.1.1,zS y.1.1.2] true kV kV kV (fun w=>by rw[<-decide_eq_true t];exact Bq.eq x.1.1 y.1.1 w)<|G.c call127 (Re x.1.2 y.1.2 true (decide_eq_true m.2)) ?_;rintro I H l2 rfl;exact G.z zT
theorem Atj {u:PH}{v:Value}{T:List (Par×Rat)}{fid:Nat}(h:Ac u v 3 (T.map Bt))(hl:T.length<=1000000)
 (hcall:∀ args w,(callFunc fid args).run prog w=.ok (.enter fid args) w) (hf:∀ p∈T,∀ u',PH.le u u'->zF fid [Bt p] u' fun v _=>v=zL) :
 zF 301 [v,.func (.func fid) #[] #[]] u fun v' _=>v'=zI (-1):=by
 obtain⟨a,c,rfl⟩:=h.opn;rw[A03]at h⊢;refine Fn0.o func301 ?_;refine G.l (ι:=Nat) (fun i=>[(0,sV a T.length c),(1,.v (.func (.func fid) #[] #[])),(7,iV T.length),(8,iV i)]) (fun _=>[])
  (fun i u' m'=>i<=T.length/\m'=PH.mt) (fun i=>T.length-i) 0 ⟨oV,rfl⟩ ?_
 rintro J i hJ u1 m1 l1 ⟨hi,rfl⟩;by_cases hlt:i<T.length
 ·refine G.lT (i:Int) (T.length:Int) ?_;have hTi:T[i]?=some T[i]:=A01 hlt;obtain⟨ba,oa,rfl,ea⟩:=Ac.at' (h.mono l1) (j:=i) (e:=Bt T[i]) (by simp[hTi]);refine G.a ba oa T.length c i 3 oV ?_;refine G.g (some 3) ea ?_;refine G.call0 fid [Bt T[i]] kV hcall (hf T[i] (A09 hlt) u1 l1) ?_;rintro v2 u2 l2 rfl;refine G.i i ?_;exact G.b (hJ (i+1) _ _ _ cV (l1.trans l2) ⟨oV,rfl⟩ oV)
 ·obtain rfl:i=T.length:=oV
  refine G.lF (T.length:Int) (T.length:Int) ?_;exact G.z (zI (-1))
def Aic {u:PH}{v:Value}{T:List (Par×Rat)}{fid:Nat}(h:Ac u v 3 (T.map Bt))(t:T.length<=1000000)
 (e:∀ args w,(callFunc fid args).run prog w=.ok (.enter fid args) w) (m:∀ p∈T,∀ j,PH.le u j->zF fid [Bt p] j fun v _=>v=zL) :
 zF 263 [v,.func (.func fid) #[] #[]] u fun C _=>C=zL:=by
 refine Fn0.o func263<|G.c call301 (Atj h t e m) ?_;rintro H F E rfl;exact G.hF (-1) 0<|G.z zL
def Agx {u:PH}{v:Value}{T:List (Par×Rat)}{fid:Nat}(h:Ac u v 3 (T.map Bt))(X:T.length<=1000000)
 (m:∀ args w,(callFunc fid args).run prog w=.ok (.enter fid args) w) (Q:∀ (i:Nat) x y,T[i]?=some x->T[i+1]?=some y->∀ H,zF fid [Bt x,Bt y] H fun v _=>v=zT) :
 zF 297 [v,.func (.func fid) #[] #[]] u fun V _=>V=zT:=by
 obtain⟨a,c,rfl⟩:=h.opn;rw[A03]at h⊢;refine Fn0.o func297<|G.l (ι:=Nat) (fun i=>[(0,sV a T.length c),(1,.v (.func (.func fid) #[] #[])),(5,iV (i+1:Nat))]) (fun _=>[])
  (fun i H R=>i<=T.length/\R=PH.mt) (fun i=>T.length-i) 0 ⟨oV,rfl⟩ ?_
 rintro J i P U Y F ⟨hi,rfl⟩;by_cases E:i+1<T.length
 ·refine G.lT (i+1:Nat) T.length ?_;have t:T[i]?=some T[i]:=A01 oV;have C:T[i+1]?=some T[i+1]:=A01 E;obtain⟨W,Z,rfl,K⟩:=Ac.at' (h.mono F) (j:=i) (e:=Bt T[i]) (by simp[t]);obtain⟨_,_,I,L⟩:=Ac.at' (h.mono F) (j:=i+1) (e:=Bt T[i+1]) (by simp[C]);cases I;refine G.s (i+1:Nat) 1 i<|G.n T.length c K<|G.n T.length c L<|G.call0 fid [Bt T[i],Bt T[i+1]] kV m (Q i _ _ t C U) ?_;rintro v2 u2 l2 rfl;exact G.p (i+1:Nat) 1 (i+1+1:Nat)<|G.b (P (i+1) _ _ _ cV (F.trans l2) ⟨oV,rfl⟩ oV)
 exact G.lF (i+1:Nat) T.length<|G.z zT
def Atx {u:PH}{v:Value}{T:List ((Par×Par)×Rat)}{fid:Nat}(h:Ac u v 5 (T.map D8))(U:T.length<=1000000)
 (m:∀ args w,(callFunc fid args).run prog w=.ok (.enter fid args) w) (K:∀ p∈T,∀ F,PH.le u F->zF fid [D8 p] F fun v _=>v=zL) :
 zF 322 [v,.func (.func fid) #[] #[]] u fun Q _=>Q=zI (-1):=by
 obtain⟨a,c,rfl⟩:=h.opn;rw[A03]at h⊢;refine Fn0.o func322<|G.l (ι:=Nat) (fun i=>[(0,sV a T.length c),(1,.v (.func (.func fid) #[] #[])),(7,iV T.length),(8,iV i)]) (fun _=>[])
  (fun i F L=>i<=T.length/\L=PH.mt) (fun i=>T.length-i) 0 ⟨oV,rfl⟩ ?_
 rintro J i I P V E ⟨hi,rfl⟩;by_cases t:i<T.length
 ·refine G.lT i T.length ?_;have C:T[i]?=some T[i]:=A01 t;obtain⟨R,W,rfl,H⟩:=Ac.at' (h.mono E) (j:=i) (e:=D8 T[i]) (by simp[C]);refine G.n T.length c H<|G.call0 fid [D8 T[i]] kV m (K T[i] (A09 t) P E) ?_;rintro Y X l2 rfl;exact G.i i<|G.b (I (i+1) _ _ _ cV (E.trans l2) ⟨oV,rfl⟩ oV)
 obtain rfl:i=T.length:=oV;exact G.lF T.length T.length<|G.z (zI (-1))
def Ahk {u:PH}{v:Value}{T:List ((Par×Par)×Rat)}{fid:Nat}(h:Ac u v 5 (T.map D8))(t:T.length<=1000000)
 (e:∀ args w,(callFunc fid args).run prog w=.ok (.enter fid args) w) (m:∀ p∈T,∀ j,PH.le u j->zF fid [D8 p] j fun v _=>v=zL) :
 zF 295 [v,.func (.func fid) #[] #[]] u fun C _=>C=zL:=by
 refine Fn0.o func295<|G.c call322 (Atx h t e m) ?_;rintro H F E rfl;exact G.hF (-1) 0<|G.z zL
def Aew {u:PH}{v:Value}{T:List ((Par×Par)×Rat)}{fid:Nat}(h:Ac u v 5 (T.map D8))(X:T.length<=1000000)
 (m:∀ args w,(callFunc fid args).run prog w=.ok (.enter fid args) w) (Q:∀ (i:Nat) x y,T[i]?=some x->T[i+1]?=some y->∀ H,zF fid [D8 x,D8 y] H fun v _=>v=zT) :
 zF 299 [v,.func (.func fid) #[] #[]] u fun V _=>V=zT:=by
 obtain⟨a,c,rfl⟩:=h.opn;rw[A03]at h⊢;refine Fn0.o func299<|G.l (ι:=Nat) (fun i=>[(0,sV a T.length c),(1,.v (.func (.func fid) #[] #[])),(5,iV (i+1:Nat))]) (fun _=>[])
  (fun i H R=>i<=T.length/\R=PH.mt) (fun i=>T.length-i) 0 ⟨oV,rfl⟩ ?_
 rintro J i P U Y F ⟨hi,rfl⟩;by_cases E:i+1<T.length
 ·refine G.lT (i+1:Nat) T.length ?_;have t:T[i]?=some T[i]:=A01 oV;have C:T[i+1]?=some T[i+1]:=A01 E;obtain⟨W,Z,rfl,K⟩:=Ac.at' (h.mono F) (j:=i) (e:=D8 T[i]) (by simp[t]);obtain⟨_,_,I,L⟩:=Ac.at' (h.mono F) (j:=i+1) (e:=D8 T[i+1]) (by simp[C]);cases I;refine G.s (i+1:Nat) 1 i<|G.n T.length c K<|G.n T.length c L<|G.call0 fid [D8 T[i],D8 T[i+1]] kV m (Q i _ _ t C U) ?_;rintro v2 u2 l2 rfl;exact G.p (i+1:Nat) 1 (i+1+1:Nat)<|G.b (P (i+1) _ _ _ cV (F.trans l2) ⟨oV,rfl⟩ oV)
 exact G.lF (i+1:Nat) T.length<|G.z zT
def Aad {κ:Type}{c:κ->κ->Int}{T:List (κ×Rat)}(h:Hb c (T.map (·.1))){x y:κ×Rat}(m:T[i]?=some x)(t:T[i+1]?=some y):c x.1 y.1<0:=by
 obtain⟨e,rfl⟩:=A05.1 m;obtain⟨j,rfl⟩:=A05.1 t;have:=A3n.1 h i (i+1) (by simpa using e) (by simpa using j) oV;simpa using this
def Ax1 {v:Value}{F:CF}{K:Nat}(V:No u v F K)(E:CFS F)(R:CFV F)(Y:K<=1000000):zF 262 [v] u fun X _=>X=zT:=by
 obtain⟨T,Q,a1,c1,a2,c2,rfl,hT,L,J,I,kT,Z⟩:=V;refine Fn0.o func262<|G.c call169 (Gu (SB.tx E.c)) ?_;rintro v1 u1 j rfl;refine G.c call263 (Aic (fid:=292) (hT.mono j) oV call292 (fun p hp H _=>by
  obtain⟨e,h⟩:=J.val p hp;exact A0m (R.s _ (by rw[<-e];exact h)) (SB.tx (by rw[e];exact E.s _)) h)) ?_
 rintro v2 u2 l2 rfl;refine G.c call295 (Ahk (fid:=296) (L.mono (j.trans l2)) oV call296 (fun p hp H _=>by
  obtain⟨e,h⟩:=I.val p hp;obtain⟨f1,f2,U⟩:=R.t p.1 (by rw[<-e];exact h);exact A0u f1 f2 U (SB.tx (by rw[e];exact E.t _)) h)) ?_
 rintro v3 u3 P rfl;refine G.c call297 (Agx (fid:=298) (hT.mono ((j.trans l2).trans P)) oV call298 (fun i x y m C H=>Ayf (Aad J.srt m C))) ?_;rintro v4 u4 W rfl;refine G.c call299 (Aew (fid:=300) (L.mono (((j.trans l2).trans P).trans W)) oV call300 (fun i x y m C H=>Ax6 (Aad I.srt m C))) ?_;rintro v5 u5 l5 rfl;exact G.z zT
end
section
section
variable {P:Program}
def Bfg {t:TypeId}(h:P.underlying t=some .string)(d:Nat)(s:zB)(w:World):(Op.equalIn (d+1) t (zS s) (zS s)).run P w=.ok true w:=by
 rw[run_equalIn_string w d _ _ _ h,Auf];simp
def Bf3 {t tp ti ts tr:TypeId}{k:IntKind}(m:(P.fieldsOf t).toList.map Abc = [(true,tp,0),(true,tr,2)])(L:P.underlying t=some (.struct (P.fieldsOf t)))(hp:P.stoodInHeld t=false)
 (u:(P.fieldsOf tp).toList.map Abc = [(true,ti,0),(true,ts,1)]) (j:P.underlying tp=some (.struct (P.fieldsOf tp))) (E:P.stoodInHeld tp=false) (h:szB P tp=some 2) (hi:P.underlying ti=some (.int k)) (K:P.underlying ts=some .string) (F:P.underlying tr=some .string) (d:Nat) (x:Par×Rat) (w:World) :
 (Op.equalIn (d+3) t (Bt x) (Bt x)).run P w=.ok true w:=by
 have e:Qj P tp=some true:=by unfold Qj;rw[j]
 unfold Bt;rw[run_equalIn_struct w (d+2) t _ _ L hp];generalize (P.fieldsOf t).toList=fs at m;obtain⟨f,g,C⟩:=Akl m;subst C;simp only[A2u,A7m,A3g,Abc,A2i,bne_iff_ne,ne_eq,and_true]at m;obtain⟨⟨n1,I,Q⟩,n2,J,R⟩:=m;obtain⟨⟨a1,a2⟩,a3⟩:=x;simp only[Op.eqFields,ne_eq,n1,n2,not_false_eq_true,if_true,Sem.run_bind,I,J,Q,R];rw[Jq e h,Result.andThen_ok,Jq e h,Result.andThen_ok];have H:=Qn u j E hi K d (a1,a2) (a1,a2) w;unfold Ap at H;have T:(#[Value.int .i64 a1,zS a2,zS (Ae a3)].extract 0 (0+2)) = #[zI a1,zS a2]:=rfl;simp only[T,H,Result.andThen_ok,decide_true,A72,A4z,if_false,Sem.run_bind];rw[Jh (Qc F) (v:=zS (Ae a3)) rfl,Result.andThen_ok,Jh (Qc F) (v:=zS (Ae a3)) rfl,Result.andThen_ok,Bfg F];simp
end
def Bgh (x:Par×Rat)(w:World):(Op.equal 162 (Bt x) (Bt x)).run prog w=.ok true w :=
 Bf3 (P:=prog) (t:=162) (tp:=118) (ti:=3) (ts:=9) (tr:=34) (k:=.i64) kV kV kV kV kV kV kV kV kV kV 9997 x w
def Azl (u:PH)(v:Value)(F:CF)(K:Nat):Prop:=∃ r,v=.tuple #[r,zO]/\No u r F K
def No.opn {u:PH}{v:Value}{F:CF}{K:Nat}(h:No u v F K):∃ a1 n1 c1 a2 n2 c2,v=.agg #[zS (Ae F.c),.slice a1 n1 c1,.slice a2 n2 c2]:=by
 obtain⟨T,Q,a1,c1,a2,c2,rfl,_⟩:=h;exact⟨_,_,_,_,_,_,rfl⟩
def CF.num (k:Rat):CF:=⟨k,fun _=>0,fun _=>0⟩
end
section
variable {b c n:Nat}{x:zB}
section rules
variable [Cl] {P:Program} [A6 P] {fn:Func} {Post:Ce} {st:List KI×S} {u m:PH}
def FnK (P:Program)(f:FuncId)(args:zV)(u m:PH)(R:Value->PH->Prop):Prop:=Ag P f args u m fun v u' m'=>m'=m/\R v u'
def FnK.of {R:Value->PH->Prop}{f:FuncId}{args:zV}(j:P.funcs[f]?=some fn)(e:fn.body.isSome=true)(t:Nat.ble args.length fn.ntmps=true)(h:G P fn ⟨fun v E C=>C=m/\R v E,m⟩ (st0 fn args) u m):FnK P f args u m R:=Ag.of j e t h
def G.callK (f:Nat)(args:zV){R:Value->PH->Prop}(h:Aj P (adv P st)=.call f args)(W:∀ args w,(callFunc f args).run P w=.ok (.enter f args) w)(c:FnK P f args u m R)
 (k:∀ v j,PH.le u j->R v j->G P fn Post (nx (adv P st) v) j m):G P fn Post st u m:=by
 refine G.big (K:=fun v j C=>C=m/\R v j) h mV Dv (.inl fun v j C U=>by rw[U.1];exact fun g o Y=>Y) (fun L o t w E=>?_) (fun v j C Q T=>?_)
 ·refine Hq t W w _ (Calls.mono (c w E) fun e w' X=>?_);obtain⟨v,j,C,F,H,I,J⟩:=X;exact⟨v,F,j,C,H,I,J⟩
 obtain⟨rfl,V⟩:=T;exact k v j Q V
end rules
section
def Av8 {u m:PH}(L:zW)(Q:n<=L.length)(K:n<=1000000)(C:∀ j s,L[j]?=some s->ElP m b (0+j*1) (zS s))(F:∀ j s,j<n->L[j]?=some s->s≠x) :
 FnK prog 291 [zG b n c,zS x] u m fun v _=>v=zI (-1):=by
 refine FnK.of func291 kV kV<|G.l (ι:=Nat) (fun i=>[(0,sV (zA b) n c),(1,tV x),(7,iV n),(8,iV i)]) (fun _=>[])
  (fun i T I=>i<=n/\I=m) (fun i=>n-i) 0 ⟨oV,rfl⟩ ?_
 rintro J i E U R H ⟨hi,rfl⟩;by_cases t:i<n
 ·refine G.lT i n ?_;have h:L[i]?=some L[i]:=A01 oV;exact G.O n c t (C i _ h)<|G.w x L[i] (fun e=>F i _ t h e.symm)<|G.i i<|G.b (E (i+1) _ _ _ cV H ⟨oV,rfl⟩ oV)
 obtain rfl:i=n:=oV;exact G.lF i i<|G.z (zI (-1))
def Aiw {u m:PH}(L:zW)(t:n<=L.length)(h:n<=1000000)(e:∀ j s,L[j]?=some s->ElP m b (0+j*1) (zS s))(C:∀ j s,j<n->L[j]?=some s->s≠x) :
 FnK prog 259 [zG b n c,zS x] u m fun v _=>v=zL:=by
 refine FnK.of func259 kV kV<|G.callK _ _ kV call291 (Av8 (c:=c) L t h e C) ?_;rintro H F E rfl;exact G.hF (-1) 0<|G.z zL
structure Rc (L:zW):Prop where
 word:∀ s∈L,Hn s=true
 nodup:L.Nodup
def Aqj {u m:PH}{b k c:Nat}{L:zW}(h:Rc L)(R:L.length<=1000)(K:L.length<=c)(C:L[k]?=some x)(E:∀ j s,L[j]?=some s->ElP m b (0+j*1) (zS s)) :
 FnK prog 224 [zG b L.length c,zI k] u m fun v _=>v=zO:=by
 obtain⟨t,I⟩:=A05.1 C;refine FnK.of func224 kV kV<|G.O L.length c t (E k x C)<|G.c call218 (Asw (h.word x (A1k C))) ?_;rintro W U T rfl;refine G.sliceTo 1 (zA b) L.length c k kV oV<|G.O L.length c t (E k x C)<|G.callK _ _ kV call259 (Aiw (n:=k) (c:=c) (x:=x) L oV oV E fun j s Q J e=>?_) ?_
 ·obtain⟨F,H⟩:=A05.1 J;have:=(A9e (h₀:=F) (h₁:=t) h.nodup).1 (by rw[H,I,e]);omega
 rintro X V l2 rfl;exact G.z zO
def D9 (a:zB×Nat):Value:=.agg #[zS a.1,zI a.2]
def nmV (s:zB):Value:=zS s
def G6 (L:zW):A9 1 (L.map nmV):=by
 intro e h;obtain⟨s,_,rfl⟩:=A1b.1 h;exact⟨rfl,A1o.1 rfl⟩
end
end
structure Aq4 (T:zC):Prop where
 names:Rc (T.map (·.1))
 kind:∀ a∈T,1<=a.2/\a.2<=3
def Rc.take {L:zW}(h:Rc L)(k:Nat):Rc (L.take k):=⟨fun s e=>h.word s (A27 e),h.nodup.sublist (List.take_sublist _ _)⟩
def getElem?_snoc_last {α:Type}(l:List α)(x:α):(l++[x])[l.length]?=some x:=mV
def Ae5 {u:PH}{v w x y:Value}{T:zC}(h:Ac u v 2 (T.map D9))(ok:Aq4 T)(hl:T.length<=1000)(Y:∃ a n c,w=.slice a n c)(Z:∃ a n c,x=.slice a n c)(hy:∃ z:Int,y=zI z) :
 zF 172 [.agg #[v,w,x,y]] u fun r _=>r=zO:=by
 obtain⟨a,c,rfl⟩:=h.opn;obtain⟨wa,wn,wc,rfl⟩:=Y;obtain⟨xa,xn,xc,rfl⟩:=Z;obtain⟨z,rfl⟩:=hy;rw[A03]at h⊢;refine Fn0.o func172<|G.l (ι:=Nat×(zP×Nat×Nat)) (fun i=>[(3,sV i.2.1 i.2.2.1 i.2.2.2),(8,sV a T.length c),(9,iV T.length),(10,iV i.1)]) (fun _=>[])
  (fun i u' m'=>i.1<=T.length/\Af PH.mt m' (.slice i.2.1 i.2.2.1 i.2.2.2) 9 1 (((T.map (·.1)).take i.1).map nmV)) (fun i=>T.length-i.1) (0,(none,0,0)) ⟨mV,Af.nil _ _ _⟩ ?_
 rintro J ⟨i,na,nn,nc⟩ U u1 m1 V ⟨hi,K⟩;simp only at hi K U;by_cases H:i<T.length
 ·refine G.lT i T.length ?_;have I:T[i]?=some T[i]:=A01 H;have P:=ok.kind T[i] (A09 H);have C:((T.map (·.1)).take (i+1))=(T.map (·.1)).take i++[T[i].1]:=by
   rw[A1n,A1a,I];rfl
  have m:=ok.names.take (i+1);rw[C]at m;have F:((T.map (·.1)).take i).length=i:=gV;generalize hL:(T.map (·.1)).take i=L at K C m F;obtain⟨ba,oa,rfl,R⟩:=Ac.at' (h.mono V) (j:=i) (e:=D9 T[i]) (by simp[I]);generalize T[i]=q at R P C m;refine G.N T.length c H R<|G.B 9 1 16 zE [zS q.1] (G6 [q.1]) ?_;intro g2 u2 l2 W;refine G.k 9 1 16 zE PH.mt (L.map nmV) [zS q.1] (.slice na nn nc) g2 0 1 1 K W (G6 [q.1]) ?_;intro v3 m3 t;rw[show L.map nmV++[zS q.1]=(L++[q.1]).map nmV by rw[A1i];rfl]at t;obtain⟨Q,c3,rfl⟩:=t.ptr mV;have E:=t.cap;rw[A03]at t E⊢;refine G.callK _ _ kV call224 (Aqj (b:=Q) (k:=i) (c:=c3) (x:=q.1) (L:=L++[q.1]) m gV E (by rw[<-F];exact getElem?_snoc_last L q.1) fun j s X=>t.el (by rw[A1a,X];rfl)) ?_;rintro v4 u4 l4 rfl;exact G.nF 0 0<|G.lF q.2 1<|G.gF q.2 3<|G.i i<|G.b (U (i+1,(some ⟨Q,0,none⟩,(L++[q.1]).length,c3)) _ _ _ cV ((V.trans l2).trans l4) ⟨dV,by dsimp only;rw[C];exact t⟩ dV)
 obtain rfl:i=T.length:=oV;exact G.lF T.length T.length<|G.pastI<|G.drop PH.mt kV (PH.mt_le _)<|G.z zO
section
variable {α:Type}
abbrev Al:Type:=Nat×Nat×Nat
def Cm (f:Al):Value:=.agg #[zI f.1,zI f.2.1,zI f.2.2]
def Ad1 {α:Type}(p:α->Bool)(T:List α):Int:=match T.findIdx? p with|some k=>(k:Int)|none=>-1
def Av0 {p:α->Bool}{T:List α}{i:Nat}(hi:i<T.length)(h:p T[i]=true)(h0:∀ j (e:j<i),p (T[j]'oV)=false):Ad1 p T=(i:Int):=by
 have:T.findIdx? p=some i:=A52.2 ⟨hi,h,fun j e=>by simp[h0 j e]⟩;unfold Ad1;rw[this]
def Abp {p:α->Bool}{T:List α}(h0:∀ x∈T,p x=false):Ad1 p T = -1:=by
 have:T.findIdx? p=none:=List.findIdx?_eq_none_iff.2 h0;unfold Ad1;rw[this]
def Alt {u m:PH}{v cap:Value}{T:List Al}{fid:Nat}(p:Al->Bool)(h:Ac u v 3 (T.map Cm))(X:T.length<=1000000)
 (C:∀ args w,(callFunc fid args).run prog w=.ok (.enter fid args) w) (P:∀ f∈T,∀ I,PH.le u I->FnK prog fid [Cm f,cap] I m fun v _=>v=.bool (p f)) :
 FnK prog 219 [v,.func (.func fid) #[] #[cap]] u m fun V _=>V=zI (Ad1 p T):=by
 obtain⟨a,c,rfl⟩:=h.opn;rw[A03]at h⊢;refine FnK.of func219 kV kV<|G.l (ι:=Nat) (fun i=>[(0,sV a T.length c),(1,.v (.func (.func fid) #[] #[cap])),(7,iV T.length),(8,iV i)]) (fun _=>[])
  (fun i I R=>i<=T.length/\(∀ j (t:j<T.length),j<i->p (T[j]'t)=false)/\R=m) (fun i=>T.length-i) 0 ⟨oV,fun j t h=>oV,rfl⟩ ?_
 rintro J i L U Y H ⟨hi,h0,rfl⟩;by_cases E:i<T.length
 ·refine G.lT i T.length ?_;have F:T[i]?=some T[i]:=A01 E;obtain⟨W,Z,rfl,K⟩:=Ac.at' (h.mono H) (j:=i) (e:=Cm T[i]) (by simp[F]);refine G.n T.length c K<|G.callK fid [Cm T[i],cap] kV C (P T[i] (A09 E) U H) ?_;rintro v2 u2 l2 rfl;cases hp:p T[i] with
  |true =>
   rw[Av0 E hp fun j t=>h0 j oV t];exact G.z (zI i)
  |false =>
   refine G.i i ?_;exact G.b (L (i+1) _ _ _ cV (H.trans l2) ⟨oV,fun j t h=>by
    rcases (by omega:j<i\/j=i) with e|rfl
    ·exact h0 j t e
    exact hp,rfl⟩ oV)
 obtain rfl:i=T.length:=oV;refine G.lF T.length T.length ?_;rw[Abp fun x Q=>by obtain⟨j,t,rfl⟩:=A2y Q;exact h0 j t t];exact G.z (zI (-1))
def Mu {u m:PH}{v cap:Value}{T:List Al}{fid:Nat}(h:Ac u v 3 (T.map Cm))(C:T.length<=1000000)
 (e:∀ args w,(callFunc fid args).run prog w=.ok (.enter fid args) w) (t:∀ f∈T,∀ j,PH.le u j->FnK prog fid [Cm f,cap] j m fun v _=>v=zL) :
 FnK prog 159 [v,.func (.func fid) #[] #[cap]] u m fun E _=>E=zL:=by
 obtain⟨a,c,rfl⟩:=h.opn;refine FnK.of func159 kV kV<|G.callK _ _ kV call219 (Alt (cap:=cap) (fun _=>false) h C e t) ?_;rintro I H F rfl;rw[Abp fun x _=>rfl];exact G.hF (-1) 0<|G.z zL
def Y2 {u m:PH}{f g:Al}{b:Nat}(h:ElP m b 0 (Cm g))(j:f.1≠g.1):FnK prog 226 [Cm f,.pointer (some ⟨b,0,none⟩)] u m fun v _=>v=.bool false:=by
 refine FnK.of func226 kV kV<|G.f 100 b 0 0 0<|G.lM none b (0+0) (.int .i64 g.1) (fun i x e=>?_) ?_
 ·have:i=0/\x=.int .i64 g.1:=by
   match i,e with
   |0,e=>exact⟨rfl,by simpa[Value.cells] using e.symm⟩
   |i+1,e=>simp[Value.cells]at e
  obtain⟨rfl,rfl⟩:=this;exact h 0 _ rfl
 exact G.eF f.1 g.1<|G.z (.bool false)
structure Da (T:zC)(F:List Al)(lab:Int):Prop where
 ok:∀ f∈F,∃ n k,T[f.1]?=some (n,k)/\((f.2.1=1/\k=2/\f.2.2<=1)\/(f.2.1=2/\k=3/\f.2.2=0))/\(f.1:Int)≠lab
 nodup:(F.map (·.1)).Nodup
end
section
variable {b:Nat}{m u:PH}
def Ac.cap {a:zP}{n c sz:Nat}{es:zV}(h:Ac u (.slice a n c) sz es):es.length<=c:=by
 obtain⟨_,_,e,j,_⟩:=h;cases e;exact j
def L9 {b off:Nat}{q:zB×Nat}(h:ElP u b off (D9 q)):ElP u b (off+1) (zI q.2):=fun i x e=>by
 match i,e with
 |0,e =>
  have:x=zI q.2:=by simpa[Value.cells] using e.symm
  subst this;exact h 1 _ rfl
 |i+1,e=>simp[Value.cells]at e
def Ph {t:TypeId}{xs:zV}{e:Value}(j:e.cells=xs.toArray):ElP (m.upd b (.cells xs.toArray t (0,0))) b 0 e:=fun i x h=>by
 refine⟨_,_,_,Ab _ _ _,?_⟩;rw[j]at h;simpa using h
def Ahq {g:Al}(h:ElP m b 0 (Cm g)):ElP m b (0+0) (zI g.1):=fun i x e=>by
 match i,e with
 |0,e =>
  have:x=zI g.1:=by simpa[Value.cells] using e.symm
  subst this;exact h 0 _ rfl
 |i+1,e=>simp[Value.cells]at e
def Aon {v w x:Value}{T:zC}{F:List Al}{lab:Int}(h:Ac u v 2 (T.map D9))(hF:Ac u x 3 (F.map Cm))(ok:Da T F lab)(hl:T.length<=1000)(a2:F.length<=1000)(hw:∃ a n c,w=.slice a n c) :
 zF 174 [.agg #[v,w,x,zI lab]] u fun r _=>r=zO:=by
 obtain⟨a,c,rfl⟩:=h.opn;obtain⟨a',L,rfl⟩:=hF.opn;obtain⟨wa,wn,wc,rfl⟩:=hw;have R:=hF.cap;rw[A03]at h hF R⊢;rw[A03];refine Fn0.o func174<|G.l (ι:=Nat) (fun i=>[(1,.p 0 0),(9,sV a' F.length L),(10,iV F.length),(11,iV i)]) (fun _=>[(0,⟨30,[sV a T.length c,sV wa wn wc,sV a' F.length L,iV lab]⟩)])
  (fun i u' m'=>i<=F.length/\m'=PH.mt) (fun i=>F.length-i) 0 ⟨oV,rfl⟩ ?_
 rintro J i X u1 m1 P ⟨hi,rfl⟩;by_cases K:i<F.length
 ·refine G.lT i F.length ?_;have Y:F[i]?=some F[i]:=A01 K;obtain⟨n,k,Z,H,C⟩:=ok.ok F[i] (A09 K);have t:∀ f∈F.take i,f.1≠(F[i]).1:=by
   intro f hf;obtain⟨j,hj,rfl⟩:=A2y hf;rw[A1e]at hj;rw[A7w];intro e;have:=(A9e (xs:=F.map (·.1)) (h₀:=by rw[A03];omega) (h₁:=by rw[A03];omega) (i:=j) (j:=i) ok.nodup).1 (by rw[A3v,A3v];exact e);omega
  obtain⟨W,oa,rfl,ea⟩:=Ac.at' (hF.mono P) (j:=i) (e:=Cm F[i]) (by simp[Y]);have I:=(hF.mono P).take' i (by rw[A03];omega);rw[<-A5g]at I;have a3:(F.take i).length=i:=by rw[A1e];omega
  generalize F[i]=f at ea Z H C t;obtain⟨a0,a1⟩:=A05.1 Z;obtain⟨bb,ob,rfl,eb⟩:=Ac.at' (h.mono P) (j:=f.1) (e:=D9 (n,k)) (by simp[Z]);refine G.N F.length L K ea<|G.lF f.1 0<|G.hF f.1 T.length<|G.a bb ob T.length c f.1 2 a0<|G.f 96 bb (ob+f.1*2) 1 1<|G.g none (L9 eb) ?_;rcases H with ⟨k1,k2,k3⟩|⟨k1,k2,k3⟩
  ·refine G.eT f.2.1 1<|G.eT k 2 ?_;by_cases k0:f.2.2=0
   ·refine G.eT f.2.2 0<|G.eF f.2.1 2<|G.pastI<|G.pub 3003 100 [zI f.1,zI f.2.1,zI f.2.2] kV kV ?_;intro Q V U;refine G.f 100 Q 0 0 0<|G.v none (Ahq (g:=f) (Ph rfl))<|G.eF' f.1 lab C<|G.sliceTo 3 (some ⟨W,oa,none⟩) F.length L i kV oV<|G.callK _ _ kV call159 (Mu I (by rw[A1e];omega) call226 fun f' E u' _=>Y2 (g:=f) (Ph rfl) (t f' E)) ?_;rintro v2 u2 l2 rfl;exact G.drop PH.mt kV (PH.mt_le _)<|G.i i<|G.b (X (i+1) _ _ _ cV (P.trans l2) ⟨oV,rfl⟩ oV)
   refine G.eF f.2.2 0<|G.eT f.2.2 1<|G.eF f.2.1 2<|G.pastI<|G.pub 3003 100 [zI f.1,zI f.2.1,zI f.2.2] kV kV ?_;intro Q V U;refine G.f 100 Q 0 0 0<|G.v none (Ahq (g:=f) (Ph rfl))<|G.eF' f.1 lab C<|G.sliceTo 3 (some ⟨W,oa,none⟩) F.length L i kV oV<|G.callK _ _ kV call159 (Mu I (by rw[A1e];omega) call226 fun f' E u' _=>Y2 (g:=f) (Ph rfl) (t f' E)) ?_;rintro v2 u2 l2 rfl;exact G.drop PH.mt kV (PH.mt_le _)<|G.i i<|G.b (X (i+1) _ _ _ cV (P.trans l2) ⟨oV,rfl⟩ oV)
  refine G.eF f.2.1 1<|G.eT f.2.1 2<|G.eT k 3<|G.eT f.2.2 0<|G.pastI<|G.pub 3003 100 [zI f.1,zI f.2.1,zI f.2.2] kV kV ?_;intro Q V U;refine G.f 100 Q 0 0 0<|G.v none (Ahq (g:=f) (Ph rfl))<|G.eF' f.1 lab C<|G.sliceTo 3 (some ⟨W,oa,none⟩) F.length L i kV oV<|G.callK _ _ kV call159 (Mu I (by rw[A1e];omega) call226 fun f' E u' _=>Y2 (g:=f) (Ph rfl) (t f' E)) ?_;rintro v2 u2 l2 rfl;exact G.drop PH.mt kV (PH.mt_le _)<|G.i i<|G.b (X (i+1) _ _ _ cV (P.trans l2) ⟨oV,rfl⟩ oV)
 obtain rfl:i=F.length:=oV;exact G.lF F.length F.length<|G.z zO
end
section
variable {L:List Bool}{b c n:Nat}{m m0 u:PH}
def Awk (K:n=L.length)(I:n<=1000000)(t:∀ (j:Nat) s,L[j]?=some s->ElP m b (0+j*1) (.bool s))(E:∀ s∈L,s=true) :
 FnK prog 260 [zG b n c,zL] u m fun v _=>v=zI (-1):=by
 refine FnK.of func260 kV kV<|G.l (ι:=Nat) (fun i=>[(0,sV (zA b) n c),(1,bF),(7,iV n),(8,iV i)]) (fun _=>[])
  (fun i Q H=>i<=n/\H=m) (fun i=>n-i) 0 ⟨oV,rfl⟩ ?_
 rintro J i C R P F ⟨hi,rfl⟩;by_cases h:i<n
 ·refine G.lT i n ?_;have e:L[i]?=some true:=by
   rw[A01 oV];exact congrArg some (E _ (A09 oV))
  exact G.O n c h (t i _ e)<|G.eqB false true kV<|G.i i<|G.b (C (i+1) _ _ _ cV F ⟨oV,rfl⟩ oV)
 obtain rfl:i=n:=oV;exact G.lF i i<|G.z (zI (-1))
def Aiq (t:n=L.length)(h:n<=1000000)(e:∀ (j:Nat) s,L[j]?=some s->ElP m b (0+j*1) (.bool s))(C:∀ s∈L,s=true) :
 FnK prog 225 [zG b n c,zL] u m fun v _=>v=zL:=by
 refine FnK.of func225 kV kV<|G.callK _ _ kV call260 (Awk (c:=c) (L:=L) t h e C) ?_;rintro H F E rfl;exact G.hF (-1) 0<|G.z zL
abbrev Br:Type:=zB×zK×(zP×Nat)
def Hs (r:Br):Value:=.agg #[zS r.1,.slice r.2.2.1 r.2.1.length r.2.2.2]
structure Py (u:PH)(n:Nat)(R:List Br):Prop where
 names:Rc (R.map (·.1))
 ne:∀ r∈R,r.2.1≠[]
 lt:∀ r∈R,∀ a∈r.2.1,a<n
 len:∀ r∈R,r.2.1.length<=1000
 asc:∀ r∈R,∀ (k:Nat) x y,r.2.1[k]?=some x->r.2.1[k+1]?=some y->x<y
 all:∀ a<n,∃ r∈R,a∈r.2.1
 at':∀ r∈R,Ac u (.slice r.2.2.1 r.2.1.length r.2.2.2) 1 (Ai r.2.1)
def Aqk (g n:Nat)(L:List Bool):Arr:=⟨zG g n n,4,1,L.map .bool⟩
def Ajq (a:zP)(c:Nat)(L:zW):Arr:=⟨.slice a L.length c,9,1,L.map nmV⟩
def Ak5 {g n:Nat}:(Aqk g n L).At m0 m=Af m0 m (zG g n n) 4 1 (L.map .bool):=rfl
def Ak3 {a:zP}{L:zW}:(Ajq a c L).At m0 m=Af m0 m (.slice a L.length c) 9 1 (L.map nmV):=rfl
def Sd (L:List Bool)(a:Nat):(L.map Value.bool).set a zT=(L.set a true).map Value.bool:=by rw[A2g]
def Aha {w x y:Value}{a0:zP}{n c0:Nat}{R:List Br}(hR:Ac u w 2 (R.map Hs))(ok:Py u n R)(hn:n<=1000)(ay:0<n)(hl:R.length<=1000)(hx:∃ a n c,x=.slice a n c)(hy:∃ z:Int,y=zI z) :
 zF 173 [.agg #[.slice a0 n c0,w,x,y]] u fun r _=>r=zO:=by
 obtain⟨a,c,rfl⟩:=hR.opn;obtain⟨xa,xn,xc,rfl⟩:=hx;obtain⟨z,rfl⟩:=hy;rw[A03]at hR⊢;refine Fn0.o func173<|G.make 4 1 1 zL n kV rfl rfl oV oV oV ?_;rintro v1 m1 ag ⟨ad,rfl⟩;obtain⟨g,rfl,_⟩:=ag.some';refine G.l (ι:=Nat×List Bool×zW×(zP×Nat)) (fun i=>[(3,sV i.2.2.2.1 i.2.2.1.length i.2.2.2.2),(4,sV (zA g) n n),(16,sV a R.length c),(17,iV R.length),(18,iV i.1)]) (fun _=>[])
  (fun i u' m'=>i.1<=R.length/\i.2.1.length=n/\i.2.2.1=(R.map (·.1)).take i.1/\(∀ r∈R.take i.1,∀ q∈r.2.1,i.2.1[q]?=some true)/\Bag m' [Aqk g n i.2.1,Ajq i.2.2.2.1 i.2.2.2.2 i.2.2.1]) (fun i=>R.length-i.1) (0,List.replicate n false,[],(none,0))
  ⟨mV,mV,mV,mV,⟨PH.mt,by rw[Ak5,A8z];exact ag,PH.mt,Af.nil _ _ _,trivial⟩⟩ ?_
 rintro J ⟨i,L,N,⟨na,nc⟩⟩ hJ u2 m2 l2 ⟨hi,hL,hN,Q,T⟩;simp only at hi hL hN Q T hJ;by_cases aa:i<R.length
 ·refine G.lT i R.length ?_;have a9:R[i]?=some R[i]:=A01 aa;have C:R[i]∈R:=A09 aa;have a2:(R.map (·.1)).take (i+1)=N++[R[i].1]:=by
   rw[A1n,A1a,a9,hN];rfl
  have a6:R.take (i+1)=R.take i++[R[i]]:=by
   rw[A1n,a9];rfl
  have t:=ok.names.take (i+1);rw[a2]at t;have ak:N.length=i:=by rw[hN];simp;omega
  obtain⟨ba,oa,rfl,ea⟩:=Ac.at' (hR.mono l2) (j:=i) (e:=Hs R[i]) (by simp[a9]);generalize R[i]=q at ea C a2 a6 t;obtain⟨U,h,qa,qc⟩:=q;have av:h≠[]:=ok.ne _ C;have al:∀ p∈h,p<n:=ok.lt _ C;have b0:h.length<=1000:=ok.len _ C;have aj:∀ (k:Nat) x y,h[k]?=some x->h[k+1]?=some y->x<y:=ok.asc _ C;have ap:Ac u2 (.slice qa h.length qc) 1 (Ai h):=(ok.at' _ C).mono l2;have az:0<h.length:=A4f.2 av;simp only at a2 t;refine G.N R.length c aa ea<|G.B 9 1 16 zE [zS U] (G6 [U]) ?_;intro g3 u3 l3 e3;obtain⟨mm,ac,a5⟩:=T.focus 1 rfl;rw[Ak3]at ac;refine G.k 9 1 16 zE mm (N.map nmV) [zS U] (.slice na N.length nc) g3 0 1 1 ac e3 (G6 [U]) ?_;intro v4 m4 F;rw[show N.map nmV++[zS U]=(N++[U]).map nmV by rw[A1i];rfl]at F;obtain⟨b4,c4,rfl⟩:=F.ptr mV;have W:=F.cap;rw[A03]at F W⊢;have I:=a5 (Ajq (zA b4) c4 (N++[U])) m4 F;simp only[A2j,A2p]at I;refine G.callK _ _ kV call224 (Aqj (b:=b4) (k:=i) (c:=c4) (x:=U) (L:=N++[U]) t gV W (by rw[<-ak];exact getElem?_snoc_last N U) fun j s hs=>F.el (by rw[A1a,hs];rfl)) ?_;rintro v5 u5 l5 rfl;refine G.nF 0 0<|G.eF h.length 0 ?_;generalize N++[U]=N' at I a2;clear F a5 ac T W t;have ax:∀ p∈h,p<n:=al;refine G.l (ι:=Nat×List Bool) (fun j=>[(3,sV (zA b4) N'.length c4),(4,sV (zA g) n n),(6,.p 5003 0),(16,sV (some ⟨ba,oa,none⟩) R.length c),(17,iV R.length),(18,iV i),(39,sV qa h.length qc),(40,iV h.length),(41,iV j.1)])
   (fun _=>[(5003,⟨98,[tV U,sV qa h.length qc]⟩)])
   (fun j u' m'=>j.1<=h.length/\j.2.length=n/\(∀ r∈R.take i,∀ q∈r.2.1,j.2[q]?=some true)/\(∀ q∈h.take j.1,j.2[q]?=some true)/\Bag m' [Aqk g n j.2,Ajq (zA b4) c4 N']) (fun j=>h.length-j.1) (0,L)
   ⟨mV,hL,Q,mV,I⟩ ?_
  rintro J2 ⟨j,L2⟩ ai u6 m6 l6 ⟨hj,a8,H,E,K⟩;simp only at hj a8 H E K ai;have Z:=ap.mono ((l3.trans l5).trans l6);by_cases Y:j<h.length
  ·refine G.lT j h.length ?_;have aq:h[j]?=some h[j]:=A01 Y;have am:h[j]<n:=al _ (A09 Y);have a7:h.take (j+1)=h.take j++[h[j]]:=by rw[A1n,aq];rfl
   obtain⟨bq,oq,rfl,eq⟩:=Ac.at' Z (j:=j) (e:=zI (h[j]:Int)) (by simp[Ai,aq]);generalize h[j]=p at eq am a7;refine G.N h.length qc Y eq<|G.lF p 0<|G.hF p n<|G.a g 0 n n p 1 am ?_;obtain⟨aw,ar,ab⟩:=K.focus 0 rfl;rw[Ak5]at ar;refine G.storeA 1 aw (L2.map Value.bool) g n n p zT kV ar (by rw[A03];omega) rfl rfl ?_;intro m7 ah;rw[Sd]at ah;have V:=ab (Aqk g n (L2.set p true)) m7 ah;simp only[A2p]at V;refine G.i j ?_;have X:∀ q,L2[q]?=some true->(L2.set p true)[q]?=some true:=fun q P=>by
    rw[A1z];split
    ·subst_vars;rw[if_pos oV]
    exact P
   exact G.b (ai (j+1,L2.set p true) _ _ _ cV l6 ⟨dV,by simp[a8],fun r hr q P=>X q (H r hr q P),by
    intro q P;dsimp only at P⊢;rw[a7,A1h,A12]at P;rcases P with P|rfl
    ·exact X q (E q P)
    rw[A1z];simp;omega,V⟩ dV)
  obtain rfl:j=h.length:=oV;refine G.lF h.length h.length ?_;rw[A15]at E;refine G.l (ι:=Nat) (fun k=>[(3,sV (zA b4) N'.length c4),(4,sV (zA g) n n),(6,.p 5003 0),(10,iV (k+1:Nat)),(16,sV (some ⟨ba,oa,none⟩) R.length c),(17,iV R.length),(18,iV i)])
   (fun _=>[(5003,⟨98,[tV U,sV qa h.length qc]⟩)])
   (fun k u' m'=>k+1<=h.length/\m'=m6) (fun k=>h.length-k) 0
   ⟨oV,rfl⟩ ?_
  rintro J3 k au u8 m8 l8 ⟨hk,rfl⟩;have a1:=Z.mono l8;by_cases a4:k+1<h.length
  ·refine G.lT (k+1:Nat) h.length ?_;have an:h[k]?=some h[k]:=A01 oV;have ao:h[k+1]?=some h[k+1]:=A01 a4;have a3:=aj k _ _ an ao;obtain⟨bq,oq,rfl,af⟩:=Ac.at' a1 (j:=k+1) (e:=zI (h[k+1]:Int)) (by simp[Ai,ao]);obtain⟨_,_,e',ae⟩:=Ac.at' a1 (j:=k) (e:=zI (h[k]:Int)) (by simp[Ai,an]);cases e';generalize h[k]=p1 at ae a3;generalize h[k+1]=p2 at af a3;exact G.N h.length qc a4 af<|G.s (k+1:Nat) 1 k<|G.n h.length qc ae<|G.kF p2 p1<|G.p (k+1:Nat) 1 (k+1+1:Nat)<|G.b (au (k+1) _ _ _ cV l8 ⟨oV,rfl⟩ oV)
  refine G.lF (k+1:Nat) h.length<|G.i i ?_;exact G.b (hJ (i+1,L2,N',(some ⟨b4,0,none⟩,c4)) _ _ _ cV ((((l2.trans l3).trans l5).trans l6).trans l8) ⟨dV,a8,a2.symm,by
   intro r hr q P;dsimp only at hr P⊢;rw[a6,A1h,A12]at hr;rcases hr with hr|rfl
   ·exact H r hr q P
   exact E q P,K⟩ dV)
 obtain rfl:i=R.length:=oV;refine G.lF R.length R.length ?_;rw[A15]at Q;refine G.callK _ _ kV call225 (Aiq (b:=g) (c:=n) (L:=L) hL.symm oV (fun j s hs=>T.el 0 rfl (x:=Aqk g n L) rfl (by show (L.map Value.bool)[j]?=_;rw[A1a,hs];rfl)) fun s hs=>by
  obtain⟨j,hj,rfl⟩:=A2y hs;obtain⟨r,hr,P⟩:=ok.all j oV;have:=Q r hr j P;rw[A01 hj]at this;exact A28 this) ?_
 rintro v3 u3 l3 rfl;exact G.drop PH.mt kV (PH.mt_le _)<|G.z zO
end
structure Bl (u:PH)(T:zC)(R:List Br)(F:List Al)(lab:Int):Prop where
 att:Aq4 T
 rel:Py u T.length R
 feat:Da T F lab
 t1:0<T.length
 t2:T.length<=12
 r1:0<R.length
 r2:R.length<=6
 f2:F.length<=8
 l1:-1<=lab
 l2:∀ l:Nat,lab=(l:Int)->∃ n,T[l]?=some (n,2)
def Py.mono {u e:PH}{n:Nat}{R:List Br}(h:Py u n R)(j:PH.le u e):Py e n R:=⟨h.names,h.ne,h.lt,h.len,h.asc,h.all,fun r m=>(h.at' r m).mono j⟩
def Bl.mono {u e:PH}{T:zC}{R:List Br}{F:List Al}{lab:Int}(h:Bl u T R F lab)(j:PH.le u e):Bl e T R F lab:=⟨h.att,h.rel.mono j,h.feat,h.t1,h.t2,h.r1,h.r2,h.f2,h.l1,h.l2⟩
def H5 (u:PH)(v:Value)(T:zC)(R:List Br)(F:List Al)(lab:Int):Prop :=
 ∃ a c b d e f,v=.agg #[.slice a T.length c,.slice b R.length d,.slice e F.length f,zI lab]/\Ac u (.slice a T.length c) 2 (T.map D9)/\Ac u (.slice b R.length d) 2 (R.map Hs)/\Ac u (.slice e F.length f) 3 (F.map Cm)
def H5.mono {u m:PH}{v:Value}{T:zC}{R:List Br}{F:List Al}{lab:Int}(h:H5 u v T R F lab)(j:PH.le u m):H5 m v T R F lab:=by
 obtain⟨a,c,b,d,e,f,H,t,C,E⟩:=h;exact⟨a,c,b,d,e,f,H,t.mono j,C.mono j,E.mono j⟩
def Adn {u:PH}{v:Value}{T:zC}{R:List Br}{F:List Al}{lab:Int}(h:H5 u v T R F lab)(ok:Bl u T R F lab) :
 zF 98 [v] u fun r _=>r=zO:=by
 obtain⟨a,c,b,d,e,f,rfl,hT,Z,hF⟩:=h;have t1:=ok.t1;have t2:=ok.t2;have r1:=ok.r1;have r2:=ok.r2;have f2:=ok.f2;have lo:=ok.l1;have hi:lab<T.length:=by
  rcases A5q lab 0 with t|I
  ·omega
  obtain⟨n,K⟩:=ok.l2 lab.toNat oV;obtain⟨hk,_⟩:=A05.1 K;omega
 refine Fn0.o func98<|G.eF T.length 0<|G.gF T.length 12<|G.eF R.length 0<|G.gF R.length 6<|G.gF F.length 8<|G.buildU 104 1 8 (.nilFunc) [.func (.func 172) #[] #[],.func (.func 173) #[] #[],.func (.func 174) #[] #[]] kV (fun x Q=>by
  simp only[A1g,A11,or_false]at Q;rcases Q with rfl|rfl|rfl<;>exact⟨rfl,A1o.1 rfl⟩) rfl oV mV mV ?_
 intro g u1 l1 X;refine G.l (ι:=Nat) (fun i=>[(1,.p 0 0),(34,sV (zA g) 3 3),(35,iV (3:Nat)),(36,iV i)])
  (fun _=>[(0,⟨30,[sV a T.length c,sV b R.length d,sV e F.length f,iV lab]⟩)])
  (fun i u' m'=>i<=3/\m'=PH.mt) (fun i=>3-i) 0 ⟨oV,rfl⟩ ?_
 rintro J i H u2 m2 l2 ⟨a1,rfl⟩;have m:=l1.trans l2;have E:=X.mono l2;by_cases t:i<3
 ·refine G.lT i (3:Nat)<|G.a g 0 3 3 i 1 t ?_;rcases (by omega:i=0\/i=1\/i=2) with rfl|rfl|rfl
  ·refine G.g none (E 0 _ rfl)<|G.c call172 (Ae5 (w:=.slice b R.length d) (x:=.slice e F.length f) (y:=zI lab) (hT.mono m) ok.att oV ⟨_,_,_,rfl⟩ ⟨_,_,_,rfl⟩ ⟨_,rfl⟩) ?_;rintro W V C rfl;exact G.nF 0 0<|G.p (0:Nat) 1 (0+1:Nat)<|G.b (H (0+1) _ _ _ cV (l2.trans C) ⟨oV,rfl⟩ oV)
  ·refine G.g none (E 1 _ rfl)<|G.c call173 (Aha (a0:=a) (c0:=c) (x:=.slice e F.length f) (y:=zI lab) (Z.mono m) (ok.rel.mono m) oV oV oV ⟨_,_,_,rfl⟩ ⟨_,rfl⟩) ?_;rintro W V C rfl;exact G.nF 0 0<|G.p (1:Nat) 1 (1+1:Nat)<|G.b (H (1+1) _ _ _ cV (l2.trans C) ⟨oV,rfl⟩ oV)
  refine G.g none (E 2 _ rfl)<|G.c call174 (Aon (w:=.slice b R.length d) (hT.mono m) (hF.mono m) ok.feat oV oV ⟨_,_,_,rfl⟩) ?_;rintro W V C rfl;exact G.nF 0 0<|G.p (2:Nat) 1 (2+1:Nat)<|G.b (H (2+1) _ _ _ cV (l2.trans C) ⟨oV,rfl⟩ oV)
 obtain rfl:i=3:=oV;refine G.lF (3:Nat) (3:Nat)<|G.lF lab (-1)<|G.hF lab T.length ?_;rcases A5q lab 0 with P|I
 ·exact G.hF lab 0<|G.z zO
 refine G.hT lab 0 ?_;obtain⟨l,rfl⟩:∃ l:Nat,lab=(l:Int):=⟨lab.toNat,oV⟩;obtain⟨n,K⟩:=ok.l2 l rfl;obtain⟨L,U,rfl,Y⟩:=Ac.at' (hT.mono m) (j:=l) (e:=D9 (n,2)) (by simp[K]);exact G.a L U T.length c l 2 oV<|G.f 96 L (U+l*2) 1 1<|G.g none (L9 Y)<|G.nF (2:Nat) 2<|G.z zO
section
variable {n:Nat}{v:Value}{z:Int}
def Azo (n:Nat):(Aa n).getD 0 0=n%1000000000:=by
 by_cases h:n=0
 ·subst h;rw[A7];rfl
 rw[Dz h];rfl
def A0k (n:Nat):(Aa n).getD 1 0=n/1000000000%1000000000:=by
 by_cases h:n=0
 ·subst h;rw[A7];rfl
 rw[Dz h];show (Aa (n/1000000000)).getD 0 0=_;rw[Azo]
def Alh (h:n<1000000000000000000):(Aa n).length<=2:=by
 by_cases h0:n=0
 ·subst h0;rw[A7];simp
 rw[Dz h0];by_cases e:n/1000000000=0
 ·rw[e,A7];simp
 rw[Dz e,show n/1000000000/1000000000=0 by omega,A7];simp
def Aa9 (e:0<=z)(h:z<18446744073709551616):IntKind.u64.wrap z=z:=by
 simp only[IntKind.wrap,IntKind.signed,IntKind.bits];simp;omega
section rules
variable {P:Program} [A6 P] {fn:Func} {Post:Ce} {st:List KI×S} {u m:PH}
def G.mul64 (x y z:Int)(h:Aj P (adv P st)=.bin .mul (.int .u64 x) (.int .u64 y))(C:x*y=z)(e:0<=z)(j:z<18446744073709551616)
 (k:G P fn Post (nx (adv P st) (.int .u64 z)) u m):G P fn Post st u m :=
 G.bin _ h C0 (fun t w=>by simp[binOp,Op.intArith,C,Aa9 e j]) k
def G.add64 (x y z:Int)(h:Aj P (adv P st)=.bin .add (.int .u64 x) (.int .u64 y))(C:x+y=z)(e:0<=z)(j:z<18446744073709551616)
 (k:G P fn Post (nx (adv P st) (.int .u64 z)) u m):G P fn Post st u m :=
 G.bin _ h C0 (fun t w=>by simp[binOp,Op.intArith,C,Aa9 e j]) k
end rules
def Abu {u:PH}(h:Dk u v n)(t:n<1000000000000000000)(i:Nat):zF 271 [v,zI i] u fun r _=>r=.int .u64 (((Aa n).getD i 0:Nat):Int):=by
 have C:=Alh t;obtain⟨a,c,rfl,_⟩:=id h;refine Fn0.o func271 ?_;by_cases j:i<(Aa n).length
 ·refine G.lT i ((Aa n).length:Int) ?_;obtain⟨b,off,rfl,e⟩:=h.at j;exact G.N (Aa n).length c j e<|G.z _
 refine G.lF i ((Aa n).length:Int) ?_;rw[Fs j];exact G.z (.int .u64 0)
def Aoc {u:PH}(h:Dk u v n)(e:n<1000000000000000000):zF 272 [v] u fun r _=>r=.int .u64 (n:Int):=by
 obtain⟨a,c,rfl,_⟩:=id h;refine Fn0.o func272<|G.c call271 (Abu h e 1) ?_;rintro E t j rfl;rw[A0k];refine G.mul64 ((n/1000000000%1000000000:Nat):Int) 1000000000 _ kV rfl oV oV<|G.c call271 (Abu (h.mono j) e 0) ?_;rintro F C l2 rfl;rw[Azo];exact G.add64 (((n/1000000000%1000000000:Nat):Int)*1000000000) ((n%1000000000:Nat):Int) (n:Int) kV oV oV oV<|G.z _
def Aom {u:PH}(h:Bi u v z)(C:z.natAbs<1000000000000000000):zF 257 [v] u fun r _=>r=.tuple #[zI z,zT]:=by
 obtain⟨a,n',c,rfl,t⟩:=h;obtain⟨a,c,e,_⟩:=id t;cases e;have F:=Alh C;generalize H:z.natAbs=n at t C F⊢;refine Fn0.o func257<|G.gF ((Aa n).length:Int) 3<|G.c call271 (Abu t C 2) ?_;rintro Q J E rfl;rw[Fs (k:=2) oV];refine G.cmpG .gtr .u64 ((0:Nat):Int) 4 false kV rfl (by simp[Db])<|G.c call271 (Abu (t.mono E) C 2) ?_;rintro R K l2 rfl;rw[Fs (k:=2) oV];refine G.mul64 ((0:Nat):Int) 1000000000 0 kV oV oV oV<|G.mul64 0 1000000000 0 kV oV oV oV<|G.c call272 (Aoc (t.mono (E.trans l2)) C) ?_;rintro T L I rfl;refine G.add64 0 (n:Int) (n:Int) kV oV oV oV<|G.cmpG .gtr .u64 (n:Int) 4611686018427387904 false kV rfl (by simp[Db];omega) ?_;by_cases j:z<0
 ·rw[decide_eq_true j];refine G.convI .u64 .i64 .u64 (n:Int) (n:Int) kV ?_ ?_
  ·simp only[IntKind.wrap,IntKind.signed,IntKind.bits];simp;omega
  exact G.neg (n:Int) z kV oV oV oV<|G.z (.tuple #[zI z,zT])
 rw[decide_eq_false j];refine G.convI .u64 .i64 .u64 (n:Int) (n:Int) kV ?_ ?_
 ·simp only[IntKind.wrap,IntKind.signed,IntKind.bits];simp;omega
 obtain rfl:z=(n:Int):=oV;exact G.z (.tuple #[zI n,zT])
end
section
variable {q:Rat}{u:PH}{z:Int}
def Jk (h:z.natAbs<1000000000000000000):Lib.nDigits z.natAbs<=400:=A04 (Cz (k:=18) oV oV) oV
def Aa6 (h:z.natAbs<1000000000000000000):zF 217 [zS (Lib.itoa z)] u fun v _=>v=.tuple #[zI z,zT]:=by
 refine Fn0.o func217<|G.c call222 (Jn (Jk h)) ?_;rintro H C m rfl;refine G.c call256 (Zc (Jk h)) ?_;intro I E l2 e;obtain⟨j,a2,n2,c2,rfl⟩:=e.opn;refine G.c call257 (Aom e h) ?_;rintro J F t rfl;exact G.z (.tuple #[zI z,zT])
def Ayv (h:Tx q):zF 216 [zS (Ae q)] u fun v _=>v=.tuple #[zS (Lib.itoa q.num),zS (Lib.itoa (q.den:Int)),zT]:=by
 refine Fn0.o func216<|G.c call169 (Gu h) ?_;rintro C m j rfl;refine G.c call204 (Ay5 h) ?_;rintro E t l2 rfl;by_cases e:q.den=1
 ·rw[if_pos e,decide_eq_false (by simp[e]),e,show ((1:Nat):Int)=1 from rfl,Hf];exact G.z (.tuple #[zS (Lib.itoa q.num),zS [49],zT])
 rw[if_neg e,decide_eq_true e];exact G.z (.tuple #[zS (Lib.itoa q.num),zS (Lib.itoa (q.den:Int)),zT])
def Afu (h:z.natAbs<=1000000000):zF 215 [zS (Lib.itoa z)] u fun v _=>v=zT:=by
 refine Fn0.o func215<|G.c call217 (Aa6 (z:=z) oV) ?_;rintro m j e rfl;exact G.hT z (-1000000000)<|G.kT z 1000000000<|G.z zT
structure Dat (q:Rat):Prop where
 num:q.num.natAbs<=1000000000
 den:q.den<=12
def Dat.tx (h:Dat q):Tx q:=⟨Jk (by have:=h.num;omega),by have:=Jk (z:=(q.den:Int)) (by have:=h.den;omega);simpa using this⟩
def Ase :Ae q≠[]:=by
 intro e;unfold Ae at e;split at e
 ·by_cases h:q.num<0
  ·rw[N2 h]at e;cases e
  rw[Lib.itoa,if_neg h]at e;exact Gk _ e
 simp at e
def Awh {s:zB}(h:Dat q):zF 158 [D9 (s,2),zS (Ae q)] u fun v _=>v=zT:=by
 have e:=h.den;have hp:=q.den_pos;refine Fn0.o func158<|G.eF (2:Nat) 1<|G.eT (2:Nat) 2<|G.c call216 (Ayv h.tx) ?_;rintro F t j rfl;refine G.c call217 (Aa6 (z:=(q.den:Int)) oV) ?_;rintro H C l2 rfl;refine G.w (Ae q) [] Ase<|G.c call215 (Afu h.num) ?_;rintro I E m rfl;exact G.hT q.den 1<|G.kT q.den 12<|G.z zT
end
def CF.one1 (p:Par)(q:Rat):CF:=⟨1,Nh (fun _=>0) p q,Nh (fun _=>0) (p,p) (q*q)⟩
section
variable {F:CF}{K:Nat}{u:PH}{v:Value}
def A0d (p:Par)(h:No u v F K)(hK:K<=1000000):zF 233 [v,Ap p] u fun r _=>r=zS (Ae (F.s p)):=by
 obtain⟨T,Q,a1,c1,a2,c2,rfl,hT,hQ,I,Z,kT,kQ⟩:=h;refine Fn0.o func233<|G.l (ι:=Nat) (fun i=>[(3,.p 1 0),(8,sV a1 T.length c1),(9,iV T.length),(10,iV i)]) (fun _=>[(1,⟨118,[iV p.1,tV p.2]⟩)])
  (fun i u' X=>i<=T.length/\(∀ j (m:j<T.length),j<i->(T[j]'m).1≠p)/\X=PH.mt) (fun i=>T.length-i) 0 ⟨oV,fun j m h=>oV,rfl⟩ ?_
 rintro J i R u1 m1 L ⟨hi,h0,rfl⟩;by_cases t:i<T.length
 ·refine G.lT i T.length ?_;have H:T[i]?=some T[i]:=A01 t;have C:=(I.val _ (A09 t)).1;obtain⟨Y,oa,rfl,P⟩:=Ac.at' (hT.mono L) (j:=i) (e:=Bt T[i]) (by simp[H]);refine G.n T.length c1 P ?_;by_cases E:T[i].1=p
  ·exact G.eqAgg 118 #[zI T[i].1.1,zS T[i].1.2] #[zI p.1,zS p.2] true kV kV kV (fun w=>by rw[<-decide_eq_true E];exact Bq.eq T[i].1 p w)<|G.r (zS (Ae T[i].2)) ⟨rfl,by rw[C,E]⟩
  refine G.eqAgg 118 #[zI T[i].1.1,zS T[i].1.2] #[zI p.1,zS p.2] false kV kV kV (fun w=>by rw[<-decide_eq_false E];exact Bq.eq T[i].1 p w)<|G.i i ?_;exact G.b (R (i+1) _ _ _ cV L ⟨oV,fun j m h=>by
   rcases (by omega:j<i\/j=i) with e|rfl
   ·exact h0 j m e
   exact E,rfl⟩ oV)
 obtain rfl:i=T.length:=oV;refine G.lF T.length T.length ?_;have W:F.s p=0:=I.out p fun U=>by
  obtain⟨x,V,e⟩:=A1b.1 U;obtain⟨j,m,rfl⟩:=A2y V;exact h0 j m m e
 exact G.r (zS [48]) ⟨rfl,by rw[W,Fz]⟩
def Afd (p q:Par)(h:No u v F K)(hK:K<=1000000):zF 54 [v,Ap p,Ap q] u fun r _=>r=zS (Ae (F.t (Ay p q))):=by
 obtain⟨T,Q,a1,c1,a2,c2,rfl,hT,hQ,cT,X,kT,kQ⟩:=h;refine Fn0.o func54 ?_;by_cases P:Bk q p<0
 ·rw[show Ay p q=(q,p) by unfold Ay;rw[if_pos ((Et.sym _ _).1 P)]];refine G.c call127 (Re q p true (decide_eq_true P)) ?_;rintro v0 u0 l0 rfl;refine G.l (ι:=Nat) (fun i=>[(4,.p 1 0),(5,.p 2 0),(15,sV a2 Q.length c2),(16,iV Q.length),(17,iV i)]) (fun _=>[(1,⟨118,[iV q.1,tV q.2]⟩),(2,⟨118,[iV p.1,tV p.2]⟩)])
   (fun i u' m'=>i<=Q.length/\(∀ j (E:j<Q.length),j<i->(Q[j]'E).1≠(q,p))/\m'=PH.mt) (fun i=>Q.length-i) 0 ⟨oV,fun j E h=>oV,rfl⟩ ?_
  rintro J i W u1 m1 V ⟨hi,h0,rfl⟩;by_cases H:i<Q.length
  ·refine G.lT i Q.length ?_;have R:Q[i]?=some Q[i]:=A01 H;have I:=(X.val _ (A09 H)).1;obtain⟨ba,oa,rfl,Y⟩:=Ac.at' (hQ.mono (l0.trans V)) (j:=i) (e:=D8 Q[i]) (by simp[R]);have m:Q[i].1≠(q,p)->∀ j (E:j<Q.length),j<i+1->(Q[j]'E).1≠(q,p):=fun U j E h=>by
    rcases (by omega:j<i\/j=i) with e|rfl
    ·exact h0 j E e
    exact U
   refine G.n Q.length c2 Y ?_;by_cases L:Q[i].1.1=q
   ·refine G.eqAgg 118 #[zI Q[i].1.1.1,zS Q[i].1.1.2] #[zI q.1,zS q.2] true kV kV kV (fun w=>by rw[<-decide_eq_true L];exact Bq.eq Q[i].1.1 q w) ?_;by_cases C:Q[i].1.2=p
    ·exact G.eqAgg 118 #[zI Q[i].1.2.1,zS Q[i].1.2.2] #[zI p.1,zS p.2] true kV kV kV (fun w=>by rw[<-decide_eq_true C];exact Bq.eq Q[i].1.2 p w)<|G.r (zS (Ae Q[i].2)) ⟨rfl,by rw[I,show Q[i].1=(q,p) from A6z L C]⟩
    exact G.eqAgg 118 #[zI Q[i].1.2.1,zS Q[i].1.2.2] #[zI p.1,zS p.2] false kV kV kV (fun w=>by rw[<-decide_eq_false C];exact Bq.eq Q[i].1.2 p w)<|G.i i<|G.b (W (i+1) _ _ _ cV V ⟨oV,m fun e=>C (congrArg Prod.snd e),rfl⟩ oV)
   exact G.eqAgg 118 #[zI Q[i].1.1.1,zS Q[i].1.1.2] #[zI q.1,zS q.2] false kV kV kV (fun w=>by rw[<-decide_eq_false L];exact Bq.eq Q[i].1.1 q w)<|G.i i<|G.b (W (i+1) _ _ _ cV V ⟨oV,m fun e=>L (congrArg Prod.fst e),rfl⟩ oV)
  obtain rfl:i=Q.length:=oV;refine G.lF Q.length Q.length ?_;have hz:F.t (q,p)=0:=X.out (q,p) fun Z=>by
   obtain⟨x,hx,e⟩:=A1b.1 Z;obtain⟨j,E,rfl⟩:=A2y hx;exact h0 j E E e
  exact G.r (zS [48]) ⟨rfl,by rw[hz,Fz]⟩
 rw[show Ay p q=(p,q) by unfold Ay;rw[if_neg fun e=>P ((Et.sym _ _).2 e)]];refine G.c call127 (Re q p false (decide_eq_false P)) ?_;rintro v0 u0 l0 rfl;refine G.l (ι:=Nat) (fun i=>[(4,.p 1 0),(5,.p 2 0),(15,sV a2 Q.length c2),(16,iV Q.length),(17,iV i)]) (fun _=>[(1,⟨118,[iV p.1,tV p.2]⟩),(2,⟨118,[iV q.1,tV q.2]⟩)])
  (fun i u' m'=>i<=Q.length/\(∀ j (E:j<Q.length),j<i->(Q[j]'E).1≠(p,q))/\m'=PH.mt) (fun i=>Q.length-i) 0 ⟨oV,fun j E h=>oV,rfl⟩ ?_
 rintro J i W u1 m1 V ⟨hi,h0,rfl⟩;by_cases H:i<Q.length
 ·refine G.lT i Q.length ?_;have R:Q[i]?=some Q[i]:=A01 H;have I:=(X.val _ (A09 H)).1;obtain⟨ba,oa,rfl,Y⟩:=Ac.at' (hQ.mono (l0.trans V)) (j:=i) (e:=D8 Q[i]) (by simp[R]);have m:Q[i].1≠(p,q)->∀ j (E:j<Q.length),j<i+1->(Q[j]'E).1≠(p,q):=fun U j E h=>by
   rcases (by omega:j<i\/j=i) with e|rfl
   ·exact h0 j E e
   exact U
  refine G.n Q.length c2 Y ?_;by_cases L:Q[i].1.1=p
  ·refine G.eqAgg 118 #[zI Q[i].1.1.1,zS Q[i].1.1.2] #[zI p.1,zS p.2] true kV kV kV (fun w=>by rw[<-decide_eq_true L];exact Bq.eq Q[i].1.1 p w) ?_;by_cases C:Q[i].1.2=q
   ·exact G.eqAgg 118 #[zI Q[i].1.2.1,zS Q[i].1.2.2] #[zI q.1,zS q.2] true kV kV kV (fun w=>by rw[<-decide_eq_true C];exact Bq.eq Q[i].1.2 q w)<|G.r (zS (Ae Q[i].2)) ⟨rfl,by rw[I,show Q[i].1=(p,q) from A6z L C]⟩
   exact G.eqAgg 118 #[zI Q[i].1.2.1,zS Q[i].1.2.2] #[zI q.1,zS q.2] false kV kV kV (fun w=>by rw[<-decide_eq_false C];exact Bq.eq Q[i].1.2 q w)<|G.i i<|G.b (W (i+1) _ _ _ cV V ⟨oV,m fun e=>C (congrArg Prod.snd e),rfl⟩ oV)
  exact G.eqAgg 118 #[zI Q[i].1.1.1,zS Q[i].1.1.2] #[zI p.1,zS p.2] false kV kV kV (fun w=>by rw[<-decide_eq_false L];exact Bq.eq Q[i].1.1 p w)<|G.i i<|G.b (W (i+1) _ _ _ cV V ⟨oV,m fun e=>L (congrArg Prod.fst e),rfl⟩ oV)
 obtain rfl:i=Q.length:=oV;refine G.lF Q.length Q.length ?_;have hz:F.t (p,q)=0:=X.out (p,q) fun Z=>by
  obtain⟨x,hx,e⟩:=A1b.1 Z;obtain⟨j,E,rfl⟩:=A2y hx;exact h0 j E E e
 exact G.r (zS [48]) ⟨rfl,by rw[hz,Fz]⟩
end
section
variable {p:Par}{q:Rat}
def Ao6 {d N:Nat}(e:Dn d N 1)(j:Dn d N q)(h:Dn d N (q*q)):CFD d N (CF.one1 p q) :=
 ⟨e,fun k=>by
  show Dn d N (Nh (fun _=>(0:Rat)) p q k);unfold Nh;split
  ·exact j
  ·exact Dn.zero _ _,fun k=>by
  show Dn d N (Nh (fun _=>(0:Rat)) (p,p) (q*q) k);unfold Nh;split
  ·exact h
  exact Dn.zero _ _⟩
def Ar0 (hp:PV p):CFV (CF.one1 p q) :=
 ⟨fun k h=>by
  have h:Nh (fun _=>(0:Rat)) p q k≠0:=h;unfold Nh at h;split at h
  ·subst_vars;exact hp
  ·exact absurd rfl h,fun k h=>by
  have h:Nh (fun _=>(0:Rat)) (p,p) (q*q) k≠0:=h;unfold Nh at h;split at h
  ·subst_vars
   exact⟨hp,hp,fun e=>by
   have e:0<Bk p p:=e;have:=(Et.sym _ _).2 e;omega⟩
  exact absurd rfl h⟩
def Hc.listP {u:PH}{g sz:Nat}{es:zV}(h:Hc u g 0 sz es):Ac u (zG g es.length es.length) sz es:=⟨_,_,rfl,A08 _,fun j e m=>⟨g,0,rfl,h j e m⟩⟩
def Sc {L:zW}(h:(L.all Hn&&decide L.Nodup)=true):Rc L:=by
 rw[A1m,A1o,decide_eq_true_iff]at h;exact⟨h.1,h.2⟩
end
def pw {n:Nat}(h:n<10^30):n<10^100:=A2s h jV
section
variable {s:zB}{u:PH}{z:Int}
def Qe :zF 222 [zE] u fun v _=>v=zL:=by
 refine Fn0.o func222<|G.w [] [48] fV<|G.c call258 (Ux (s:=[]) (p:=[45])) ?_;rintro j h e rfl;exact G.q (Lib.trimPrefix [] [45]) [] rfl<|G.z zL
def Ah0 :zF 169 [zE] u fun v _=>v=zL:=by
 refine Fn0.o func169<|G.c call204 (Azn (T:=[]) mV) ?_;rintro C j e rfl;refine G.c call222 Qe ?_;rintro E m l2 rfl;refine G.c call222 Qe ?_;rintro F t h rfl;exact G.z zL
def Atf :zF 216 [zE] u fun v _=>v=.tuple #[zE,zE,zL]:=by
 refine Fn0.o func216<|G.c call169 Ah0 ?_;rintro j h e rfl;exact G.z (.tuple #[zE,zE,zL])
def Ahf :zF 217 [zE] u fun v _=>v=.tuple #[zO,zL]:=by
 refine Fn0.o func217<|G.c call222 Qe ?_;rintro j h e rfl;exact G.z (.tuple #[zO,zL])
def Ati {x:zB×Nat}(e:1<=x.2)(h:x.2<=3):zF 158 [D9 x,zE] u fun v _=>v=zT:=by
 obtain⟨s,k⟩:=x;simp only at e h;refine Fn0.o func158 ?_;rcases (by omega:k=1\/k=2\/k=3) with rfl|rfl|rfl
 ·exact G.eT (1:Nat) 1<|G.q [] [] rfl<|G.z zT
 ·refine G.eF (2:Nat) 1<|G.eT (2:Nat) 2<|G.c call216 Atf ?_;rintro C m j rfl;refine G.c call217 Ahf ?_;rintro E t l2 rfl;exact G.q [] [] rfl<|G.z zT
 exact G.eF (3:Nat) 1<|G.eF (3:Nat) 2<|G.eT (3:Nat) 3<|G.q [] [] rfl<|G.z zT
def Afp :Lib.itoa z≠[]:=by
 by_cases h:z<0
 ·rw[N2 h];simp
 rw[Lib.itoa,if_neg h];exact Gk _
def Awl (h:z.natAbs<=1000000000):zF 158 [D9 (s,1),zS (Lib.itoa z)] u fun v _=>v=zT:=by
 refine Fn0.o func158<|G.eT (1:Nat) 1<|G.w (Lib.itoa z) [] Afp<|G.c call215 (Afu h) ?_;rintro m j e rfl;exact G.z zT
def Awf {s t:zB}(h:Hn t=true):zF 158 [D9 (s,3),zS t] u fun v _=>v=zT:=by
 refine Fn0.o func158<|G.eF (3:Nat) 1<|G.eF (3:Nat) 2<|G.eT (3:Nat) 3<|G.w t [] (fun e=>by rw[e]at h;cases h)<|G.c call218 (Asw h) ?_;rintro C m j rfl;exact G.z zT
end
section
variable {i k:Nat}{s:zB}
section rules
variable {P:Program} [A6 P] {fn:Func} {Post:Ce} {st:List KI×S} {u m:PH}
def G.convBU (e:TypeId)(l:zB)(b n c:Nat)(h:Aj P (adv P st)=.conv (some (.slice e)) (some .string) (zG b n c))(U:P.underlying e=some (.int .u8))(Y:n=l.length)
 (T:Hc u b 0 1 (Bm l)) (k:G P fn Post (nx (adv P st) (zS l)) u m):G P fn Post st u m:=by
 refine G.ask h mV (fun L o t w hp=>?_) k;obtain⟨s,d,X,E,J,K,F⟩:=Ln t;obtain⟨I,Z,H,pos,after,C⟩:=o;simp only at E;subst E;have W:=(hp (by simp[Hr,Acg F mV])).1;subst Y;have:=run_convert_bytes_back (P:=P) w s d e ⟨b,0,none⟩ c l K U F (fun j V=>by
  have Q:=T j (.int .u8 (l[j].toNat:Int)) (by simp[Bm,V]);have R:=(Q 0 (.int .u8 (l[j].toNat:Int)) (by simp[Value.cells])).cell W;rw[Ed];simpa using R)
 simp[execOp,J,this]
end rules
def Zq (i:Nat):UInt8:=UInt8.ofNat (97+i)
def Wv (h:i<26):(Zq i).toNat=97+i:=by
 unfold Zq;rw[UInt8.toNat_ofNat'];omega
def S0 {u:PH}{p:zB}(hi:i<26)(hp:p.length<=1000):zF 182 [zS p,zI i] u fun v _=>v=zS (p++[Zq i]):=by
 refine Fn0.o func182<|G.remZ (i:Int) 26 (i:Int) kV oV oV (by rw[A47 oV];omega)<|G.p 97 i (97+i:Nat)<|G.convI .i64 .u8 .i64 (97+i:Nat) ((97+i:Nat):Int) kV ?_ ?_
 ·simp only[IntKind.wrap,IntKind.signed,IntKind.bits];simp;omega
 have h : [Value.int .u8 ((97+i:Nat):Int)]=Bm [Zq i]:=by unfold Bm;rw[A2u,Wv hi];rfl
 refine G.B 5 1 1 (.int .u8 0) [.int .u8 ((97+i:Nat):Int)] (by rw[h];exact Mj _) ?_;intro g t j e;rw[h]at e;exact G.convBU 5 [Zq i] g 1 1 kV kV rfl e<|G.addS p [Zq i] kV gV<|G.z _
def Ai7:zB:=[114,101,100]
def Qf:zB:=[103,114,101,101,110]
def Xg:zB:=[98,108,117,101]
def Ae7 (s:zB):Bool:=Hn s&&(s==Ai7||s==Qf||s==Xg)
def Azb (h:Ae7 s=true):Hn s=true:=by
 unfold Ae7 at h;rw[A1m]at h;exact h.1
def Avi (h:Ae7 s=true):s=Ai7\/s=Qf\/s=Xg:=by
 unfold Ae7 at h;simp only[A1m,A4b,beq_iff_eq]at h;rcases h.2 with (h|h)|h
 ·exact .inl h
 ·exact .inr (.inl h)
 exact .inr (.inr h)
def Rj (k:Nat)(s:zB):Prop:=s = []\/(k=3/\Hn s=true)\/(k=1/\∃ z:Int,z.natAbs<=1000000000/\s=Lib.itoa z)\/(k=2/\∃ q,SmW q/\s=Ae q)
def Zi (k:Nat)(s:zB):Prop:=s = []\/(k=3/\Ae7 s=true)\/(k=1/\∃ z:Int,z.natAbs<=1000000000/\s=Lib.itoa z)\/(k=2/\∃ q,SmR q/\s=Ae q)
def Zi.ok (h:Zi k s):Rj k s:=h.imp id (Or.imp (fun⟨e,h⟩=>⟨e,Azb h⟩) (Or.imp id fun⟨e,q,j,t⟩=>⟨e,q,j.w,t⟩))
def Gr {q:Rat}(h:Ae q=s)(e:SmR q):Zi 2 s:=.inr (.inr (.inr ⟨rfl,q,e,h.symm⟩))
def Tb {z:Int}(h:Lib.itoa z=s)(e:z.natAbs<=1000000000):Zi 1 s:=.inr (.inr (.inl ⟨rfl,z,e,h.symm⟩))
def Ant {u:PH}{s:Src}{ts:List Int}{x:zB×Nat}(h:J0 u s ts)(U:k<=s.n)(R:1<=x.2)(T:x.2<=3) :
 Ag prog 157 [s.ptr,D9 x] u (s.M k) fun v _ V=>∃ (t:zB) (Q:Nat),v=zS t/\Zi x.2 t/\Q<=s.n/\V=s.M Q:=by
 obtain⟨nm,H⟩:=x;simp only at R T⊢;refine Ag.o func157<|G.A call14 (I4 (n:=9) h U oV oV) ?_;rintro v1 u1 Z Y ⟨r,J,rfl,X,j,rfl⟩ _;rw[By];by_cases W:r=8
 ·exact G.eT r 8<|G.r zE ⟨[],J,rfl,.inl rfl,j,rfl⟩
 refine G.eF r 8 ?_;by_cases L:H=3
 ·subst L;refine G.eT (3:Nat) 3<|G.B 9 1 16 zE [zS Ai7,zS Qf,zS Xg] (G6 [Ai7,Qf,Xg]) ?_;intro g I l2 e;obtain⟨i,hi⟩:∃ i,i=r%3:=⟨_,rfl⟩;have C:i<3:=oV;refine G.remZ (r:Int) 3 (i:Int) kV oV oV (by rw[A47 oV];omega)<|G.a g 0 3 3 i 1 C ?_;obtain⟨t,E,F⟩:∃ t,ElP I g (0+i*1) (zS t)/\Ae7 t=true:=by
   rcases (by omega:i=0\/i=1\/i=2) with h|h|h
   ·rw[h];exact⟨Ai7,e 0 _ rfl,jV⟩
   ·rw[h];exact⟨Qf,e 1 _ rfl,jV⟩
   rw[h];exact⟨Xg,e 2 _ rfl,jV⟩
  exact G.g none E<|G.r (zS t) ⟨t,J,rfl,.inr (.inl ⟨rfl,F⟩),j,rfl⟩
 refine G.eF H 3 ?_;by_cases K:H=1
 ·subst K;refine G.eT (1:Nat) 1<|G.B 9 1 16 zE [zS [49],zS [50],zS [49,48]] (G6 [[49],[50],[49,48]]) ?_;intro g I l2 e;obtain⟨i,hi⟩:∃ i,i=r%3:=⟨_,rfl⟩;have C:i<3:=oV;refine G.remZ (r:Int) 3 (i:Int) kV oV oV (by rw[A47 oV];omega)<|G.a g 0 3 3 i 1 C ?_;obtain⟨t,E,F⟩:∃ t,ElP I g (0+i*1) (zS t)/\Zi 1 t:=by
   rcases (by omega:i=0\/i=1\/i=2) with h|h|h
   ·rw[h];exact⟨[49],e 0 _ rfl,Tb (z:=1) jV fV⟩
   ·rw[h];exact⟨[50],e 1 _ rfl,Tb (z:=2) jV fV⟩
   rw[h];exact⟨[49,48],e 2 _ rfl,Tb (z:=10) jV fV⟩
  exact G.g none E<|G.r (zS t) ⟨t,J,rfl,F,j,rfl⟩
 refine G.eF H 1 ?_;obtain rfl:H=2:=oV;refine G.B 9 1 16 zE [zS [48],zS [49],zS [45,50],zS [49,47,50],zS [51],zS [53,47,51],zS [49],zS [50]] (G6 [[48],[49],[45,50],[49,47,50],[51],[53,47,51],[49],[50]]) ?_;intro g I l2 e;refine G.a g 0 8 8 r 1 oV ?_;obtain⟨t,E,F⟩:∃ t,ElP I g (0+r*1) (zS t)/\Zi 2 t:=by
  rcases (by omega:r=0\/r=1\/r=2\/r=3\/r=4\/r=5\/r=6\/r=7) with h|h|h|h|h|h|h|h
  ·rw[h];exact⟨_,e 0 _ rfl,Gr (q:=0) jV ⟨jV,jV⟩⟩
  ·rw[h];exact⟨_,e 1 _ rfl,Gr (q:=1) jV ⟨jV,jV⟩⟩
  ·rw[h];exact⟨_,e 2 _ rfl,Gr (q:=-2) jV ⟨jV,jV⟩⟩
  ·rw[h];exact⟨_,e 3 _ rfl,Gr (q:=1/2) jV ⟨jV,jV⟩⟩
  ·rw[h];exact⟨_,e 4 _ rfl,Gr (q:=3) jV ⟨jV,jV⟩⟩
  ·rw[h];exact⟨_,e 5 _ rfl,Gr (q:=5/3) jV ⟨jV,jV⟩⟩
  ·rw[h];exact⟨_,e 6 _ rfl,Gr (q:=1) jV ⟨jV,jV⟩⟩
  rw[h];exact⟨_,e 7 _ rfl,Gr (q:=2) jV ⟨jV,jV⟩⟩
 exact G.g none E<|G.r (zS t) ⟨t,J,rfl,F,j,rfl⟩
end
def Ami {u:PH}{s:Src}{ts:List Int}{k:Nat}{v w x y:Value}{T:zC}(h:J0 u s ts)(hk:k<=s.n)(hT:Ac u v 2 (T.map D9))(hl:T.length<=1000)(a2:∀ a∈T,1<=a.2/\a.2<=3)(hw:∃ a n c,w=.slice a n c)(hx:∃ a n c,x=.slice a n c)(hy:∃ z:Int,y=zI z) :
 Ag prog 87 [s.ptr,.agg #[v,w,x,y]] u (s.M k) fun r u' m'=>∃ (ss:zW) (k':Nat),Ac u' r 1 (ss.map nmV)/\ss.length=T.length/\(∀ (i:Nat) (x:zB×Nat) (t:zB),T[i]?=some x->ss[i]?=some t->Zi x.2 t)/\k'<=s.n/\m'=s.M k':=by
 obtain⟨a,c,rfl⟩:=hT.opn;obtain⟨wa,wn,wc,rfl⟩:=hw;obtain⟨xa,xn,xc,rfl⟩:=hx;obtain⟨z,rfl⟩:=hy;rw[A03]at hT⊢;refine Ag.o func87<|G.l (ι:=Nat×Nat×zW×(zP×Nat)) (fun i=>[(0,.v s.ptr),(5,sV i.2.2.2.1 i.2.2.1.length i.2.2.2.2),(9,sV a T.length c),(10,iV T.length),(11,iV i.1)]) (fun _=>[])
  (fun i u' m'=>i.1<=T.length/\i.2.1<=s.n/\i.2.2.1.length=i.1/\(∀ (j:Nat) (x:zB×Nat) (t:zB),T[j]?=some x->i.2.2.1[j]?=some t->Zi x.2 t)/\Bag m' [s.arr i.2.1,Ajq i.2.2.2.1 i.2.2.2.2 i.2.2.1])
  (fun i=>T.length-i.1) (0,k,[],(none,0))
  ⟨A1t _,hk,rfl,fun j x t _ ht=>by simp at ht,s.bag0 k ⟨PH.mt,Af.nil _ _ _,trivial⟩⟩ ?_
 rintro J ⟨i,k1,ss,⟨na,nc⟩⟩ hJ u1 m1 l1 ⟨hi,Q,U,V,E⟩;simp only at hi Q U V E hJ;obtain⟨m0,Y,hL⟩:=E;obtain⟨rfl,P⟩:=Src.split Y;by_cases R:i<T.length
 ·refine G.lT i T.length ?_;have I:T[i]?=some T[i]:=A01 R;obtain⟨F,H⟩:=a2 T[i] (A09 R);obtain⟨ba,oa,rfl,ea⟩:=Ac.at' (hT.mono l1) (j:=i) (e:=D9 T[i]) (by simp[I]);generalize T[i]=q at ea I F H;refine G.N T.length c R ea<|G.D call157 (Src.apart P) (Ant (x:=q) (h.mono l1) Q F H) ?_;rintro v2 u2 m2 l2 ⟨t,k2,rfl,hv,a1,rfl⟩ _;refine G.B 9 1 16 zE [zS t] (G6 [t]) ?_;intro g3 u3 l3 e3;have K:Bag (m0.or (s.M k2)) [s.arr k2,Ajq na nc ss]:=⟨m0,Src.at P,hL⟩;obtain⟨mm,Z,X⟩:=K.focus 1 rfl;rw[Ak3]at Z;refine G.k 9 1 16 zE mm (ss.map nmV) [zS t] (.slice na ss.length nc) g3 0 1 1 Z e3 (G6 [t]) ?_;intro v4 m4 C;rw[show ss.map nmV++[zS t]=(ss++[t]).map nmV by rw[A1i];rfl]at C;obtain⟨a4,c4,rfl⟩:=C.shape;rw[A03]at C⊢;have L:=X (Ajq a4 c4 (ss++[t])) m4 C;refine G.i i<|G.b (hJ (i+1,k2,ss++[t],(a4,c4)) _ _ _ cV ((l1.trans l2).trans l3) ⟨dV,a1,by dsimp only;simp[U],?_,L⟩ dV);intro j x' t' W m;dsimp only at m;rcases A2e j ss.length with hj|hj
  ·rw[A1r hj]at m;exact V j x' t' W m
  rw[A18 hj]at m;have a0:j-ss.length=0:=by
   obtain⟨h',_⟩:=A05.1 m;simp at h';omega
  rw[a0]at m;obtain rfl:j=i:=oV;rw[I]at W;cases W;simp at m;subst m;exact hv
 obtain rfl:i=T.length:=oV;refine G.lF T.length T.length<|G.giveP (ma:=m0) (sm:=s.M k1) kV rfl (Src.apart P) (s.h0 k k1) ?_;intro u2 l2 hm;exact G.r (.slice na ss.length nc) ⟨ss,k1,hL.list hm 0 rfl,U,V,Q,rfl⟩
section
variable {C:CF}{F:List Al}{a i:Nat}{f:Al}{lab:Int}{p:Par}{q:Rat}{ss:zW}{w:zB}
structure CF.One (F:CF):Prop where
 c:F.c=1
 t:∀ k,F.t k=if 0<Bk k.1 k.2 then 0 else F.s k.1*F.s k.2
theorem CF.One.num:(CF.num 1).One:=⟨rfl,fun k=>by
 show (0:Rat)=if 0<Bk k.1 k.2 then 0 else (0:Rat)*0
 split
 ·rfl
 grind⟩
def Axz (p:Par)(q:Rat)(k:Par):(CF.one1 p q).s k=if k=p then q else 0:=rfl
theorem CF.One.one1 (p:Par)(q:Rat):(CF.one1 p q).One:=⟨rfl,fun k=>by
 show (if k=(p,p) then q*q else 0)=if 0<Bk k.1 k.2 then 0 else (if k.1=p then q else 0)*(if k.2=p then q else 0)
 obtain⟨x,y⟩:=k;by_cases h:(x,y)=(p,p)
 ·obtain⟨m,t⟩:=Prod.mk.inj h;subst t;rw[m];have:=Et.refl y;rw[if_pos rfl,if_neg (by simp only;omega)];simp
 rw[if_neg h];split
 ·rfl
 by_cases j:x=p
 ·have u:y≠p:=fun e=>h (by rw[j,e]);simp only[u,if_false];grind
 simp only[j,if_false];grind⟩
theorem CF.One.mul {F G:CF}(hF:F.One)(e:G.One):(F.mul G).One/\∀ p,(F.mul G).s p=F.s p+G.s p:=by
 have h:∀ p,(F.mul G).s p=F.s p+G.s p:=fun p=>by
  show G.s p*F.c+F.s p*G.c=_;rw[hF.c,e.c];grind
 refine⟨⟨?_,fun k=>?_⟩,h⟩
 ·show F.c*G.c=1;rw[hF.c,e.c];decide +kernel
 rw[h,h];show G.t k*F.c+F.t k*G.c+I2 F G k=_;rw[hF.c,e.c,hF.t,e.t];unfold I2;split
 ·grind
 split
 ·rename_i he;rw[<-he];grind
 grind
abbrev LF:Type:=Option (Option (Par×Rat))
def LF.cf:LF->CF
 |none=>CF.num 0
 |some none=>CF.num 1
 |some (some x)=>CF.one1 x.1 x.2
def Iv (C:CF)(L:List LF):CF:=L.foldl (fun c y=>c.mul y.cf) C
def Aa0 (C:CF)(L:List LF)(x:LF):Iv C (L++[x])=(Iv C L).mul x.cf:=by unfold Iv;rw[A5w];rfl
def Aqb (F:CF):(CF.num 0).mul F=CF.num 0:=by
 rw[CF.mul_comm];exact CF.mul_zero F
def Aae:∀ L,Iv (CF.num 0) L=CF.num 0
 |[]=>rfl
 |x::L=>by
  unfold Iv;rw[A6i,Aqb];exact Aae L
def Am2 {L:List LF}(h:none∈L):Iv C L=CF.num 0:=by
 obtain⟨A,B,rfl⟩:=A6k h;unfold Iv;rw[A5w,A6i];have:(List.foldl (fun c (y:LF)=>c.mul (LF.cf y)) C A).mul (LF.cf none)=CF.num 0:=CF.mul_zero _;rw[this];exact Aae B
def LF.one {x:LF}(h:x≠none):x.cf.One:=by
 match x,h with
 |some none,_=>exact CF.One.num
 |some (some x),_=>exact CF.One.one1 _ _
def We:∀ {L:List LF} {C:CF},C.One->none∉L->(Iv C L).One
 |[],C,h,_=>h
 |x::L,C,h,hn=>by
  have j:x≠none:=fun e=>hn (by rw[e];exact A4l ..);unfold Iv;rw[A6i];exact We (h.mul (LF.one j)).1 fun e=>hn (A2f _ e)
theorem Acr {p:Par}:∀ {L:List LF} {C:CF},C.One->none∉L->(∀ q,some (some (p,q))∉L)->(Iv C L).s p=C.s p
 |[],C,h,_,_=>rfl
 |x::L,C,h,hn,hp=>by
  have m:x≠none:=fun e=>hn (by rw[e];exact A4l ..);have j:=h.mul (LF.one m);unfold Iv;rw[A6i];have:=Acr (p:=p) j.1 (fun e=>hn (A2f _ e)) fun q e=>hp q (A2f _ e);unfold Iv at this;rw[this,j.2];have t:x.cf.s p=0:=by
   match x,m,hp with
   |some none,_,_=>rfl
   |some (some (p',q)),_,hp =>
    show (if p=p' then q else 0)=0;rw[if_neg fun e=>hp q (by rw[e];exact A4l ..)]
  rw[t];grind
theorem Av3 {L:List LF}(h:C.One)(T:none∉L)(Y:C.s p=0)(W:L[a]?=some (some (some (p,q))))(R:∀ b m,L[b]?=some (some (some (p,m)))->b=a):(Iv C L).s p=q:=by
 obtain⟨X,H⟩:=A05.1 W;have e:L=L.take a++some (some (p,q))::L.drop (a+1):=by
  rw[<-H,List.getElem_cons_drop,A4h]
 have u:none∉L.take a:=fun t=>T (A27 t);have J:none∉L.drop (a+1):=fun t=>T (A3x t);have K:∀ m,some (some (p,m))∉L.take a:=fun m t=>by
  obtain⟨b,I,j⟩:=A2y t;rw[A1e]at I;rw[A7w]at j;have:=R b m (by rw[A01 oV,j]);omega
 have P:∀ m,some (some (p,m))∉L.drop (a+1):=fun m t=>by
  obtain⟨b,I,j⟩:=A2y t;rw[A4y]at I;rw[List.getElem_drop]at j;have:=R (a+1+b) m (by rw[A01 oV,j]);omega
 rw[e];have U:=Acr (p:=p) h u K;have E:=We h u;have Q:=E.mul (CF.One.one1 p q);have V:=Acr (p:=p) Q.1 J P;have:Iv C (L.take a++some (some (p,q))::L.drop (a+1))=Iv ((Iv C (L.take a)).mul (CF.one1 p q)) (L.drop (a+1)):=by
  unfold Iv;rw[A5w,A6i];rfl
 rw[this,V,Q.2,U,Y,Axz,if_pos rfl];grind
noncomputable def Lk (t:zB):Rat:=open Classical in if h:∃ q,SmW q/\t=Ae q then h.choose else 0
def Aa7 {t:zB}(h:∃ q,SmW q/\t=Ae q):SmW (Lk t)/\Ae (Lk t)=t:=by
 unfold Lk;rw[dif_pos h];exact⟨h.choose_spec.1,h.choose_spec.2.symm⟩
noncomputable def I3 (i:Nat)(f:Al)(w:zB):LF:=if f.2.1=2 then some (some (((i:Int),w),1)) else if w = [] then (if f.2.2=1 then none else some none) else some (some (((i:Int),[]),Lk w))
noncomputable def Sy (w:zB):LF:=if w = [] then none else some (some ((-1,[]),Lk w))
noncomputable def Gm (F:List Al)(lab:Int)(a:Nat)(w:zB):LF:=if (a:Int)=lab then Sy w else match F.findIdx? (fun f=>f.1==a) with|some k=>I3 k (F.getD k (0,0,0)) w|none=>some none
noncomputable def Fh (F:List Al)(lab:Int)(ss:zW):List LF:=ss.mapIdx (Gm F lab)
def Hg (h:ss[a]?=some w):(Fh F lab ss)[a]?=some (Gm F lab a w):=by
 unfold Fh;rw[A91,h];rfl
def G3 :(Fh F lab ss).length=ss.length:=by unfold Fh;simp
def Aq0 (m:(F.map (·.1)).Nodup)(h:F[i]?=some f):F.findIdx? (fun g=>g.1==f.1)=some i:=by
 obtain⟨hi,rfl⟩:=A05.1 h;refine A52.2 ⟨hi,mV,fun j t=>?_⟩;simp only[beq_iff_eq];intro e;have:=(A9e (xs:=F.map (·.1)) (h₀:=by rw[A03];omega) (h₁:=by rw[A03];omega) (i:=j) (j:=i) m).1 (by rw[A3v,A3v];exact e);omega
def Zu (j:(F.map (·.1)).Nodup)(e:F[i]?=some f)(h:(f.1:Int)≠lab):Gm F lab f.1 w=I3 i f w:=by
 unfold Gm;rw[if_neg h,Aq0 j e];simp[A02,e]
def Gn (h:(a:Int)≠lab):Gm F lab a w=some none\/∃ (i:Nat) (f:Al),F[i]?=some f/\f.1=a/\Gm F lab a w=I3 i f w:=by
 unfold Gm;rw[if_neg h];cases hx:F.findIdx? (fun f=>f.1==a) with
 |none=>exact .inl rfl
 |some k =>
  obtain⟨e,j,_⟩:=A52.1 hx;right;refine⟨k,F[k],A01 e,by simpa using j,?_⟩;simp[A02,A01 e]
def Aoa (L:-1<=lab){a b:Nat}{q K:Rat}(j:(Fh F lab ss)[a]?=some (some (some (p,q))))(H:(Fh F lab ss)[b]?=some (some (some (p,K)))):b=a:=by
 have key:∀ {a:Nat} {q:Rat},(Fh F lab ss)[a]?=some (some (some (p,q)))->((a:Int)=lab/\p.1 = -1)\/∃ (i:Nat) (f:Al),F[i]?=some f/\f.1=a/\p.1=(i:Int):=by
  intro a q j;unfold Fh at j;rw[A91]at j;cases hw:ss[a]? with
  |none=>rw[hw]at j;cases j
  |some w =>
   rw[hw]at j;simp only[A4c,A1f]at j;by_cases h:(a:Int)=lab
   ·left;unfold Gm Sy at j;rw[if_pos h]at j;split at j
    ·cases j
    cases j;exact⟨h,rfl⟩
   right;rcases Gn (F:=F) (w:=w) h with e|⟨i,f,m,t,E⟩
   ·rw[e]at j;cases j
   rw[E]at j;refine⟨i,f,m,t,?_⟩;unfold I3 at j;split at j
   ·cases j;rfl
   split at j
   ·split at j<;>cases j
   cases j;rfl
 rcases key j with ⟨m,t⟩|⟨i,f,m,t,E⟩<;>rcases key H with ⟨u,J⟩|⟨I,f',u,J,P⟩
 ·omega
 ·omega
 ·omega
 obtain rfl:I=i:=oV;rw[m]at u;cases u;omega
end
section
variable {q:Rat}{t:zB}{x:LF}
def My {m:PH}{b:Nat}{t:TypeId}{xs:zV}{e:Value}(u:m b=some (.cells xs.toArray t (0,0)))(j:e.cells=xs.toArray):ElP m b 0 e:=fun i x h=>by
 refine⟨_,_,_,u,?_⟩;rw[j]at h;simpa using h
def SmW.dat (h:SmW q):Dat q:=⟨by have:=h.num;omega,h.le⟩
def SmW.sb (h:SmW q):SB q:=h.dn.small oV (pw jV)
def SmW.sb2 (h:SmW q):SB (q*q):=(h.dn.mul h.dn).small oV (pw jV)
def I7:SmW 1:=⟨jV,jV⟩
def LF.Small:LF->Prop
 |some (some x)=>SmW x.2/\PV x.1
 |_=>True
theorem LF.Small.cfd (h:x.Small):CFD 2 343731600 x.cf:=by
 match x,h with
 |none,_=>exact CFD.count (Dn.zero _ _)
 |some none,_=>exact CFD.count ⟨144,jV,fV⟩
 |some (some x),h =>
  have e:Dn 2 343731600 x.2:=by
   have:=h.1.dn.mul (show Dn 1 18540 1 from⟨12,jV,fV⟩);rw[show x.2*1=x.2 by grind]at this;exact this.mono oV
  exact Ao6 ⟨144,jV,fV⟩ e ((h.1.dn.mul h.1.dn).mono oV)
def LF.Small.cfv (h:x.Small):CFV x.cf:=by
 match x,h with
 |none,_=>exact CFV.count 0
 |some none,_=>exact CFV.count 1
 |some (some x),h=>exact Ar0 h.2
def R2 {L:List LF}(h:∀ x∈L,x.Small):∀ i,i<=L.length->CFD (2*i) (1374926400^i) (Iv (CF.num 1) (L.take i))/\CFV (Iv (CF.num 1) (L.take i))
 |0,_=>⟨CFD.count ⟨1,jV,fV⟩,CFV.count 1⟩
 |i+1,hi=>by
  obtain⟨m,u⟩:=R2 h i oV;have j:=h _ (A09 (show i<L.length by omega));have e:L.take (i+1)=L.take i++[L[i]]:=by rw[A1n,A01 oV];rfl
  rw[e,Aa0];refine⟨?_,u.mul j.cfv⟩;have:=m.mul j.cfd;rw[show 2*(i+1)=2*i+2 by omega];exact this.mono (by rw[A2d];omega)
def Ax7 {u:PH}{x:zB×Nat}(e:1<=x.2)(h:x.2<=3)(m:Rj x.2 t):zF 158 [D9 x,zS t] u fun v _=>v=zT:=by
 obtain⟨s,k⟩:=x;rcases m with rfl|⟨rfl,C⟩|⟨rfl,z,E,rfl⟩|⟨rfl,q,j,rfl⟩
 ·exact Ati e h
 ·exact Awf C
 ·exact Awl E
 exact Awh j.dat
def Hz (h:Rj 2 t)(j:t≠[]):SmW (Lk t)/\Ae (Lk t)=t:=by
 rcases h with e|⟨e,_⟩|⟨e,_⟩|⟨_,q,m,e⟩
 ·exact absurd e j
 ·omega
 ·omega
 exact Aa7 ⟨q,m,e⟩
def Ahh {T:zC}{F:List Al}{lab:Int}{a:Nat}{x:zB×Nat}(hF:Da T F lab)(u:∀ l:Nat,lab=(l:Int)->∃ n,T[l]?=some (n,2))(P:F.length<=8)(E:T[a]?=some x)(C:Rj x.2 t):(Gm F lab a t).Small:=by
 by_cases h:(a:Int)=lab
 ·obtain⟨n,I⟩:=u a h.symm;rw[E]at I;cases I;unfold Gm Sy;rw[if_pos h];by_cases m:t = []
  ·rw[if_pos m];trivial
  rw[if_neg m];exact⟨(Hz C m).1,⟨by show (-1:Int)<=-1;omega,by show (-1:Int)<=1000;omega,.inl rfl⟩⟩
 rcases Gn (F:=F) (w:=t) h with e|⟨i,f,H,rfl,L⟩
 ·rw[e];trivial
 rw[L];obtain⟨hi,_⟩:=A05.1 H;obtain⟨n,k,Q,j,_⟩:=hF.ok f (A1k H);rw[Q]at E;cases E;unfold I3;rcases j with ⟨J,K,U⟩|⟨J,K,U⟩
 ·rw[if_neg oV];by_cases m:t = []
  ·rw[if_pos m];split<;>trivial
  rw[if_neg m];subst K;exact⟨(Hz C m).1,⟨by show (-1:Int)<=(i:Int);omega,by show (i:Int)<=1000;omega,.inl rfl⟩⟩
 rw[if_pos J];refine⟨I7,⟨by show (-1:Int)<=(i:Int);omega,by show (i:Int)<=1000;omega,?_⟩⟩;rcases C with e|⟨_,R⟩|⟨e,_⟩|⟨e,_⟩
 ·exact .inl e
 ·exact .inr R
 ·omega
 omega
end
section
variable {F:List Al}{T:zC}{f:Al}{i:Nat}{lab:Int}{ss:zW}
structure Bw (T:zC)(ss:zW):Prop where
 len:ss.length=T.length
 val:∀ (i:Nat) (x:zB×Nat) (t:zB),T[i]?=some x->ss[i]?=some t->Rj x.2 t
def Bw.at (h:Bw T ss)(hi:i<ss.length):∃ x,T[i]?=some x/\Rj x.2 ss[i]:=by
 have:=h.len;have e:T[i]?=some (T[i]'oV):=A01 oV;exact⟨_,e,h.val i _ _ e (A01 hi)⟩
def Pp (ss:zW)(f:Al):Bool:=f.2.1==1&&f.2.2==1&&(ss.getD f.1 []).isEmpty
def G4 (F:List Al)(lab:Int)(ss:zW):Bool:=!(decide (0<=lab)&&(ss.getD lab.toNat []).isEmpty) && !F.any (Pp ss)
def Vz (hF:Da T F lab)(j:Bw T ss)(e:f∈F):f.1<ss.length:=by
 obtain⟨n,k,h,_⟩:=hF.ok f e;obtain⟨m,_⟩:=A05.1 h;have:=j.len;omega
def Qq (hF:Da T F lab)(t:Bw T ss)(h:F[i]?=some f):(Fh F lab ss)[f.1]?=some (I3 i f (ss.getD f.1 [])):=by
 have m:=A1k h;have j:=Vz hF t m;obtain⟨n,k,_,_,e⟩:=hF.ok f m;rw[Hg (w:=ss[f.1]) (A01 j),Zu hF.nodup h e];simp[A02,A01 j]
def Amw {l:Nat}(e:lab=(l:Int))(h:l<ss.length):(Fh F lab ss)[l]?=some (Sy (ss.getD l [])):=by
 rw[Hg (w:=ss[l]) (A01 h)];unfold Gm;rw[if_pos e.symm];simp[A02,A01 h]
def Acl (hF:Da T F lab)(X:Bw T ss)(h1:-1<=lab)(U:∀ l:Nat,lab=(l:Int)->l<ss.length):G4 F lab ss=true↔none∉Fh F lab ss:=by
 unfold G4;simp only[A1m,A3w,A8b,decide_eq_false_iff_not,Int.not_le];constructor
 ·rintro⟨a,b⟩ hm;obtain⟨i,hi,H⟩:=A2y hm;have m:(Fh F lab ss)[i]?=some none:=by rw[A01 hi,H]
  have u:i<ss.length:=by rw[G3]at hi;exact hi
  rw[Hg (w:=ss[i]) (A01 u)]at m;simp only[A1f]at m;by_cases t:(i:Int)=lab
  ·unfold Gm Sy at m;rw[if_pos t]at m;split at m
   ·rename_i he;rcases a with a|a
    ·omega
    rw[<-t]at a;simp[A02,A01 u,he]at a
   cases m
  rcases Gn (F:=F) (w:=ss[i]) t with e|⟨j,f,g1,g2,R⟩
  ·rw[e]at m;cases m
  rw[R]at m;unfold I3 at m;split at m
  ·cases m
  rename_i k2;split at m
  ·rename_i he;split at m
   ·rename_i k3;have C:=A1k g1;obtain⟨n,k,_,W,_⟩:=hF.ok f C;have Y:f.2.1=1:=by rcases W with ⟨h,_⟩|⟨h,_⟩;exact h;exact absurd h k2
    have:Pp ss f=true:=by
     unfold Pp;rw[g2];simp[Y,k3,A02,A01 u,he]
    have K:=A6p.1 b f C;rw[this]at K;exact absurd rfl K
   cases m
  cases m
 intro L;constructor
 ·rcases Bas (lab<0) with h|h
  ·exact .inl h
  right;obtain⟨l,I⟩:∃ l:Nat,lab=(l:Int):=⟨lab.toNat,oV⟩;have J:=U l I;have:=Amw (F:=F) I J;rw[I,A23];cases he:ss.getD l [] with
  |cons x y=>rfl
  |nil =>
   rw[he]at this;exact absurd (A1k this) (by simpa[Sy] using L)
 rw[A6p];intro f V E;obtain⟨i,hi,rfl⟩:=A2y V;have:=Qq hF X (A01 hi);unfold Pp at E;simp only[A1m,beq_iff_eq,List.isEmpty_iff]at E;obtain⟨⟨Z,P⟩,Q⟩:=E;rw[Q]at this;refine L ?_;have e:I3 i F[i] []=none:=by unfold I3;rw[if_neg oV,if_pos rfl,if_pos P]
 rw[e]at this;exact A1k this
noncomputable def cfT (F:List Al)(lab:Int)(ss:zW):CF:=Iv (CF.num 1) (Fh F lab ss)
def Ajl (hF:Da T F lab)(t:Bw T ss)(j:-1<=lab)(m:∀ l:Nat,lab=(l:Int)->l<ss.length)(e:G4 F lab ss=false):cfT F lab ss=CF.num 0:=by
 refine Am2 ?_;rcases Bas (none∈Fh F lab ss) with h|h
 ·exact h
 rw[(Acl hF t j m).2 h]at e;cases e
def Alr (hF:Da T F lab)(m:Bw T ss)(e:-1<=lab)(h:∀ l:Nat,lab=(l:Int)->l<ss.length)(j:G4 F lab ss=true):(cfT F lab ss).One :=
 We CF.One.num ((Acl hF m e h).1 j)
def Tv (hF:Da T F lab)(u:Bw T ss)(e:-1<=lab)(j:∀ l:Nat,lab=(l:Int)->l<ss.length)(t:G4 F lab ss=true){a:Nat}{p:Par}{q:Rat}(h:(Fh F lab ss)[a]?=some (some (some (p,q)))):(cfT F lab ss).s p=q :=
 Av3 CF.One.num ((Acl hF u e j).1 t) rfl h fun b C m=>Aoa e h m
def N0 {u:PH}{R:List Br}(ok:Bl u T R F lab)(h:Bw T ss):∀ x∈Fh F lab ss,x.Small:=fun x m=>by
 obtain⟨i,hi,rfl⟩:=A2y m;rw[G3]at hi;have e:=Hg (F:=F) (lab:=lab) (w:=ss[i]) (A01 hi);rw[A01 (by rw[G3];exact hi),A1f]at e;rw[e];obtain⟨y,t,j⟩:=h.at hi;exact Ahh ok.feat ok.l2 ok.f2 t j
end
section
variable {F:List Al}{T:zC}{f:Al}{i n:Nat}{lab:Int}{ss:zW}{x:Par×Rat}
noncomputable def Jf (ss:zW)(i:Nat)(f:Al):Option (Par×Rat) :=
 if f.2.1=2 then some (((i:Int),ss.getD f.1 []),1) else if ss.getD f.1 [] = []\/ss.getD f.1 [] = [48] then none else some (((i:Int),[]),Lk (ss.getD f.1 []))
noncomputable def Dx (F:List Al)(ss:zW)(n:Nat):List (Par×Rat):=(F.zipIdx.take n).filterMap fun p=>Jf ss p.2 p.1
def Ana (F:List Al)(ss:zW):Dx F ss 0 = []:=rfl
def Aaj (h:F[i]?=some f):F.zipIdx[i]?=some (f,i):=by
 rw[A92,h];simp
def Aab (h:F[i]?=some f):Dx F ss (i+1)=Dx F ss i++(Jf ss i f).toList:=by
 unfold Dx;rw[A1n,Aaj h,List.filterMap_append];cases e:Jf ss i f with
 |none=>simp[e]
 |some x=>simp[e]
def F9 :x∈Dx F ss n↔∃ i f,i<n/\F[i]?=some f/\Jf ss i f=some x:=by
 unfold Dx;rw[Baa];constructor
 ·rintro⟨⟨f,i⟩,hm,he⟩;obtain⟨j,h,e⟩:=A2y hm;rw[A1e]at h;rw[A7w,List.getElem_zipIdx]at e;cases e;refine⟨j,_,oV,A01 (by have:=h;simp at this;omega),?_⟩;simpa using he
 rintro⟨i,f,hi,hf,he⟩;refine⟨(f,i),?_,he⟩;have:(F.zipIdx.take n)[i]?=some (f,i):=by rw[A3y,if_pos hi,Aaj hf]
 exact A1k this
def Ow (h:Jf ss i f=some x):x.1.1=(i:Int):=by
 unfold Jf at h;split at h
 ·cases h;rfl
 split at h
 ·cases h
 cases h;rfl
def Nb (F:List Al)(ss:zW):∀ n,n<=F.length->((Dx F ss n).map (·.1)).Nodup
 |0,_=>by rw[Ana];simp
 |n+1,hn=>by
  rw[Aab (A01 (show n<F.length by omega)),A1i];rw[A4p];refine⟨Nb F ss n oV,?_,fun a m b t e=>?_⟩
  ·cases Jf ss n F[n]<;>simp
  subst e;obtain⟨x,C,rfl⟩:=A1b.1 m;obtain⟨i,f,hi,_,u⟩:=F9.1 C;obtain⟨y,E,h⟩:=A1b.1 t;have j:Jf ss n F[n]=some y:=by simpa using E
  have:=Ow u;have:=Ow j;rw[h]at this;omega
def S3 (hF:Da T F lab)(u:Bw T ss)(m:f∈F)(E:f.2.1≠2)(h0:ss.getD f.1 []≠[]):SmW (Lk (ss.getD f.1 []))/\Ae (Lk (ss.getD f.1 []))=ss.getD f.1 []:=by
 obtain⟨n,k,H,j,_⟩:=hF.ok f m;have t:=Vz hF u m;have e:ss.getD f.1 []=ss[f.1]:=by simp[A02,A01 t]
 have C:=u.val f.1 _ _ H (A01 t);rw[<-e]at C;rcases j with ⟨_,rfl,_⟩|⟨h,_⟩
 ·exact Hz C h0
 exact absurd h E
def Um {t:zB}(h:Ae (Lk t)=t):Lk t=0↔t = [48]:=by
 constructor
 ·intro e;rw[<-h,e];exact Fz
 intro e;refine A3m fun j=>?_;exact Sf j (h.trans e)
theorem An5 (hF:Da T F lab)(ht:Bw T ss)(hx:x∈Dx F ss n):x.2≠0/\∃ a:Nat,(Fh F lab ss)[a]?=some (some (some x)):=by
 obtain⟨i,f,_,hf,hv⟩:=F9.1 hx;have hm:=A1k hf;have hl:=Qq hF ht hf;unfold Jf at hv;unfold I3 at hl;split at hv
 ·rename_i h2;cases hv;rw[if_pos h2]at hl;exact⟨(by decide:(1:Rat)≠0),_,hl⟩
 ·rename_i h2;split at hv
  ·cases hv
  ·rename_i h0;cases hv;rw[if_neg h2,if_neg (fun e=>h0 (.inl e))]at hl;refine⟨fun e=>h0 (.inr ?_),_,hl⟩;exact (Um (S3 hF ht hm h2 (fun e=>h0 (.inl e))).2).1 e
noncomputable def Ax2 (lab:Int)(ss:zW):List (Par×Rat):=if 0<=lab/\ss.getD lab.toNat []≠[48] then [((-1,[]),Lk (ss.getD lab.toNat []))] else []
def As8 (hF:Da T F lab)(K:Bw T ss)(L:-1<=lab){a:Nat}(h:(Fh F lab ss)[a]?=some (some (some x)))(H:x.2≠0)(u:∀ l:Nat,lab=(l:Int)->ss.getD l [] = [48]->Lk (ss.getD l [])=0):x∈Ax2 lab ss++Dx F ss F.length:=by
 have t:a<ss.length:=by
  obtain⟨E,_⟩:=A05.1 h;rw[G3]at E;exact E
 have m:ss.getD a []=ss[a]:=by simp[A02,A01 t]
 rw[Hg (w:=ss[a]) (A01 t)]at h;simp only[A1f]at h;by_cases j:(a:Int)=lab
 ·unfold Gm Sy at h;rw[if_pos j]at h;split at h
  ·cases h
  cases h;refine A24 _ ?_;unfold Ax2;have C:ss[a]≠[48]:=fun e=>H (by
   have:=u a j.symm;rw[m]at this;exact this e)
  rw[<-j,A23,m,if_pos ⟨oV,C⟩];exact A12.2 rfl
 rcases Gn (F:=F) (w:=ss[a]) j with e|⟨i,f,g1,g2,I⟩
 ·rw[e]at h;cases h
 rw[I]at h;refine A6v _ (F9.2 ⟨i,f,(A05.1 g1).1,g1,?_⟩);have J:=A1k g1;unfold I3 at h;unfold Jf;rw[g2,m];split at h
 ·rename_i h2;cases h;rw[if_pos h2]
 rename_i h2;split at h
 ·split at h<;>cases h
 rename_i h0;cases h;rw[if_neg h2,if_neg];rintro (e|e)
 ·exact h0 e
 refine H ?_;have:=S3 hF K J h2 (by rw[g2,m];exact h0);rw[g2,m]at this;exact (Um this.2).2 e
end
section
variable {F:List Al}{R:List Br}{T:zC}{i:Nat}{lab:Int}{ss:zW}{tv v:Value}{u:PH}
structure Mv (u:PH)(v tv:Value)(T:zC)(R:List Br)(F:List Al)(lab:Int)(ss:zW):Prop where
 sch:H5 u v T R F lab
 ok:Bl u T R F lab
 lst:Ac u tv 1 (ss.map nmV)
 fit:Bw T ss
def Mv.mono {u j:PH}{v tv:Value}{T:zC}{R:List Br}{F:List Al}{lab:Int}{ss:zW}(h:Mv u v tv T R F lab ss)(e:PH.le u j):Mv j v tv T R F lab ss :=
 ⟨h.sch.mono e,h.ok.mono e,h.lst.mono e,h.fit⟩
def Mv.lt (h:Mv u v tv T R F lab ss):∀ l:Nat,lab=(l:Int)->l<ss.length:=fun l e=>by
 obtain⟨n,j⟩:=h.ok.l2 l e;obtain⟨m,_⟩:=A05.1 j;have:=h.fit.len;omega
def M5 {a:zP}{n c:Nat}(h:Ac u (.slice a n c) 1 (ss.map nmV))(hi:i<ss.length):∃ b off,a=some ⟨b,off,none⟩/\ElP u b (off+i*1) (zS (ss.getD i [])):=by
 have e:ss.getD i []=ss[i]:=by simp[A02,A01 hi]
 rw[e];exact Ac.at' h (j:=i) (by simp[nmV,A01 hi])
def Lm (h:Mv u v tv T R F lab ss) :
 zF 89 [v,tv] u fun r _=>r=zO:=by
 have I:=fun (U:PH) (l:PH.le u U)=>Adn (h.sch.mono l) (h.ok.mono l);obtain⟨⟨xa,xc,xb,xd,xe,xf,rfl,H,Y,W⟩,ok,E,hT⟩:=h;obtain⟨ya,V,rfl⟩:=E.opn;rw[A03]at E⊢;have Q:=hT.len;have t2:=ok.t2;refine Fn0.o func89<|G.c call98 (I u (PH.le_refl _)) ?_;rintro v1 u1 Z rfl;refine G.nF 0 0<|G.nF ss.length T.length<|G.l (ι:=Nat) (fun i=>[(2,.p 0 0),(19,sV ya ss.length V),(20,iV ss.length),(21,iV i)])
  (fun _=>[(0,⟨30,[sV xa T.length xc,sV xb R.length xd,sV xe F.length xf,iV lab]⟩)])
  (fun i U m'=>i<=ss.length/\m'=PH.mt) (fun i=>ss.length-i) 0 ⟨oV,rfl⟩ ?_
 rintro J i X u2 m2 l2 ⟨hi,rfl⟩;have C:=Z.trans l2;by_cases m:i<ss.length
 ·refine G.lT i ss.length ?_;obtain⟨b,off,rfl,e⟩:=M5 (E.mono C) m;refine G.N ss.length V m e ?_;have t:T[i]?=some T[i]:=A01 oV;have K:=ok.att.kind T[i] (A09 oV);have L:=hT.val i _ _ t (A01 m);rw[show ss[i]=ss.getD i [] by simp[A02,A01 m]]at L;obtain⟨ba,oa,rfl,P⟩:=Ac.at' (H.mono C) (j:=i) (e:=D9 T[i]) (by simp[t]);generalize T[i]=x at t K L P;refine G.n T.length xc P<|G.c call158 (Ax7 K.1 K.2 L) ?_;rintro v3 u3 l3 rfl;exact G.i i<|G.b (X (i+1) _ _ _ cV (l2.trans l3) ⟨oV,rfl⟩ oV)
 obtain rfl:i=ss.length:=oV;exact G.lF ss.length ss.length<|G.z zO
def Aig {u m:PH}{v cap:Value}{T:List Al}{fid:Nat}(p:Al->Bool)(r:Bool)(C:T.any p=r)(h:Ac u v 3 (T.map Cm))(I:T.length<=1000000)
 (j:∀ args w,(callFunc fid args).run prog w=.ok (.enter fid args) w) (H:∀ f∈T,∀ E,PH.le u E->FnK prog fid [Cm f,cap] E m fun v _=>v=.bool (p f)) :
 FnK prog 159 [v,.func (.func fid) #[] #[cap]] u m fun J _=>J=.bool r:=by
 obtain⟨a,c,rfl⟩:=h.opn;refine FnK.of func159 kV kV<|G.callK _ _ kV call219 (Alt (cap:=cap) p h I j H) ?_;rintro P L K rfl;cases r with
 |true =>
  obtain⟨x,t,hp⟩:=A5h.1 C;have:0<=Ad1 p T:=by
   unfold Ad1;cases e:T.findIdx? p with
   |none=>exact absurd hp (by rw[List.findIdx?_eq_none_iff.1 e x t];simp)
   |some k=>simp only;omega
  exact G.hT (Ad1 p T) 0<|G.z zT
 |false =>
  have h0:=A6p.1 C;rw[Abp fun x t=>by simpa using h0 x t];exact G.hF (-1) 0<|G.z zL
def Axg {u m:PH}{f:Al}{b:Nat}{H:zP}{j:Nat}(J:ElP m b 0 (.slice H ss.length j))(I:Ac u (.slice H ss.length j) 1 (ss.map nmV))(h:f.1<ss.length) :
 FnK prog 160 [Cm f,.pointer (zA b)] u m fun v _=>v=.bool (Pp ss f):=by
 obtain⟨f1,f2,t⟩:=f;simp only at h;refine FnK.of func160 kV kV ?_;unfold Pp;simp only;by_cases C:f2=1
 ·subst C;refine G.eT (1:Nat) 1 ?_;by_cases E:t=1
  ·subst E;refine G.eT (1:Nat) 1<|G.v none J ?_;obtain⟨K,off,rfl,e⟩:=M5 I h;refine G.N ss.length j h e ?_;by_cases h0:ss.getD f1 [] = []
   ·exact G.q (ss.getD f1 []) [] h0<|G.r zT ⟨rfl,by rw[h0];rfl⟩
   refine G.w (ss.getD f1 []) [] h0 ?_;exact G.r zL ⟨rfl,by
    cases hx:ss.getD f1 [] with
    |nil=>exact absurd hx h0
    |cons x y=>rfl⟩
  exact G.eF t 1<|G.r zL ⟨rfl,by simp[E]⟩
 exact G.eF f2 1<|G.r zL ⟨rfl,by simp[C]⟩
def Yv (h:Mv u v tv T R F lab ss) :
 zF 90 [v,tv] u fun r _=>r=.bool (G4 F lab ss):=by
 have H:=Lm h;have U:=h.lt;obtain⟨⟨xa,xc,xb,xd,xe,xf,rfl,a1,a0,K⟩,ok,J,hT⟩:=h;obtain⟨I,t,rfl⟩:=J.opn;rw[A03]at J H⊢;have f2:=ok.f2;refine Fn0.o func90<|G.c call89 H ?_;rintro v1 Y V rfl;refine G.nF 0 0 ?_;have j:∀ (m:PH) (b:Nat),ElP m b 0 (.slice I ss.length t)->∀ W,PH.le u W->FnK prog 159 [.slice xe F.length xf,.func (.func 160) #[] #[.pointer (zA b)]] W m fun v' _=>v'=.bool (F.any (Pp ss)):=fun m b hb W l =>
  Aig (Pp ss) _ rfl (K.mono l) oV call160 fun f hf a2 l'=>Axg hb (J.mono (l.trans l')) (Vz ok.feat hT hf)
 have C:∀ b:Nat,ElP (PH.mt.upd b (.cells [Value.slice I ss.length t].toArray 51 (0,0))) b 0 (.slice I ss.length t):=fun b=>My (xs:=[.slice I ss.length t]) (Ab _ _ _) rfl;unfold G4;by_cases X:lab<0
 ·refine G.hF lab 0<|G.pub 1 51 [.slice I ss.length t] kV kV ?_;intro b L P;refine G.callK _ _ kV call159 (j _ b (C b) Y V) ?_;rintro v2 u2 l2 rfl;rw[decide_eq_false oV];cases F.any (Pp ss) with
  |true =>
   exact G.drop PH.mt kV (PH.mt_le _)<|G.z zL
  |false =>
   exact G.drop PH.mt kV (PH.mt_le _)<|G.z zT
 obtain⟨l,rfl⟩:∃ l:Nat,lab=(l:Int):=⟨lab.toNat,oV⟩;have E:=U l rfl;rw[decide_eq_true oV,A23];refine G.hT l 0 ?_;obtain⟨Z,off,rfl,e⟩:=M5 (J.mono V) E;refine G.N ss.length t E e ?_;by_cases h0:ss.getD l [] = []
 ·exact G.q (ss.getD l []) [] h0<|G.r zL ⟨rfl,by rw[h0];rfl⟩
 have Q:(ss.getD l []).isEmpty=false:=by
  cases hx:ss.getD l [] with
  |nil=>exact absurd hx h0
  |cons x y=>rfl
 rw[Q];refine G.w (ss.getD l []) [] h0<|G.pub 1 51 [.slice (some ⟨Z,off,none⟩) ss.length t] kV kV ?_;intro b L P;refine G.callK _ _ kV call159 (j _ b (C b) Y V) ?_;rintro v2 u2 l2 rfl;cases F.any (Pp ss) with
 |true =>
  exact G.drop PH.mt kV (PH.mt_le _)<|G.z zL
 |false =>
  exact G.drop PH.mt kV (PH.mt_le _)<|G.z zT
def Amh (h:Mv u v tv T R F lab ss) :
 zF 136 [v,tv] u fun r _=>r=if lab<0\/ss.getD lab.toNat [] = [] then .tuple #[zS [48],zL] else .tuple #[zS (ss.getD lab.toNat []),zT]:=by
 have t:=Lm h;have E:=h.lt;obtain⟨⟨xa,xc,V,W,X,Y,rfl,K,J,I⟩,ok,C,hT⟩:=h;obtain⟨Z,H,rfl⟩:=C.opn;rw[A03]at C t⊢;refine Fn0.o func136<|G.c call89 t ?_;rintro U Q L rfl;refine G.nF 0 0 ?_;by_cases m:lab<0
 ·exact G.lT lab 0<|G.r (.tuple #[zS [48],zL]) ⟨rfl,by rw[if_pos (.inl m)]⟩
 obtain⟨l,rfl⟩:∃ l:Nat,lab=(l:Int):=⟨lab.toNat,oV⟩;have j:=E l rfl;rw[A23];refine G.lF l 0 ?_;obtain⟨P,off,rfl,e⟩:=M5 (C.mono L) j;refine G.N ss.length H j e ?_;by_cases h0:ss.getD l [] = []
 ·exact G.q (ss.getD l []) [] h0<|G.r (.tuple #[zS [48],zL]) ⟨rfl,by rw[if_pos (.inr h0)]⟩
 exact G.w (ss.getD l []) [] h0<|G.N ss.length H j e<|G.r (.tuple #[zS (ss.getD l []),zT]) ⟨rfl,by rw[if_neg (fun e=>e.elim oV h0)]⟩
def A0n (h:i<=8):1374926400^i<10^100:=A22 (A10 oV h) jV
def Azz (h:i<8):8*(1374926400^i*343731600)<10^100:=by
 have e:1374926400^i<=1374926400^8:=A10 oV oV;have j:1374926400^8<10^80:=jV
 have m:(10:Nat)^80*100000000000<10^100:=jV
 omega
def Aql (h:Mv u v tv T R F lab ss) :
 zF 208 [v,tv] u fun r C=>∃ j m,r=.func (.func 251) #[] #[.pointer (zA j),.pointer (zA m)]/\ElP C j 0 v/\ElP C m 0 tv:=by
 obtain⟨⟨xa,xc,E,H,I,J,rfl,Z,X,W⟩,ok,Y,hT⟩:=h;obtain⟨K,L,rfl⟩:=Y.opn;rw[A03];have hc:Ag prog 208 [.agg #[.slice xa T.length xc,.slice E R.length H,.slice I F.length J,zI lab],.slice K ss.length L] u PH.mt (fun r C Q=>∃ j m,r=.func (.func 251) #[] #[.pointer (zA j),.pointer (zA m)]/\ElP Q j 0 (.agg #[.slice xa T.length xc,.slice E R.length H,.slice I F.length J,zI lab])/\ElP Q m 0 (.slice K ss.length L)):=by
  refine Ag.o func208<|G.pastI<|G.pub 0 30 [.slice xa T.length xc,.slice E R.length H,.slice I F.length J,zI lab] kV kV ?_;intro j a1 a0;refine G.pub 1 51 [.slice K ss.length L] kV kV ?_;intro m a2 t;have P:j≠m:=fun e=>by subst e;rw[Ab]at t;cases t
  exact G.r (.func (.func 251) #[] #[.pointer (zA j),.pointer (zA m)]) ⟨j,m,rfl,My (xs:=[.slice xa T.length xc,.slice E R.length H,.slice I F.length J,zI lab]) (by rw[Ad _ _ P,Ab]) rfl,My (xs:=[.slice K ss.length L]) (Ab _ _ _) rfl⟩
 refine Fn0.weak hc.giveAll ?_;rintro r C ⟨u1,m1,_,l2,j,m,e,U,V⟩;exact⟨j,m,e,U.mono l2,V.mono l2⟩
end
section
variable {F:List Al}{R:List Br}{T:zC}{a:zP}{c k n:Nat}{l:zK}{m m0 u:PH}
def nmA (j:Nat):zB:=[97]++[Zq j]
def nmR (j:Nat):zB:=[114]++[Zq j]
def Axx (h:n<=6):Rc ((List.range n).map nmA):=by
 have e:∀ n:Fin 7,(((List.range n.val).map nmA).all Hn&&decide ((List.range n.val).map nmA).Nodup)=true:=jV
 exact Sc (e ⟨n,oV⟩)
def Ayn (h:n<=6):Rc ((List.range n).map nmR):=by
 have e:∀ n:Fin 7,(((List.range n.val).map nmR).all Hn&&decide ((List.range n.val).map nmR).Nodup)=true:=jV
 exact Sc (e ⟨n,oV⟩)
structure TOK (T:zC):Prop where
 nm:T.map (·.1)=(List.range T.length).map nmA
 kd:∀ a∈T,1<=a.2/\a.2<=3
 le:T.length<=6
def TOK.nil:TOK []:=⟨rfl,fun a e=>by simp at e,mV⟩
def TOK.snoc (h:TOK T)(j:1<=k)(t:k<=3)(E:T.length<6):TOK (T++[(nmA T.length,k)]):=by
 refine⟨?_,fun a C=>?_,gV⟩
 ·rw[A1i,h.nm,A1d,A20,A5d,A1i];rfl
 rcases A1h.1 C with e|e
 ·exact h.kd a e
 obtain rfl:=A12.1 e;exact⟨j,t⟩
structure TOM (N:Nat)(T:zC):Prop extends TOK T where
 lem:T.length<=N
def TOM.nil (N:Nat):TOM N []:=⟨TOK.nil,A1t _⟩
def TOM.snocm {N:Nat}(h:TOM N T)(e:1<=k)(j:k<=3)(C:T.length<N)(t:N<=6):TOM N (T++[(nmA T.length,k)]) :=
 ⟨h.toTOK.snoc e j oV,by rw[A1d,A20];omega⟩
def TOK.att (h:TOK T):Aq4 T:=⟨by rw[h.nm];exact Axx h.le,h.kd⟩
structure LOK (l:zK)(n:Nat):Prop where
 asc:l.Pairwise (· < ·)
 lt:∀ a∈l,a<n
 len:l.length<=n
def LOK.nil:LOK [] 0:=⟨List.Pairwise.nil,fun a e=>by simp at e,mV⟩
def LOK.up (h:LOK l n):LOK l (n+1):=⟨h.asc,fun a e=>by have:=h.lt a e;omega,by have:=h.len;omega⟩
def LOK.snoc (h:LOK l n):LOK (l++[n]) (n+1):=by
 refine⟨A35.2 ⟨h.asc,A6f _ _,fun a j b t=>?_⟩,fun a j=>?_,by simp;have:=h.len;omega⟩
 ·obtain rfl:=A12.1 t;exact h.lt a j
 rcases A1h.1 j with e|e
 ·have:=h.lt a e;omega
 obtain rfl:=A12.1 e;omega
def LOK.zero (h:0<n):LOK [0] n:=⟨A6f _ _,fun a e=>by
 obtain rfl:=A12.1 e;exact h,gV⟩
structure ROK (u:PH)(n:Nat)(R:List Br):Prop where
 nm:R.map (·.1)=(List.range R.length).map nmR
 ne:∀ r∈R,r.2.1≠[]
 ok:∀ r∈R,LOK r.2.1 n
 all:∀ a<n,∃ r∈R,a∈r.2.1
 at':∀ r∈R,Ac u (.slice r.2.2.1 r.2.1.length r.2.2.2) 1 (Ai r.2.1)
def ROK.nil :ROK u 0 []:=⟨rfl,fun a e=>by simp at e,fun a e=>by simp at e,fun a e=>oV,fun a e=>by simp at e⟩
def ROK.mono {u e:PH}{n:Nat}{R:List Br}(h:ROK u n R)(j:PH.le u e):ROK e n R:=⟨h.nm,h.ne,h.ok,h.all,fun r t=>(h.at' r t).mono j⟩
def ROK.snoc {n n':Nat}(h:ROK u n R)(K:n<=n')(I:LOK l n')(H:l≠[])(t:∀ a,n<=a->a<n'->a∈l)(E:Ac u (.slice a l.length c) 1 (Ai l)):ROK u n' (R++[(nmR R.length,l,(a,c))]):=by
 refine⟨?_,fun r j=>?_,fun r j=>?_,fun a C=>?_,fun r j=>?_⟩
 ·rw[A1i,h.nm,A1d,A20,A5d,A1i];rfl
 ·rcases A1h.1 j with e|e
  ·exact h.ne r e
  obtain rfl:=A12.1 e;exact H
 ·rcases A1h.1 j with e|e
  ·have:=h.ok r e;exact⟨this.asc,fun a C=>by have:=this.lt a C;omega,by have:=this.len;omega⟩
  obtain rfl:=A12.1 e;exact I
 ·rcases A2e a n with e|e
  ·obtain⟨r,j,J⟩:=h.all a e;exact⟨r,A24 _ j,J⟩
  exact⟨_,A6v _ (A12.2 rfl),t a e C⟩
 rcases A1h.1 j with e|e
 ·exact h.at' r e
 obtain rfl:=A12.1 e;exact E
def ROK.rel (h:ROK u n R)(I:n<=6)(C:R.length<=6):Py u n R:=by
 refine⟨by rw[h.nm];exact Ayn C,h.ne,fun r e=>(h.ok r e).lt,fun r e=>by have:=(h.ok r e).len;omega,fun r e k x y E H=>?_,h.all,h.at'⟩;obtain⟨j,rfl⟩:=A05.1 E;obtain⟨t,rfl⟩:=A05.1 H;exact A3n.1 (h.ok r e).asc k (k+1) j t oV
structure FOK (T:zC)(F:List Al)(lab:Int)(a:Nat):Prop where
 feat:Da T F lab
 lt:∀ f∈F,f.1<a
 len:F.length<=a
 l1:-1<=lab
 l2:∀ l:Nat,lab=(l:Int)->l<a/\∃ n,T[l]?=some (n,2)
def FOK.nil :FOK T [] (-1) 0:=⟨⟨fun f e=>by simp at e,mV⟩,fun f e=>by simp at e,mV,oV,fun l h=>oV⟩
def FOK.skip {lab:Int}{a:Nat}(h:FOK T F lab a):FOK T F lab (a+1):=⟨h.feat,fun f j=>by have:=h.lt f j;omega,by have:=h.len;omega,h.l1,fun l t=>by
 obtain⟨C,e⟩:=h.l2 l t;exact⟨oV,e⟩⟩
def FOK.lab {lab:Int}{a:Nat}{n:zB}(h:FOK T F lab a)(C:T[a]?=some (n,2)):FOK T F (a:Int) (a+1):=by
 refine⟨⟨fun f e=>?_,h.feat.nodup⟩,fun f e=>by have:=h.lt f e;omega,by have:=h.len;omega,oV,fun l H=>?_⟩
 ·obtain⟨n,k,j,t,E⟩:=h.feat.ok f e;exact⟨n,k,j,t,by have:=h.lt f e;omega⟩
 obtain rfl:l=a:=oV;exact⟨oV,n,C⟩
def FOK.put {lab:Int}{a k:Nat}{n:zB}{g:Nat×Nat}(h:FOK T F lab a)(C:T[a]?=some (n,k))(E:(g.1=1/\k=2/\g.2<=1)\/(g.1=2/\k=3/\g.2=0)):FOK T (F++[(a,g)]) lab (a+1):=by
 refine⟨⟨fun f j=>?_,?_⟩,fun f j=>?_,by simp;have:=h.len;omega,h.l1,fun l H=>?_⟩
 ·rcases A1h.1 j with e|e
  ·exact h.feat.ok f e
  obtain rfl:=A12.1 e;refine⟨n,k,C,E,fun e=>?_⟩;have:=(h.l2 a e.symm).1;omega
 ·rw[A1i];refine A4p.2 ⟨h.feat.nodup,mV,fun x I y J=>?_⟩;obtain⟨f,j,rfl⟩:=A1b.1 I;have:=h.lt f j;simp at J;omega
 ·rcases A1h.1 j with e|e
  ·have:=h.lt f e;omega
  obtain rfl:=A12.1 e;show a<a+1;omega
 obtain⟨K,t⟩:=h.l2 l H;exact⟨oV,t⟩
def Aw6 {lab:Int}(hT:TOK T)(j:ROK u T.length R)(hF:FOK T F lab T.length)(h0:0<T.length)(h:0<R.length)(e:R.length<=6):Bl u T R F lab :=
 ⟨hT.att,j.rel hT.le e,hF.feat,h0,by have:=hT.le;omega,h,e,by have:=hF.len;have:=hT.le;omega,hF.l1,fun l t=>(hF.l2 l t).2⟩
def Acx (a:zP)(c:Nat)(T:zC):Arr:=⟨.slice a T.length c,96,2,T.map D9⟩
def Zn (a:zP)(c:Nat)(R:List Br):Arr:=⟨.slice a R.length c,98,2,R.map Hs⟩
def W3 (a:zP)(c:Nat)(F:List Al):Arr:=⟨.slice a F.length c,100,3,F.map Cm⟩
def Agt (a:zP)(c:Nat)(l:zK):Arr:=⟨.slice a l.length c,3,1,Ai l⟩
def Ath :(Acx a c T).At m0 m=Af m0 m (.slice a T.length c) 96 2 (T.map D9):=rfl
theorem Aj5 :(Zn a c R).At m0 m=Af m0 m (.slice a R.length c) 98 2 (R.map Hs):=rfl
def Acb :(W3 a c F).At m0 m=Af m0 m (.slice a F.length c) 100 3 (F.map Cm):=rfl
def Aca :(Agt a c l).At m0 m=Af m0 m (.slice a l.length c) 3 1 (Ai l):=rfl
def Ak2 (x:zB×Nat):A9 2 [D9 x]:=by
 intro e h;simp at h;subst h;exact⟨rfl,fun y j=>by simp[D9,Value.cells]at j;rcases j with rfl|rfl<;>rfl⟩
def Sh (x:Br):A9 2 [Hs x]:=by
 intro e h;simp at h;subst h;exact⟨rfl,fun y j=>by simp[Hs,Value.cells]at j;rcases j with rfl|rfl<;>rfl⟩
def Kg (x:Al):A9 3 [Cm x]:=by
 intro e h;simp at h;subst h;exact⟨rfl,fun y j=>by simp[Cm,Value.cells]at j;rcases j with rfl|rfl|rfl<;>rfl⟩
end
end Go.Proofs.YtemmheaocgmebaaGreatDoor
