/- Parts of one proof, joined by a program. -/
import Derived.Test.YtdgncafgglafjaaGreatDoorQ08
set_option linter.defProp false
set_option linter.unusedVariables false
set_option linter.unusedSimpArgs false
set_option linter.unusedSectionVars false
set_option maxHeartbeats 16000000
namespace Go.Proofs.YtdgncafgglafjaaGreatDoor
open Go.Proofs.Tryz
open Go.RowKit Go.MapKept
def A8q:=@Array.size_modify
def A35:=@List.filter_append
def A48:=@List.filter_cons_of_pos
def A36:=@List.filter_cons_of_neg
def A3h:=@List.length_filter_le
def A85:=@List.pairwise_singleton
def A8d:=@Rat.intCast_sub
def A22:=@Rat.intCast_le_intCast
def A1s:=@Rat.mul_nonneg
def A7u:=@Rat.le_refl
def A7f:=@Rat.le_total
def A84:=@Rat.le_of_lt
def A34:=@Rat.mul_eq_zero
def A7g:=@Rat.mul_zero
def A4t:=@Rat.natCast_le_natCast
def A9u:=@Rat.not_lt
def Bat:=@Rat.mul_pos
section
variable {H:CF}
def Ap {α:Type}(f:α->Rat):List α->Rat
 |[]=>0
 |a::l=>f a+Ap f l
section
variable {α β:Type} {f g:α->Rat}
theorem Nv:∀ (l d:List α),Ap f (l++d)=Ap f l+Ap f d
 |[],d=>by show Ap f d=0+Ap f d;grind
 |a::l,d=>by show f a+Ap f (l++d)=f a+Ap f l+Ap f d;rw[Nv l d];grind
theorem Sw (l:List α)(a:α):Ap f (l++[a])=Ap f l+f a:=by
 rw[Nv];show _+(f a+0)=_;grind
def Aj:∀ {l:List α},(∀ a∈l,f a=g a)->Ap f l=Ap g l
 |[],_=>rfl
 |a::l,h=>by
  show f a+Ap f l=g a+Ap g l;rw[h a (A1g ..),Aj fun x d=>h x (A01 _ d)]
theorem C0:∀ (l:List α),Ap (fun a=>f a+g a) l=Ap f l+Ap g l
 |[]=>by show (0:Rat)=0+0;grind
 |a::l=>by show f a+g a+Ap (fun a=>f a+g a) l=(f a+Ap f l)+(g a+Ap g l);rw[C0 l];grind
theorem Fc (k:Rat):∀ (l:List α),Ap (fun a=>f a*k) l=Ap f l*k
 |[]=>by show (0:Rat)=0*k;grind
 |a::l=>by show f a*k+Ap (fun a=>f a*k) l=(f a+Ap f l)*k;rw[Fc k l];grind
theorem Cv (k:Rat)(l:List α):Ap (fun a=>k*f a) l=k*Ap f l:=by
 rw[show (fun a=>k*f a)=fun a=>f a*k from funext fun a=>by grind,Fc];grind
theorem Bk:∀ {l:List α},(∀ a∈l,f a=0)->Ap f l=0
 |[],_=>rfl
 |a::l,h=>by
  show f a+Ap f l=0;rw[h a (A1g ..),Bk fun x d=>h x (A01 _ d)];grind
def Sj (h:β->α):∀ (l:List β),Ap f (l.map h)=Ap (fun b=>f (h b)) l
 |[]=>rfl
 |a::l=>by show f (h a)+Ap f (l.map h)=f (h a)+Ap (fun b=>f (h b)) l;rw[Sj h l]
end
def Ae (P:List Par):List (Option Par):=none::P.map some
def Eb:Par:=(-1,[])
def Aq (C:CF):Option Par->Option Par->Rat
 |none,none=>C.c
 |none,some p=>C.s p
 |some p,none=>C.s p
 |some p,some q=>C.t (Aw p q)
def Av (C:CF):Option Par->Rat
 |none=>C.s Eb
 |some p=>C.t (Aw Eb p)
def Cp (b:Option Par->Rat)(P:List Par)(C:CF):Rat:=Ap (fun e=>Ap (fun f=>b e*Aq C e f*b f) (Ae P)) (Ae P)
def sqC (b:Option Par->Rat)(P:List Par)(C:CF):Rat:=Cp b P C+C.t (Aw Eb Eb)-2*Ap (fun e=>b e*Av C e) (Ae P)
def Aba (C H:CF)(w:Rat)(e f:Option Par):Aq (C.add (H.scale w)) e f=Aq C e f+Aq H e f*w:=by
 cases e<;>cases f<;>rfl
def X8 (C H:CF)(w:Rat)(e:Option Par):Av (C.add (H.scale w)) e=Av C e+Av H e*w:=by
 cases e<;>rfl
theorem Aav (b:Option Par->Rat)(P:List Par)(C H:CF)(w:Rat):Cp b P (C.add (H.scale w))=Cp b P C+Cp b P H*w:=by
 unfold Cp;rw[<-Fc w,<-C0];refine Aj fun e _=>?_;rw[<-Fc w,<-C0];refine Aj fun f _=>?_;rw[Aba];grind
theorem At0 (b:Option Par->Rat)(P:List Par)(C H:CF)(w:Rat):sqC b P (C.add (H.scale w))=sqC b P C+sqC b P H*w:=by
 unfold sqC;have d:Ap (fun e=>b e*Av (C.add (H.scale w)) e) (Ae P)=Ap (fun e=>b e*Av C e) (Ae P)+Ap (fun e=>b e*Av H e) (Ae P)*w:=by
  rw[<-Fc w,<-C0];exact Aj fun e _=>by rw[X8];grind
 rw[d,Aav];show _+(C.t (Aw Eb Eb)+H.t (Aw Eb Eb)*w)-_=_;grind
def Sv (b:Option Par->Rat)(P:List Par)(x:Par->Rat):Rat:=b none+Ap (fun p=>b (some p)*x p) P
def Abe (x:Par->Rat):Option Par->Rat
 |none=>1
 |some p=>x p
theorem Sb (b:Option Par->Rat)(P:List Par)(x:Par->Rat):Ap (fun e=>b e*Abe x e) (Ae P)=Sv b P x:=by
 unfold Ae Sv;show b none*1+Ap _ (P.map some)=_;rw[Sj];show b none*1+Ap (fun p=>b (some p)*x p) P=_;grind
structure Xj (H:CF):Prop where
 c:H.c=1
 t:∀ p q,H.t (Aw p q)=H.s p*H.s q
theorem Xj.cell (h:Xj H)(e f:Option Par):Aq H e f=Abe H.s e*Abe H.s f:=by
 cases e<;>cases f
 ·show H.c=1*1;rw[h.c];grind
 ·show H.s _=1*H.s _;grind
 ·show H.s _=H.s _*1;grind
 exact h.t _ _
theorem Xj.right (h:Xj H)(e:Option Par):Av H e=H.s Eb*Abe H.s e:=by
 cases e
 ·show H.s Eb=H.s Eb*1;grind
 exact h.t _ _
theorem Xj.norm (h:Xj H)(b:Option Par->Rat)(P:List Par):Cp b P H=Sv b P H.s*Sv b P H.s:=by
 unfold Cp;have d:∀ e,Ap (fun f=>b e*Aq H e f*b f) (Ae P)=(b e*Abe H.s e)*Sv b P H.s:=fun e=>by
  rw[<-Sb,<-Cv];exact Aj fun f _=>by rw[h.cell];grind
 rw[Aj fun e _=>d e,Fc,Sb]
theorem Xj.sq (h:Xj H)(b:Option Par->Rat)(P:List Par):sqC b P H=(H.s Eb-Sv b P H.s)*(H.s Eb-Sv b P H.s):=by
 unfold sqC;have d:Ap (fun e=>b e*Av H e) (Ae P)=H.s Eb*Sv b P H.s:=by
  rw[<-Sb,<-Cv];exact Aj fun e _=>by rw[h.right];grind
 rw[h.norm,d,h.t];grind
structure Uw (H:CF):Prop where
 c:H.c=0
 s:∀ p,H.s p=0
 t:∀ k,H.t k=0
def Uw.cell (h:Uw H)(e f:Option Par):Aq H e f=0:=by
 cases e<;>cases f
 ·exact h.c
 ·exact h.s _
 ·exact h.s _
 exact h.t _
theorem Uw.norm (h:Uw H)(b:Option Par->Rat)(P:List Par):Cp b P H=0 :=
 Bk fun e _=>Bk fun f _=>by rw[h.cell];grind
theorem Uw.sq (h:Uw H)(b:Option Par->Rat)(P:List Par):sqC b P H=0:=by
 unfold sqC;have d:Ap (fun e=>b e*Av H e) (Ae P)=0:=Bk fun e _=>by
  cases e
  ·show b none*H.s Eb=0;rw[h.s];grind
  show b _*H.t _=0;rw[h.t];grind
 rw[h.norm,h.t,d];grind
theorem Lp {T:List (List UInt8×Nat)}{F:List Ao}{lab:Int}{ss:List (List UInt8)}(hF:Ej T F lab)(m:Bp T ss)(d:-1<=lab)(e:∀ l:Nat,lab=(l:Int)->l<ss.length) :
 (Df F lab ss=true/\Xj (cfT F lab ss))\/(Df F lab ss=false/\Uw (cfT F lab ss)):=by
 cases hc:Df F lab ss with
 |false=>right;rw[Ar7 hF m d e hc];exact⟨rfl,rfl,fun _=>rfl,fun _=>rfl⟩
 |true =>
  left;have j:=Ajj hF m d e hc;refine⟨rfl,j.c,fun p q=>?_⟩;rw[j.t,if_neg (Tg p q)];by_cases h:0<Bf p q
  ·rw[Rx h];grind
  rw[H7 h]
theorem Ay1 {P:List Par}(u:P.Nodup){M:List (Par×Rat)}(t:(M.map (·.1)).Nodup)(j:∀ x∈M,x.1∈P)(x:Par->Rat):Ap (fun p=>B8 p M*x p) P=Ap (fun m=>m.2*x m.1) M:=by
 induction M generalizing P with
 |nil=>exact Bk fun p _=>by show (0:Rat)*x p=0;grind
 |cons m M ih =>
  simp only[A1t,A3a]at t;have I:=j m (A1g ..);have d:∀ p,B8 p (m::M)=if p=m.1 then m.2 else B8 p M:=fun p=>by
   obtain⟨k,q⟩:=m;rfl
  obtain⟨A,B,rfl⟩:=A6c I;have h0:B8 m.1 M=0:=L9 t.1;rw[A30]at u;obtain⟨F,n,h⟩:=u;rw[A3a]at n;have z:=ih (P:=A++m.1::B) (by rw[A30];exact⟨F,by rw[A3a];exact n,h⟩) t.2 fun y J=>j y (A01 _ J);rw[Nv]at z⊢;have C:Ap (fun p=>B8 p (m::M)*x p) A=Ap (fun p=>B8 p M*x p) A:=Aj fun p hp=>by
   rw[d,if_neg fun e=>h p hp m.1 (A1g ..) e]
  have E:Ap (fun p=>B8 p (m::M)*x p) B=Ap (fun p=>B8 p M*x p) B:=Aj fun p hp=>by
   rw[d,if_neg (fun e:p=m.1=>n.1 (e▸hp))]
  show _+(B8 m.1 (m::M)*x m.1+Ap _ B)=m.2*x m.1+Ap (fun m=>m.2*x m.1) M;rw[<-z,C,E,d,if_pos rfl];show _=m.2*x m.1+(_+(B8 m.1 M*x m.1+_));rw[h0];grind
end
section
variable {q:Rat}{u:PH}
def Ads (h:Tx q):Fn0 prog 60 [.string (mkS (Ag q))] u fun v _=>v=.int .i64 (sgn q.num):=by
 refine Fn0.o func60<|G.c call59 (Ge h) ?_;rintro K H C rfl;refine G.c call48 (Lh h) ?_;intro L I l2 d;obtain⟨t,n,F,z,g,e,m,j,rfl⟩:=d.opn;refine G.c call134 (Alw d (A0l h.sz.1 oV)) ?_;rintro N J E rfl;exact G.r _ ⟨rfl,rfl⟩
def Afi (h:Tx q):Fn0 prog 167 [.string (mkS (Ag q))] u fun v _=>v=.int .i64 (sgn q.num):=by
 refine Fn0.o func167<|G.c call86 (D9 h) ?_;rintro K H z rfl;refine G.c call26 (H9 h) ?_;intro L I C d;obtain⟨n,m,F,t,e,j,g,rfl,_⟩:=d.opn;refine G.c call137 (Ad7 d (A0l h.sz.1 oV)) ?_;rintro N J E rfl;exact G.r _ ⟨rfl,rfl⟩
end
structure Aem (C:CF)(k:Nat):Prop where
 c:C.c=(k:Rat)
 lt:k<100
 s:∀ p,De 75 18 (C.s p)
 t:∀ p,De 75 18 (C.t p)
def Aem.tx {C:CF}{k:Nat}(h:Aem C k):Tx C.c:=by
 rw[h.c];exact (De.nat (a:=2) (by have:=h.lt;omega)).tx oV oV oV oV
def Aem.cpos {C:CF}{k:Nat}(h:Aem C k)(h0:k≠0):0<C.c:=by
 rw[h.c];have d:=Ai8 k;refine Rat.lt_of_le_of_ne d fun e=>Jf (D:=k) oV e.symm
def Ba (P:List Par):(Ae P).length=P.length+1:=by unfold Ae;simp
section
variable {N d:Nat}{q:Rat}{α:Type}
theorem Dn.lift (j:Nat)(h:Dn d N q):Dn (d+j) (N*12^j) q:=by
 obtain⟨k,e,g⟩:=h;refine⟨k*((12^j:Nat):Int),?_,?_⟩
 ·rw[A1v,A1f,<-e,A4k,A4e];grind
 rw[A2t];exact A1x _ g
def Dn.to {d e N M:Nat}(h:Dn d N q)(j:d<=e)(g:N*12^(e-d)<=M):Dn e M q:=by
 have:=h.lift (e-d);rw[show d+(e-d)=e by omega]at this;exact this.mono g
def Aku {α:Type}{f:α->Rat}{s:Nat}:∀ {l:List α},(∀ a∈l,Sz (f a) s)->Sz (Ap f l) (l.length*(s+1)+1)
 |[],_=>Qu.mono mV
 |a::l,h=>by
  have e:=Alu (h a (A1g ..)) (Aku fun x g=>h x (A01 _ g));exact e.mono (by rw[A1y,A1m];omega)
def Aw5 {l:List α}{f:α->Rat}{s k:Nat}(h:Sz (Ap f l) (l.length*(s+1)+1))(e:l.length<=k):Sz (Ap f l) (k*(s+1)+1):=h.mono (by have:=A1x (s+1) e;omega)
def Amy {l:List α}{i:Nat}{x:α}(h:l[i]?=some x):l.take (i+1)=l.take i++[x]:=by rw[A0t,h];rfl
end
section
open Go.RowKit Go.MapKept Go.Shelf Go.Sort
variable {L:List Par}
def Qx (L:List Par):Bb (L.map An)=L.flatMap Ce:=by
 unfold Bb;rw[List.flatMap_map];rfl
def Fj (L:List Par):(L.flatMap Ce).length=L.length*2:=by
 induction L with
 |nil=>rfl
 |cons x L ih=>rw[A7n,A03,ih,Mh,A1y,A1m];omega
def Abg {L d:List Par}(j:d.length=L.length)(rest:List Value):putCells id 0 (flatK Ce 2 d.toArray) (L.flatMap Ce++rest).toArray=(d.flatMap Ce++rest).toArray:=by
 have g:=Fj L;have h:=Fj d;have m:(flatK Ce 2 d.toArray).size=d.length*2:=by rw[size_flatK];simp
 apply Bae;intro t;unfold putCells;rw[Array.getElem?_mapIdx,A2x,A2x,m];by_cases e:t<d.length*2
 ·rw[A09 oV,A09 oV,P8 Mh d t e];have:(L.flatMap Ce)[t]?=some (L.flatMap Ce)[t]:=A0i oV;rw[this];simp only[A3g,A1c,A2e,true_and,if_pos e,id,A68];rw[get_flatK Ce 2 _ t (by simpa using e)]
 rw[A1d oV,A1d oV,g,h,j];cases hr:rest[t-L.length*2]? with
 |none=>rfl
 |some x =>
  simp only[A3g,A1c,A2e,true_and];rw[if_neg oV]
def Ad4 (L:List Par):Bm 2 (L.map An):=by
 intro e g;obtain⟨x,_,rfl⟩:=A0r.1 g;exact⟨rfl,fun y d=>by simp[An,Value.cells]at d;rcases d with rfl|rfl<;>rfl⟩
def Arm {u m0 m:PH}{v:Value}(hA:Af m0 m v 78 2 (L.map An))(a3:L.Nodup)(hl:L.length<=1000000) :
 Ah prog 159 [v,.func (.func 160) #[] #[]] u m fun r u' m'=>r=.tuple #[]/\Af m0 m' v 78 2 ((E5 Bf L).map An):=by
 have hp:=Hx (c:=Bf) L;have J:(E5 Bf L).length=L.length:=hp.length_eq;intro w N;obtain⟨a4,h⟩:=hA;rcases h with ⟨rfl,he,rfl⟩|⟨g,cap,rest,Z,rfl,rfl,O,I,K⟩
 ·have hL:L = []:=by simpa using he
  subst hL;refine (AnyF.slices_SortFunc_none Tryz.sortPar none 0 _ w).mono ?_;rintro e w' ⟨rfl,rfl⟩;exact⟨_,u,m,rfl,N,⟨A0s _,fun _ _ _=>rfl,fun _ _=>rfl,fun _ _ h=>h,⟨rfl,rfl⟩,fun f=>f.elim⟩,rfl,by
   have e:E5 Bf ([]:List Par) = []:=List.length_eq_zero_iff.1 J;rw[e];exact Af.nil _ _ _⟩
 rw[A0k]at O⊢;rw[Qx]at I N;have R:w.heap[g]?=some (.cells (L.flatMap Ce++rest).toArray 78 (0,0)):=N.pm g _ (Ac _ _ _);have hH:HoldsK Ce 2 w g 0 L.toArray:=Ane (enc:=Ce) (k:=2) Mh R (by
  show (L.flatMap Ce++rest).take (L.length*2)=_;rw[A47 (by rw[Fj];omega),A00 (by rw[Fj];omega)])
 have W:g<w.heap.size:=Cf R;have H:=AnyQ.slices_SortFunc_total Tryz.sortPar 2 (fun w=>kV) (fun w=>kV) Ce (fun _=>rfl) (fun x v hv=>by simp at hv;rcases hv with rfl|rfl<;>rfl) Bf Dl.swo 160 #[] g 0 cap L.toArray w call160 (Aiu g 0 _ w) hH W gV Dl.tot
 change Calls prog 159 _ _ _ at H;simp only[A7k]at H;refine Calls.mono H ?_;rintro e w' ⟨rfl,nn,os,rfl⟩;change Aup _ _ _ (sortWorldK Ce 2 w g 0 nn (E5 Bf L).toArray os);obtain⟨w',U⟩:∃ w',w'=sortWorldK Ce 2 w g 0 nn (E5 Bf L).toArray os:=⟨_,rfl⟩;have C:w'.heap=w.heap.modify g (onCells (putCells id 0 (flatK Ce 2 (E5 Bf L).toArray)))++os:=by rw[U];rfl
 have a0:w'.os=w.os/\w'.output=w.output:=by rw[U];exact⟨rfl,rfl⟩
 rw[<-U];have a1:w.heap.size<=w'.heap.size:=by rw[C,Array.size_append,A8q];omega
 have F:∀ k,k<w.heap.size->k≠g->w'.heap[k]?=w.heap[k]?:=fun k d T=>by
  rw[C,A5n (by rw[A8q];exact d),A75,if_neg (fun e=>T e.symm)]
 have P:w'.heap[g]?=some (.cells ((E5 Bf L).flatMap Ce++rest).toArray 78 (0,0)):=by
  rw[C,A5n (by rw[A8q];exact W),A75,if_pos rfl,R];show some (Obj.cells (putCells id 0 _ _) _ _)=_;rw[Abg J]
 have a2:u g=none:=(N.ap g).resolve_right (by rw[Ac];simp);have Q:=Ad4 (E5 Bf L);refine⟨_,fun k=>if k<w.heap.size then u k else w'.heap[k]?,m0.upd g (.cells (Bb ((E5 Bf L).map An)++rest).toArray 78 (0,0)),rfl,⟨?_,?_,?_,?_⟩,⟨a1,?_,?_,?_,a0,fun f=>f.elim⟩,rfl,Q,.inr ⟨g,cap,rest,Z,rfl,by rw[A0k,J],by rw[A0k,J];exact O,?_,K⟩⟩
 ·intro k o d;simp only at d;split at d
  ·rename_i E;have T:k≠g:=fun e=>by subst e;rw[a2]at d;cases d
   rw[F k E T];exact N.pu k o d
  exact d
 ·intro k o d;by_cases e:k=g
  ·subst e;rw[Ac]at d;cases d;rw[P,Qx]
  rw[Ad _ _ e]at d;have:=N.pm k o (by rw[Ad _ _ e];exact d);rw[F k (Cf this) e];exact this
 ·intro k;simp only;by_cases E:k<w.heap.size
  ·rw[if_pos E];rcases N.ap k with h|h
   ·exact .inl h
   by_cases e:k=g
   ·subst e;rw[Ac]at h;cases h
   right;rw[Ad _ _ e]at h⊢;exact h
  right;have e:k≠g:=fun e=>oV;rw[Ad _ _ e];have:=N.pm.none (g:=k) (by show w.heap.size<=k;omega);rw[Ad _ _ e]at this;exact this
 ·intro k cs t fr j z d Y;simp only;by_cases E:k<w.heap.size
  ·rw[if_pos E];by_cases e:k=g
   ·subst e;rw[P]at d;cases d;exfalso;have X:Value.int .u64 z∈(E5 Bf L).flatMap Ce++rest:=by
     rw[A2x]at Y;exact A0w Y
    have V:∀ x∈(E5 Bf L).flatMap Ce++rest,Be x=true:=fun x hx=>by
     rcases A04.1 hx with h|h
     ·rw[<-Qx]at h;exact Gu Q x h
     exact K x h
    have:=V _ X;cases this
   rw[F k E e]at d;exact N.cl k cs t fr j z d Y
  rw[if_neg E];exact d
 ·intro k d n;refine F k d fun e=>?_;subst e;simp only at n;rw[Ac]at n;cases n
 ·intro k d;simp only;exact if_pos d
 ·intro k d n;by_cases e:k=g
  ·subst e;simp only at n;rw[Ac]at n;cases n
  simp only at n;rw[Ad _ _ e]at n⊢;exact n
 rw[Qx,A03,Fj,J];rw[A03,Fj]at I;exact I
end
section
variable {F:List Ao}{R:List Bw}{T:List (List UInt8×Nat)}{lab:Int}{n:Nat}{u:PH}{v:Value}
def Ac6 (F:List Ao)(lab:Int)(p:Par):Prop:=(p.1 = -1/\0<=lab/\p.2 = [])\/(∃ (k:Nat) (f:Ao),p.1=(k:Int)/\F[k]?=some f/\(f.2.1=2\/p.2 = []))
def Aqn {p:Par}(N:Ic u v T R F lab)(ok:B2 u T R F lab)(hp:Ac6 F lab p) :
 Fn0 prog 157 [v,An p] u fun r _=>r=.bool true:=by
 obtain⟨W,Y,X,Z,xe,U,rfl,L,K,z⟩:=N;have O:=ok.f2;refine Fn0.o func157 ?_;rcases hp with ⟨h,t,g⟩|⟨k,f,h,E,g⟩
 ·exact G.eT' p.1 (-1) h<|G.hT' lab 0 t<|G.q p.2 [] g<|G.r (.bool true) ⟨rfl,rfl⟩
 obtain⟨V,Q⟩:=p;simp only at h g;subst h;have P:=(A0o.1 E).1;obtain⟨m,C,rfl,H⟩:=Ab.at' z (j:=k) (e:=C4 f) (by simp[E]);obtain⟨I,d,J⟩:=f;simp only at g;refine G.eF k (-1)<|G.hF k F.length<|G.a m C F.length U k 3 P<|G.f 98 m (C+k*3) 1 1<|G.lU none m (C+k*3+1) (.int .i64 d) (H.fld (j:=1) (xs:=#[.int .i64 I,.int .i64 d,.int .i64 J]) rfl rfl) ?_;by_cases t:d=2
 ·exact G.eT d 2<|G.r (.bool true) ⟨rfl,rfl⟩
 exact G.eF d 2<|G.q Q [] (g.resolve_left t)<|G.r (.bool true) ⟨rfl,rfl⟩
def Atf {u m:PH}{b:Nat}{x:Par×Rat}(t:ElP m b 0 v)(e:Ic u v T R F lab)(ok:B2 u T R F lab)(hp:Ac6 F lab x.1) :
 FnK prog 156 [As x,.pointer (some ⟨b,0,none⟩)] u m fun v _=>v=.bool false:=by
 have d:=Aqn e ok hp;obtain⟨z,E,C,H,I,J,rfl,j,h,g⟩:=e;refine FnK.of func156 kV kV<|G.lM (some 4) b 0 (.agg #[.slice z T.length E,.slice C R.length H,.slice I F.length J,.int .i64 lab]) t<|G.c call157 d ?_;rintro N L K rfl;exact G.r (.bool false) ⟨rfl,rfl⟩
def Aq0 {u m:PH}{v cap:Value}{T:List (Par×Rat)}{fid:Nat}(h:Ab u v 3 (T.map As))(U:T.length<=1000000)
 (d:∀ args w,(callFunc fid args).run prog w=.ok (.enter fid args) w) (L:∀ p∈T,∀ C,PH.le u C->FnK prog fid [As p,cap] C m fun v _=>v=.bool false) :
 FnK prog 216 [v,.func (.func fid) #[] #[cap]] u m fun P _=>P=.int .i64 (-1):=by
 obtain⟨a,c,rfl⟩:=h.opn;rw[A0k]at h⊢;refine FnK.of func216 kV kV<|G.l (ι:=Nat) (fun i=>[(0,sV a T.length c),(1,.v (.func (.func fid) #[] #[cap])),(7,iV T.length),(8,iV i)]) (fun _=>[])
  (fun i C N=>i<=T.length/\N=m) (fun i=>T.length-i) 0 ⟨oV,rfl⟩ ?_
 rintro J i K O V z ⟨Q,rfl⟩;by_cases g:i<T.length
 ·refine G.lT i T.length ?_;have t:T[i]?=some T[i]:=A0i g;obtain⟨E,H,rfl,I⟩:=Ab.at' (h.mono z) (j:=i) (e:=As T[i]) (by simp[t]);refine G.a E H T.length c i 3 oV<|G.lU (some 3) E (H+i*3) (As T[i]) I<|G.callK fid [As T[i],cap] kV d (L T[i] (A0y g) O z) ?_;rintro X W l2 rfl;exact G.i i<|G.b (K (i+1) _ _ _ cV (z.trans l2) ⟨oV,rfl⟩ oV)
 obtain rfl:i=T.length:=oV;exact G.lF T.length T.length<|G.r (.int .i64 (-1)) ⟨rfl,rfl⟩
def Aep {u m:PH}{v cap:Value}{T:List (Par×Rat)}{fid:Nat}(h:Ab u v 3 (T.map As))(j:T.length<=1000000)
 (d:∀ args w,(callFunc fid args).run prog w=.ok (.enter fid args) w) (g:∀ p∈T,∀ e,PH.le u e->FnK prog fid [As p,cap] e m fun v _=>v=.bool false) :
 FnK prog 155 [v,.func (.func fid) #[] #[cap]] u m fun t _=>t=.bool false:=by
 obtain⟨a,c,rfl⟩:=h.opn;refine FnK.of func155 kV kV<|G.callK _ _ kV call216 (Aq0 h j d g) ?_;rintro E C z rfl;exact G.hF (-1) 0<|G.r (.bool false) ⟨rfl,rfl⟩
def Dm (F:List Ao)(n:Nat):List Nat:=(List.range n).filter fun i=>(F.getD i (0,0,0)).2.1==1
def Anr {f:Ao}(d:F[n]?=some f):Dm F (n+1)=if f.2.1=1 then Dm F n++[n] else Dm F n:=by
 unfold Dm;rw[A65,A35];have e:(F.getD n (0,0,0))=f:=by simp[A0j,d]
 by_cases h:f.2.1=1
 ·rw[if_pos h,A48 (by rw[e];simp[h])];rfl
 rw[if_neg h,A36 (by rw[e];simp[h])];simp
def Afe (F:List Ao)(n:Nat):(Dm F n).length<=n:=by
 unfold Dm;exact A0l (A3h _ _) mV
def Wq {n i:Nat}:i∈Dm F n↔i<n/\(F.getD i (0,0,0)).2.1=1:=by
 unfold Dm;simp[A3p]
def Agz (F:List Ao)(n:Nat):(Dm F n).Nodup:=List.nodup_range.filter _
def Afq (U:Ic u v T R F lab)(ok:B2 u T R F lab) :
 Fn0 prog 158 [v] u fun r W=>Ab W r 1 (Ai (Dm F F.length)):=by
 have I:=Ahy U ok;obtain⟨xa,xc,xb,xd,xe,X,rfl,a1,a0,E⟩:=U;have a2:=ok.f2;refine Fn0.o func158<|G.c call106 I ?_;rintro v1 u1 l1 rfl;refine G.nF 0 0<|G.l (ι:=Nat×(Option Addr×Nat)) (fun i=>[(3,sV i.2.1 (Dm F i.1).length i.2.2),(10,sV xe F.length X),(11,iV F.length),(12,iV i.1)]) (fun _=>[])
  (fun i W m'=>i.1<=F.length/\Af PH.mt m' (.slice i.2.1 (Dm F i.1).length i.2.2) 3 1 (Ai (Dm F i.1))) (fun i=>F.length-i.1) (0,(none,0)) ⟨oV,Af.nil _ _ _⟩ ?_
 rintro J ⟨i,⟨L,N⟩⟩ H u2 m2 l2 ⟨hi,h⟩;simp only at hi h H;have K:=l1.trans l2;have a3:=Afe F i;by_cases t:i<F.length
 ·refine G.lT i F.length ?_;obtain⟨f,m⟩:∃ f,F[i]?=some f:=⟨_,A0i t⟩;have z:=Anr m;obtain⟨O,P,rfl,ef⟩:=Ab.at' (E.mono K) (j:=i) (e:=C4 f) (by simp[m]);obtain⟨p1,C,p3⟩:=f;simp only at z;refine G.a O P F.length X i 3 t<|G.lU (some 3) O (P+i*3) (.agg #[.int .i64 p1,.int .i64 C,.int .i64 p3]) ef ?_;by_cases Q:C=1
  ·rw[if_pos Q]at z;refine G.eT C 1<|G.buildU 3 1 8 (.int .i64 0) (Ai [i]) kV (A4 [i]) rfl oV (by simp[Ai]) (by simp[Ai]) ?_;intro g3 u3 V e3;refine G.append 3 1 8 (.int .i64 0) PH.mt (Ai (Dm F i)) (Ai [i]) (.slice L (Dm F i).length N) g3 0 1 1 kV rfl rfl oV h e3 (A4 [i]) rfl oV (by simp[Ai];omega) (by simp[Ai];omega) ?_;intro v4 m4 d;have e4:Ai (Dm F i)++Ai [i]=Ai (Dm F (i+1)):=by rw[z];simp[Ai]
   rw[e4]at d;obtain⟨Y,Z,rfl⟩:=d.shape;have e5:(Ai (Dm F (i+1))).length=(Dm F (i+1)).length:=by simp[Ai]
   rw[e5]at d⊢;exact G.i i<|G.b (H (i+1,(Y,Z)) _ _ _ cV (l2.trans V) ⟨dV,d⟩ dV)
  rw[if_neg Q]at z;refine G.eF C 1<|G.i i ?_;rw[<-z]at h⊢;exact G.b (H (i+1,(L,N)) _ _ _ cV l2 ⟨dV,h⟩ dV)
 obtain rfl:i=F.length:=oV;refine G.lF F.length F.length<|G.give _ _ _ kV h (fun g=>.inl rfl) ?_;intro u3 V hL;exact G.r (.slice L (Dm F F.length).length N) ⟨rfl,hL⟩
end
section
open Go.RowKit Go.MapKept Go.Sort
variable {A:List (Par×Rat)}{C:CF}{F:List Ao}
def Pm (F:List Ao)(p:Par):Bool:=decide (0<=p.1)&&(F.getD p.1.toNat (0,0,0)).2.1==2
def Iu (F:List Ao)(A:List (Par×Rat))(n:Nat):List Par:=((A.take n).map (·.1)).filter (Pm F)
theorem Am7 {n:Nat}{x:Par×Rat}(h:A[n]?=some x):Iu F A (n+1)=if Pm F x.1=true then Iu F A n++[x.1] else Iu F A n:=by
 unfold Iu;have e:A.take (n+1)=A.take n++[x]:=by rw[A0t,h];rfl
 by_cases d:Pm F x.1=true
 ·grind
 grind
def Ard (F:List Ao)(A:List (Par×Rat))(n:Nat):(Iu F A n).length<=A.length:=by
 refine A0l (A3h _ _) ?_;rw[A0k,A0q];omega
def Mp (i:Nat):Par:=((i:Int),[])
def Ka (F:List Ao):List Par:=(Dm F F.length).map Mp
def F1 (p:Par):Bm 2 [An p]:=Ad4 [p]
def Ty (h:(A.map (·.1)).Nodup):(Ka F++Iu F A A.length).Nodup:=by
 refine A30.2 ⟨?_,?_,?_⟩
 ·refine List.Pairwise.map _ (fun a b d e=>?_) (Agz F F.length);unfold Mp at e;simp only[A2c]at e;exact d oV
 ·unfold Iu;rw[A05];exact h.filter _
 intro a j b m e;subst e;obtain⟨i,n,rfl⟩:=A0r.1 j;have g:=(A3p.1 m).2;unfold Pm Mp at g;simp only[A1b,beq_iff_eq,A2r]at g;have t:=(Wq.1 n).2;omega
theorem Z6 (g:Can Bf C.s A){p:Par}:p∈Ka F++Iu F A A.length↔(∃ (i:Nat) (f:Ao),p=Mp i/\F[i]?=some f/\f.2.1=1)\/(C.s p≠0/\∃ (i:Nat) (f:Ao),p.1=(i:Int)/\F[i]?=some f/\f.2.1=2):=by
 have j:p∈A.map (·.1)↔C.s p≠0:=by
  constructor
  ·intro h;obtain⟨x,n,rfl⟩:=A0r.1 h;obtain⟨d,e⟩:=g.val x n;rw[<-d];exact e
  intro h;exact A2h fun m=>h (g.out p m)
 rw[A04];refine or_congr ?_ ?_
 ·unfold Ka;rw[A0r];constructor
  ·rintro⟨i,hi,rfl⟩;obtain⟨d,e⟩:=Wq.1 hi;refine⟨i,F[i],rfl,A0i d,?_⟩;rw[A0j,A0i d,A3s]at e;exact e
  rintro⟨i,f,rfl,hf,d⟩;refine⟨i,Wq.2 ⟨(A0o.1 hf).1,?_⟩,rfl⟩;rw[A0j,hf,A3s];exact d
 unfold Iu;unfold Pm;constructor
 ·grind
 grind
abbrev Dk (F:List Ao)(C:CF)(L:List Par):Prop :=
 D5 Bf L/\∀ p,p∈L↔(∃ (i:Nat) (f:Ao),p=Mp i/\F[i]?=some f/\f.2.1=1)\/(C.s p≠0/\∃ (i:Nat) (f:Ao),p.1=(i:Int)/\F[i]?=some f/\f.2.1=2)
def Dk.eq {L d:List Par}(h:Dk F C L)(e:Dk F C d):L=d :=
 Ad6 Dl h.1 e.1 fun p=>(h.2 p).trans (e.2 p).symm
def Aza (u:PH)(r:Value)(F:List Ao)(C:CF):Prop :=
 (r=.tuple #[.slice none 0 0,.int .i64 3]/\∃ L,24<L.length/\Dk F C L)\/∃ (ps:Value) (L:List Par),r=.tuple #[ps,.int .i64 0]/\Ab u ps 2 (L.map An)/\L.length<=24/\Dk F C L
theorem V2 {u:PH}{v w:Value}{T:List (List UInt8×Nat)}{R:List Bw}{lab:Int}{K:Nat}(hX:Ic u v T R F lab)(ok:B2 u T R F lab)(hC:J0 u w C K)(sC:CFS C)(vC:CFV C)(hK:K<=100000)(hb:∀ p,C.s p≠0->Ac6 F lab p) :
 Fn0 prog 79 [v,w] u fun r u'=>Aza u' r F C:=by
 have ai:=fun (u':PH) (l:PH.le u u')=>Ahy (hX.mono l) (ok.mono l);have an:=fun (u':PH) (l:PH.le u u')=>Ayj (hC.mono l) sC vC oV;obtain⟨U,W,V,X,E,t,rfl,ar,aq,ag⟩:=id hX;obtain⟨A,Q,a1,c1,a2,c2,rfl,hA,hQ,cA,cQ,kA,kQ⟩:=hC;have aw:=ok.f2;refine Fn0.o func79<|G.c call106 (ai u (PH.le_refl _)) ?_;rintro v1 u1 l1 rfl;refine G.nF 0 0<|G.c call154 (an u1 l1) ?_;rintro v2 u2 l2 rfl;have O:=l1.trans l2;refine G.pub 0 28 [.slice U T.length W,.slice V R.length X,.slice E F.length t,.int .i64 lab] kV kV ?_;intro b au av;have a3:∀ (m':PH),m' b=some (.cells [Value.slice U T.length W,.slice V R.length X,.slice E F.length t,.int .i64 lab].toArray 28 (0,0))->ElP m' b 0 (.agg #[.slice U T.length W,.slice V R.length X,.slice E F.length t,.int .i64 lab]):=fun m' h=>Jg (xs:=[.slice U T.length W,.slice V R.length X,.slice E F.length t,.int .i64 lab]) h rfl;obtain⟨z,ac⟩:∃ z:PH,z=PH.mt.upd b (.cells [Value.slice U T.length W,.slice V R.length X,.slice E F.length t,.int .i64 lab].toArray 28 (0,0)):=⟨_,rfl⟩;have n:z b=some (.cells [Value.slice U T.length W,.slice V R.length X,.slice E F.length t,.int .i64 lab].toArray 28 (0,0)):=by rw[ac];exact Ac _ _ _
 rw[<-ac];refine G.callK _ _ kV call155 (Aep (cap:=.pointer (some ⟨b,0,none⟩)) (hA.mono O) oV call156 fun x hx u' l'=>Atf (a3 z n) (hX.mono (O.trans l')) (ok.mono (O.trans l')) (hb x.1 (by obtain⟨q1,q2⟩:=cA.val x hx;rw[<-q1];exact q2))) ?_;rintro v3 u3 l3 rfl;have a9:=O.trans l3;refine G.lM (some 4) b 0 (.agg #[.slice U T.length W,.slice V R.length X,.slice E F.length t,.int .i64 lab]) (a3 z n)<|G.c call158 (Afq (hX.mono a9) (ok.mono a9)) ?_;intro v4 u4 l4 hN;obtain⟨na,nc,rfl⟩:=hN.opn;have al:(Ai (Dm F F.length)).length=(Dm F F.length).length:=by simp[Ai]
 rw[al]at hN⊢;have ay:=Afe F F.length;have ao:=a9.trans l4;refine G.l (ι:=Nat×(Option Addr×Nat)) (fun i=>[(2,.v (.pointer (some ⟨b,0,none⟩))),(3,.p 1 0),(6,sV i.2.1 ((Dm F F.length).take i.1).length i.2.2),(28,sV na (Dm F F.length).length nc),(29,iV ((Dm F F.length).length)),(30,iV i.1)])
  (fun _=>[(1,⟨34,[tV (Ag C.c),sV a1 A.length c1,sV a2 Q.length c2]⟩)])
  (fun i u' m'=>i.1<=(Dm F F.length).length/\Af z m' (.slice i.2.1 ((Dm F F.length).take i.1).length i.2.2) 78 2 ((((Dm F F.length).take i.1).map Mp).map An)) (fun i=>(Dm F F.length).length-i.1) (0,(none,0)) ⟨oV,Af.nil _ _ _⟩ ?_
 rintro J ⟨i,⟨pa,pc⟩⟩ Y u5 m5 l5 ⟨hi,d⟩;simp only at hi d Y;have ap:=ao.trans l5;by_cases m:i<(Dm F F.length).length
 ·refine G.lT i ((Dm F F.length).length:Int) ?_;obtain⟨k,hk⟩:∃ k,(Dm F F.length)[i]?=some k:=⟨_,A0i m⟩;have am:(Dm F F.length).take (i+1)=(Dm F F.length).take i++[k]:=by rw[A0t,hk];rfl
  obtain⟨bb,ob,rfl,eb⟩:=Ab.at' (hN.mono l5) (j:=i) (e:=.int .i64 k) (by simp[Ai,hk]);have b1:((Dm F F.length).take i).length=i:=by rw[A0q];omega
  refine G.a bb ob (Dm F F.length).length nc i 1 m<|G.lU none bb (ob+i*1) (.int .i64 k) eb<|G.B 78 2 24 (.agg #[.int .i64 0,.string (mkS [])]) [.agg #[.int .i64 k,.string (mkS [])]] (F1 (Mp k)) ?_;intro g6 u6 l6 e6;refine G.k 78 2 24 (.agg #[.int .i64 0,.string (mkS [])]) z _ [An (Mp k)] _ g6 0 1 1 d e6 (F1 (Mp k)) ?_;intro v7 m7 H;have e7:(((Dm F F.length).take i).map Mp).map An++[An (Mp k)]=(((Dm F F.length).take (i+1)).map Mp).map An:=by rw[am];simp
  rw[e7]at H;obtain⟨a7,c7,rfl⟩:=H.shape;rw[A0k,A0k]at H⊢;exact G.i i<|G.b (Y (i+1,(a7,c7)) _ _ _ cV (l5.trans l6) ⟨dV,H⟩ dV)
 obtain rfl:i=(Dm F F.length).length:=oV;refine G.lF ((Dm F F.length).length:Int) ((Dm F F.length).length:Int) ?_;clear Y;rw[A05]at d⊢;have aa:Af z m5 (.slice pa (Ka F++Iu F A 0).length pc) 78 2 ((Ka F++Iu F A 0).map An):=by
  have e1:Iu F A 0 = []:=rfl;have e2:(Ka F).length=(Dm F F.length).length:=by unfold Ka;simp
  rw[e1,A1i,e2];exact d
 have e0:(Dm F F.length).length=(Ka F++Iu F A 0).length:=by
  have e1:Iu F A 0 = []:=rfl;have e2:(Ka F).length=(Dm F F.length).length:=by unfold Ka;simp
  rw[e1,A1i,e2]
 rw[e0];have az:(Ka F).length<=8:=by unfold Ka;rw[A0k];omega
 refine G.l (ι:=Nat×(Option Addr×Nat)) (fun i=>[(2,.v (.pointer (some ⟨b,0,none⟩))),(6,sV i.2.1 (Ka F++Iu F A i.1).length i.2.2),(41,sV a1 A.length c1),(42,iV A.length),(43,iV i.1)]) (fun _=>[])
  (fun i u' m'=>i.1<=A.length/\Af z m' (.slice i.2.1 (Ka F++Iu F A i.1).length i.2.2) 78 2 ((Ka F++Iu F A i.1).map An)) (fun i=>A.length-i.1) (0,(pa,pc)) ⟨oV,aa⟩ ?_
 clear d aa e0;rintro J ⟨i,⟨pa,pc⟩⟩ Y u6 m6 l6 ⟨hi,d⟩;simp only at hi d Y;have ae:=ap.trans l6;have ax:=Ard F A i;by_cases m:i<A.length
 ·refine G.lT i A.length ?_;obtain⟨x,a0⟩:∃ x,A[i]?=some x:=⟨_,A0i m⟩;have hs:=Am7 (F:=F) a0;have Z:Ac6 F lab x.1:=hb x.1 (by obtain⟨q1,q2⟩:=cA.val x (A0w a0);rw[<-q1];exact q2);obtain⟨ba,oa,rfl,ea⟩:=Ab.at' (hA.mono ae) (j:=i) (e:=As x) (by simp[a0]);obtain⟨⟨p1,P⟩,q⟩:=x;simp only at hs Z;refine G.a ba oa A.length c1 i 3 m<|G.lU (some 3) ba (oa+i*3) (.agg #[.int .i64 p1,.string (mkS P),.string (mkS (Ag q))]) ea ?_;have step:∀ {u7:PH},PH.le u6 u7->Pm F (p1,P)=false->True:=fun _ _=>trivial;by_cases h0:0<=p1
  ·refine G.hT' p1 0 h0 ?_;obtain⟨k,f,aj,a4⟩:∃ (k:Nat) (f:Ao),p1=(k:Int)/\F[k]?=some f:=by
    rcases Z with ⟨h1,_⟩|⟨k,f,h1,hf,_⟩
    ·simp only at h1;omega
    exact⟨k,f,h1,hf⟩
   subst aj;have ak:=(A0o.1 a4).1;have ad:m6 b=some (.cells [Value.slice U T.length W,.slice V R.length X,.slice E F.length t,.int .i64 lab].toArray 28 (0,0)):=d.see n;refine G.f 28 b 0 2 2<|G.lM none b (0+2) (.slice E F.length t) ((a3 m6 ad).fld (j:=2) (xs:=#[.slice U T.length W,.slice V R.length X,.slice E F.length t,.int .i64 lab]) rfl rfl) ?_;obtain⟨fb,fo,rfl,ef⟩:=Ab.at' (ag.mono ae) (j:=k) (e:=C4 f) (by simp[a4]);refine G.a fb fo F.length t k 3 ak ?_;obtain⟨f1,f2,f3⟩:=f;refine G.f 98 fb (fo+k*3) 1 1<|G.lU none fb (fo+k*3+1) (.int .i64 f2) (ef.fld (j:=1) (xs:=#[.int .i64 f1,.int .i64 f2,.int .i64 f3]) rfl rfl) ?_;have a6:Pm F ((k:Int),P)=(f2==2):=by
    unfold Pm;simp only[A2r,A0j,a4,A3s];rw[decide_eq_true oV];rfl
   rw[a6]at hs;by_cases h2:f2=2
   ·rw[if_pos (by simpa using h2)]at hs;refine G.eT f2 2<|G.B 78 2 24 (.agg #[.int .i64 0,.string (mkS [])]) [.agg #[.int .i64 k,.string (mkS P)]] (F1 ((k:Int),P)) ?_;intro g7 u7 l7 e7;refine G.k 78 2 24 (.agg #[.int .i64 0,.string (mkS [])]) z _ [An ((k:Int),P)] _ g7 0 1 1 d e7 (F1 ((k:Int),P)) ?_;intro v8 m8 I;have e8:(Ka F++Iu F A i).map An++[An ((k:Int),P)]=(Ka F++Iu F A (i+1)).map An:=by rw[hs];simp
    rw[e8]at I;obtain⟨a8,c8,rfl⟩:=I.shape;rw[A0k]at I⊢;exact G.i i<|G.b (Y (i+1,(a8,c8)) _ _ _ cV (l6.trans l7) ⟨dV,I⟩ dV)
   rw[if_neg (by simpa using h2)]at hs;refine G.eF f2 2<|G.i i ?_;rw[<-hs]at d⊢;exact G.b (Y (i+1,(pa,pc)) _ _ _ cV l6 ⟨dV,d⟩ dV)
  refine G.hF' p1 0 h0 ?_;have a6:Pm F (p1,P)=false:=by
   unfold Pm;rw[decide_eq_false h0];rfl
  rw[a6,if_neg mV]at hs;refine G.i i ?_;rw[<-hs]at d⊢;exact G.b (Y (i+1,(pa,pc)) _ _ _ cV l6 ⟨dV,d⟩ dV)
 obtain rfl:i=A.length:=oV;refine G.lF A.length A.length ?_;have N:(Ka F++Iu F A A.length).Nodup:=Ty (cA.srt.nodup Dl);have a5:∀ p,p∈Ka F++Iu F A A.length↔_:=fun p=>Z6 (F:=F) cA (p:=p);have ab:(Ka F++Iu F A A.length).length<=1000000:=by grind
 generalize Ka F++Iu F A A.length=L at d N a5 ab;by_cases af:24<L.length
 ·exact G.gT L.length 24<|G.drop PH.mt kV (PH.mt_le _)<|G.r (.tuple #[.slice none 0 0,.int .i64 3]) ⟨rfl,.inl ⟨rfl,E5 Bf L,by rw[(Hx (c:=Bf) L).length_eq];exact af,Tv Dl N,fun p=>(Hx (c:=Bf) L).mem_iff.trans (a5 p)⟩⟩
 refine G.gF L.length 24<|G.callA _ _ kV kV call159 (Cm m6).symm (Jl m6) (Arm d N ab) ?_;rintro v7 u7 m7 l7 ⟨rfl,hS⟩ _;have hp:=Hx (c:=Bf) L;have b0:(E5 Bf L).length=L.length:=hp.length_eq;refine G.give _ _ _ kV hS (fun g=>.inl rfl) ?_;intro u8 l8 ah;exact G.drop PH.mt kV (PH.mt_le _)<|G.r (.tuple #[.slice pa L.length pc,.int .i64 0]) ⟨rfl,.inr ⟨_,E5 Bf L,rfl,ah,oV,Tv Dl N,fun p=>hp.mem_iff.trans (a5 p)⟩⟩
end
section
variable {A:List (Par×Rat)}{C:CF}{F:List Ao}{i n:Nat}{p:Par}
def G4 (F:List Ao)(A:List (Par×Rat))(i:Nat):List Par:=if (F.getD i (0,0,0)).2.1=1 then [Mp i] else (A.map (·.1)).filter fun p=>p.1==(i:Int)
def G7 (F:List Ao)(A:List (Par×Rat))(n:Nat):List Par:=(List.range n).flatMap (G4 F A)
def S7 (F:List Ao)(A:List (Par×Rat))(n:Nat):G7 F A (n+1)=G7 F A n++G4 F A n:=by
 unfold G7;rw[A65,List.flatMap_append];simp
theorem Z3 (h:p∈G4 F A i):p.1=(i:Int):=by
 unfold G4 at h;split at h
 ·simp at h;subst h;rfl
 grind
def Apq (h:p∈G7 F A n):0<=p.1/\p.1<(n:Int):=by
 obtain⟨i,d,hp⟩:=A7x.1 h;have:=Z3 hp;simp at d;omega
def An7 {p q:Par}(h:p.1<q.1):Bf p q<0:=by
 unfold Bf P6;rw[if_pos h,if_pos oV];omega
def Zh {F:List Ao}{A:List (Par×Rat)}(d:D5 Bf (A.map (·.1))):∀ n,D5 Bf (G7 F A n)
 |0=>List.Pairwise.nil
 |n+1=>by
  rw[S7];refine A4z.2 ⟨Zh d n,?_,fun p hp q e=>?_⟩
  ·unfold G4;split
   ·exact A85 _ _
   exact d.filter _
  have g:=Apq hp;have h:=Z3 e;exact An7 oV
theorem Aoo (m:Can Bf C.s A)(z:∀ f∈F,f.2.1=1\/f.2.1=2):p∈G7 F A F.length↔(∃ (i:Nat) (f:Ao),p=Mp i/\F[i]?=some f/\f.2.1=1)\/(C.s p≠0/\∃ (i:Nat) (f:Ao),p.1=(i:Int)/\F[i]?=some f/\f.2.1=2):=by
 have g:p∈A.map (·.1)↔C.s p≠0:=by
  constructor
  ·intro h;obtain⟨x,u,rfl⟩:=A0r.1 h;obtain⟨d,j⟩:=m.val x u;rw[<-d];exact j
  intro h;exact A2h fun t=>h (m.out p t)
 unfold G7;rw[A7x];constructor
 ·rintro⟨i,hi,hp⟩;unfold G4 at hp;split at hp
  ·grind
  grind
 rintro (⟨i,f,rfl,hf,d⟩|⟨h0,i,f,d,hf,j⟩)
 ·have e:F.getD i (0,0,0)=f:=by simp[A0j,hf]
  refine⟨i,by simpa using (A0o.1 hf).1,?_⟩;unfold G4;rw[e,if_pos d];simp
 have e:F.getD i (0,0,0)=f:=by simp[A0j,hf]
 refine⟨i,by simpa using (A0o.1 hf).1,?_⟩;unfold G4;rw[e,if_neg oV];exact A3p.2 ⟨g.2 h0,by simpa using d⟩
theorem Apt (n:Nat):(G7 F A n).length<=n*(A.length+1):=by
 induction n with
 |zero=>exact A1c _
 |succ n ih =>
  rw[S7,A03,A1m,A27];have:(G4 F A n).length<=A.length+1:=by
   unfold G4;split
   ·simp
   grind
  omega
def G9 (A:List (Par×Rat))(i n:Nat):List Par:=((A.take n).map (·.1)).filter fun p=>p.1==(i:Int)
theorem Agv {x:Par×Rat}(h:A[n]?=some x):G9 A i (n+1)=if x.1.1=(i:Int) then G9 A i n++[x.1] else G9 A i n:=by
 unfold G9;have e:A.take (n+1)=A.take n++[x]:=by rw[A0t,h];rfl
 by_cases d:x.1.1=(i:Int)
 ·grind
 grind
def Am6 (A:List (Par×Rat))(i n:Nat):(G9 A i n).length<=A.length:=by
 refine A0l (A3h _ _) ?_;rw[A0k,A0q];omega
def Wb {u:PH}{v w:Value}{T:List (List UInt8×Nat)}{R:List Bw}{lab:Int}{K:Nat}(hX:Ic u v T R F lab)(ok:B2 u T R F lab)(hC:J0 u w C K)(sC:CFS C)(vC:CFV C)(hK:K<=10000)(hb:∀ p,C.s p≠0->Ac6 F lab p) :
 Fn0 prog 20 [v,w] u fun r Z=>Aza Z r F C:=by
 have am:=fun (Z:PH) (l:PH.le u Z)=>S8 (hX.mono l) (ok.mono l);have aq:=fun (Z:PH) (l:PH.le u Z)=>Ahx (hC.mono l) sC vC oV;have ae:∀ f∈F,f.2.1=1\/f.2.1=2:=fun f I=>by
  obtain⟨n,k,_,U,_⟩:=ok.feat.ok f I;rcases U with ⟨U,_⟩|⟨U,_⟩
  ·exact .inl U
  exact .inr U
 obtain⟨xa,xc,xb,xd,xe,xf,rfl,ax,aw,aj⟩:=id hX;obtain⟨A,Q,a1,c1,a2,c2,rfl,hA,hQ,cA,cQ,kA,kQ⟩:=hC;have ay:=ok.f2;have al:∀ n,n<=8->(G7 F A n).length<=100000:=fun n hn=>by
  have:=Apt (F:=F) (A:=A) n;have U:n*(A.length+1)<=8*(A.length+1):=A1x _ hn;omega
 refine Fn0.o func20<|G.c call53 (am u (PH.le_refl _)) ?_;rintro v1 u1 l1 rfl;refine G.nF 0 0<|G.c call54 (aq u1 l1) ?_;rintro v2 u2 l2 rfl;have ar:=l1.trans l2;refine G.l (ι:=Nat×(Option Addr×Nat)) (fun i=>[(2,.p 0 0),(3,.p 1 0),(7,sV i.2.1 (G7 F A i.1).length i.2.2),(26,sV xe F.length xf),(27,iV F.length),(28,iV i.1)])
  (fun _=>[(0,⟨28,[sV xa T.length xc,sV xb R.length xd,sV xe F.length xf,iV lab]⟩),(1,⟨34,[tV (Ag C.c),sV a1 A.length c1,sV a2 Q.length c2]⟩)])
  (fun i Z m'=>i.1<=F.length/\Af PH.mt m' (.slice i.2.1 (G7 F A i.1).length i.2.2) 78 2 ((G7 F A i.1).map An)) (fun i=>F.length-i.1) (0,(none,0)) ⟨oV,Af.nil _ _ _⟩ ?_
 rintro J ⟨i,⟨Y,V⟩⟩ hJ u3 m3 l3 ⟨hi,H⟩;simp only at hi H hJ;have a3:=ar.trans l3;have ap:=al i oV;by_cases af:i<F.length
 ·refine G.lT i F.length ?_;obtain⟨f,a6⟩:∃ f,F[i]?=some f:=⟨_,A0i af⟩;have ac:F.getD i (0,0,0)=f:=by simp[A0j,a6]
  have hs:=S7 F A i;obtain⟨fb,fo,rfl,ef⟩:=Ab.at' (aj.mono a3) (j:=i) (e:=C4 f) (by simp[a6]);obtain⟨f1,f2,f3⟩:=f;refine G.a fb fo F.length xf i 3 af<|G.lU (some 3) fb (fo+i*3) (.agg #[.int .i64 f1,.int .i64 f2,.int .i64 f3]) ef ?_;by_cases ad:f2=1
  ·have hp:G4 F A i = [Mp i]:=by unfold G4;rw[ac,if_pos ad]
   rw[hp]at hs;refine G.eT f2 1<|G.B 78 2 24 (.agg #[.int .i64 0,.string (mkS [])]) [.agg #[.int .i64 i,.string (mkS [])]] (F1 (Mp i)) ?_;intro g6 u6 l6 e6;refine G.k 78 2 24 (.agg #[.int .i64 0,.string (mkS [])]) PH.mt ((G7 F A i).map An) [An (Mp i)] _ g6 0 1 1 H e6 (F1 (Mp i)) ?_;intro v7 m7 z;rw[show (G7 F A i).map An++[An (Mp i)]=(G7 F A (i+1)).map An by rw[hs];simp]at z;obtain⟨a7,c7,rfl⟩:=z.shape;rw[A0k]at z⊢;exact G.i i<|G.b (hJ (i+1,(a7,c7)) _ _ _ cV (l3.trans l6) ⟨dV,z⟩ dV)
  have hp:G4 F A i=G9 A i A.length:=by unfold G4 G9;rw[ac,if_neg ad,A05]
  rw[hp]at hs;refine G.eF f2 1 ?_;have a9:Af PH.mt m3 (.slice Y (G7 F A i++G9 A i 0).length V) 78 2 ((G7 F A i++G9 A i 0).map An):=by
   rw[show G9 A i 0 = [] from rfl,A1i];exact H
  have e0:(G7 F A i).length=(G7 F A i++G9 A i 0).length:=by rw[show G9 A i 0 = [] from rfl,A1i]
  rw[e0];refine G.l (ι:=Nat×(Option Addr×Nat)) (fun n=>[(2,.p 0 0),(3,.p 1 0),(7,sV n.2.1 (G7 F A i++G9 A i n.1).length n.2.2),(8,iV i),(26,sV (some ⟨fb,fo,none⟩) F.length xf),(27,iV F.length),(28,iV i),(42,sV a1 A.length c1),(43,iV A.length),(44,iV n.1)])
   (fun _=>[(0,⟨28,[sV xa T.length xc,sV xb R.length xd,sV (some ⟨fb,fo,none⟩) F.length xf,iV lab]⟩),(1,⟨34,[tV (Ag C.c),sV a1 A.length c1,sV a2 Q.length c2]⟩)])
   (fun n Z m'=>n.1<=A.length/\Af PH.mt m' (.slice n.2.1 (G7 F A i++G9 A i n.1).length n.2.2) 78 2 ((G7 F A i++G9 A i n.1).map An)) (fun n=>A.length-n.1) (0,(Y,V)) ⟨oV,a9⟩ ?_
  clear H a9 e0;rintro J2 ⟨n,⟨Y,V⟩⟩ E u4 m4 l4 ⟨hn,H⟩;simp only at hn H E;have b0:=Am6 A i n;by_cases N:n<A.length
  ·refine G.lT n A.length ?_;obtain⟨x,a5⟩:∃ x,A[n]?=some x:=⟨_,A0i N⟩;have O:=Agv (i:=i) a5;obtain⟨ba,oa,rfl,ea⟩:=Ab.at' (hA.mono (a3.trans l4)) (j:=n) (e:=As x) (by simp[a5]);obtain⟨⟨d,t⟩,q⟩:=x;simp only at O;refine G.a ba oa A.length c1 n 3 N<|G.lU (some 3) ba (oa+n*3) (.agg #[.int .i64 d,.string (mkS t),.string (mkS (Ag q))]) ea ?_;by_cases W:d=(i:Int)
   ·rw[if_pos W]at O;refine G.eT' d i W<|G.B 78 2 24 (.agg #[.int .i64 0,.string (mkS [])]) [.agg #[.int .i64 d,.string (mkS t)]] (F1 (d,t)) ?_;intro g6 u6 l6 e6;refine G.k 78 2 24 (.agg #[.int .i64 0,.string (mkS [])]) PH.mt ((G7 F A i++G9 A i n).map An) [An (d,t)] _ g6 0 1 1 H e6 (F1 (d,t)) ?_;intro v7 m7 z;rw[show (G7 F A i++G9 A i n).map An++[An (d,t)]=(G7 F A i++G9 A i (n+1)).map An by rw[O];simp]at z;obtain⟨a7,c7,rfl⟩:=z.shape;rw[A0k]at z⊢;exact G.i n<|G.b (E (n+1,(a7,c7)) _ _ _ cV (l4.trans l6) ⟨dV,z⟩ dV)
   rw[if_neg W]at O;refine G.eF' d i W<|G.i n ?_;rw[<-O]at H⊢;exact G.b (E (n+1,(Y,V)) _ _ _ cV l4 ⟨dV,H⟩ dV)
  obtain rfl:n=A.length:=oV;refine G.lF A.length A.length<|G.i i ?_;rw[<-hs]at H⊢;exact G.b (hJ (i+1,(Y,V)) _ _ _ cV (l3.trans l4) ⟨dV,H⟩ dV)
 obtain rfl:i=F.length:=oV;refine G.lF F.length F.length ?_;clear hJ;have X:∀ p,p∈G7 F A F.length↔_:=fun p=>Aoo (F:=F) cA ae (p:=p);have P:D5 Bf (G7 F A F.length):=Zh cA.srt _;generalize av:G7 F A F.length=L at H X P ap;have ao:∀ x∈A,(x.1.1 = -1/\0<=lab/\x.1.2 = [])\/(0<=x.1.1/\x.1∈L):=fun x hx=>by
  obtain⟨q1,q2⟩:=cA.val x hx;have ag:C.s x.1≠0:=by rw[<-q1];exact q2
  rcases hb x.1 ag with h|⟨k,f,h1,I,h3⟩
  ·exact .inl h
  refine .inr ⟨oV,(X x.1).2 ?_⟩;rcases ae f (A0w I) with h4|h4
  ·refine .inl ⟨k,f,?_,I,h4⟩;obtain⟨⟨d,t⟩,q⟩:=x;simp only at h1 h3;rw[h1,h3.resolve_left oV];rfl
  exact .inr ⟨ag,k,f,h1,I,h4⟩
 refine G.l (ι:=Nat) (fun i=>[(2,.p 0 0),(7,sV Y L.length V),(61,sV a1 A.length c1),(62,iV A.length),(63,iV i)])
  (fun _=>[(0,⟨28,[sV xa T.length xc,sV xb R.length xd,sV xe F.length xf,iV lab]⟩)])
  (fun i Z m'=>i<=A.length/\m'=m3) (fun i=>A.length-i) 0 ⟨oV,rfl⟩ ?_
 rintro J i hJ u4 m4 l4 ⟨az,rfl⟩;have au:=a3.trans l4;by_cases a0:i<A.length
 ·refine G.lT i A.length ?_;obtain⟨x,a4⟩:∃ x,A[i]?=some x:=⟨_,A0i a0⟩;have hx:=ao x (A0w a4);obtain⟨ba,oa,rfl,ea⟩:=Ab.at' (hA.mono au) (j:=i) (e:=As x) (by simp[a4]);obtain⟨⟨d,t⟩,q⟩:=x;simp only at hx;refine G.a ba oa A.length c1 i 3 a0<|G.lU (some 3) ba (oa+i*3) (.agg #[.int .i64 d,.string (mkS t),.string (mkS (Ag q))]) ea ?_;rcases hx with ⟨h1,U,h3⟩|⟨h1,U⟩
  ·exact G.eT' d (-1) h1<|G.hT' lab 0 U<|G.q t [] h3<|G.i i<|G.b (hJ (i+1) _ _ _ cV l4 ⟨oV,rfl⟩ oV)
  refine G.eF d (-1)<|G.l (ι:=Nat×Bool) (fun n=>[(2,.p 0 0),(7,sV Y L.length V),(13,.p 21002 0),(14,bV n.2),(61,sV (some ⟨ba,oa,none⟩) A.length c1),(62,iV A.length),(63,iV i),(82,sV Y L.length V),(83,iV L.length),(84,iV n.1)])
   (fun _=>[(0,⟨28,[sV xa T.length xc,sV xb R.length xd,sV xe F.length xf,iV lab]⟩),(21002,⟨80,[iV d,tV t,tV (Ag q)]⟩)])
   (fun n Z m'=>n.1<=L.length/\m'=m4/\n.2=(L.take n.1).any fun y=>decide (y=(d,t))) (fun n=>L.length-n.1) (0,false) ⟨oV,rfl,rfl⟩ ?_
  rintro J2 ⟨n,ah⟩ E u5 m5 l5 ⟨hn,rfl,I⟩;simp only at hn I E;by_cases N:n<L.length
  ·refine G.lT n L.length ?_;obtain⟨y,a8⟩:∃ y,L[n]?=some y:=⟨_,A0i N⟩;have m:((L.take (n+1)).any fun y=>decide (y=(d,t)))=(((L.take n).any fun y=>decide (y=(d,t)))||decide (y=(d,t))):=by
    rw[A0t,a8,List.any_append];simp
   obtain⟨gs,cs,ab⟩:=H.ptr (fun e=>by
    have:L.length=0:=by simpa using congrArg List.length e
    omega)
   simp only[Value.slice.injEq]at ab;obtain⟨rfl,_,rfl⟩:=ab;have an:ElP m5 gs (0+n*2) (An y):=H.el (by rw[A0n,a8];rfl);refine G.a gs 0 L.length V n 2 N<|G.lM (some 2) gs (0+n*2) (.agg #[.int .i64 y.1,.string (mkS y.2)]) an ?_;cases ah with
   |true =>
    refine G.i n ?_;rw[<-I,Bool.true_or]at m;exact G.b (E (n+1,true) _ _ _ cV l5 ⟨dV,rfl,m.symm⟩ dV)
   |false =>
    rw[<-I,A8l]at m;by_cases W:y=(d,t)
    ·rw[decide_eq_true W]at m;exact G.eqAgg 78 #[.int .i64 y.1,.string (mkS y.2)] #[.int .i64 d,.string (mkS t)] true kV kV kV (fun w=>by rw[<-decide_eq_true W];exact Bo.eq y (d,t) w)<|G.i n<|G.b (E (n+1,true) _ _ _ cV l5 ⟨dV,rfl,m.symm⟩ dV)
    rw[decide_eq_false W]at m;exact G.eqAgg 78 #[.int .i64 y.1,.string (mkS y.2)] #[.int .i64 d,.string (mkS t)] false kV kV kV (fun w=>by rw[<-decide_eq_false W];exact Bo.eq y (d,t) w)<|G.i n<|G.b (E (n+1,false) _ _ _ cV l5 ⟨dV,rfl,m.symm⟩ dV)
  obtain rfl:n=L.length:=oV;refine G.lF L.length L.length ?_;have aa:((L.take L.length).any fun y=>decide (y=(d,t)))=true:=by
   rw[A05];exact A6s.2 ⟨_,U,mV⟩
  rw[aa]at I;subst I;exact G.i i<|G.b (hJ (i+1) _ _ _ cV (l4.trans l5) ⟨oV,rfl⟩ oV)
 obtain rfl:i=A.length:=oV;refine G.lF A.length A.length ?_;by_cases ai:24<L.length
 ·exact G.gT L.length 24<|G.drop PH.mt kV (PH.mt_le _)<|G.r (.tuple #[.slice none 0 0,.int .i64 3]) ⟨rfl,.inl ⟨rfl,L,ai,P,X⟩⟩
 refine G.gF L.length 24<|G.give _ _ _ kV H (fun g=>.inl rfl) ?_;intro u8 l8 ak;exact G.r (.tuple #[.slice Y L.length V,.int .i64 0]) ⟨rfl,.inr ⟨_,L,rfl,ak,oV,P,X⟩⟩
end
section
variable [Cj] [Dd]
section
variable {P:Program} {id:Nat} {ops:Array Oper} {dr:Bool} {Fin:S->PH->PH->Prop} {c:Cx} {Q:Exit->Act->World->Prop}
end
section
variable {P:Program} {fn:Func} {Post:Ca}
end
section rules
variable {P:Program} [A6 P] {fn:Func} {Post:Ca} {st:List KI×S} {u m:PH}
end rules
end
section
variable {M:List (Par×Rat)}{P:List Par}{m0:Rat}{u:PH}{v:Value}
structure Of (u:PH)(v:Value)(m0:Rat)(M:List (Par×Rat)):Prop where
 val:∃ a c,v=.agg #[.string (mkS (Ag m0)),.slice a M.length c]/\Ab u (.slice a M.length c) 3 (M.map As)
def Of.mono {u u':PH}{v:Value}{m0:Rat}{M:List (Par×Rat)}(h:Of u v m0 M)(hl:PH.le u u'):Of u' v m0 M:=by
 obtain⟨a,c,e,h1⟩:=h.val;exact⟨a,c,e,h1.mono hl⟩
structure Q6 (P:List Par)(m0:Rat)(M:List (Par×Rat)):Prop where
 c:Tx m0
 t:∀ x∈M,Tx x.2
 srt:D5 Bf (M.map (·.1))
 sub:∀ x∈M,x.1∈P
 len:M.length<=P.length
def cfE (m0:Rat)(M:List (Par×Rat)):Option Par->Rat
 |none=>m0
 |some p=>B8 p M
def Ajv (t:Ab u v 2 (P.map An))(O:D5 Bf P)(W:P.length<=1000000) :
 Fn0 prog 102 [v] u fun r _=>r=.bool true:=by
 obtain⟨U,F,rfl⟩:=t.opn;rw[A0k]at t⊢;refine Fn0.o func102<|G.l (ι:=Nat) (fun i=>[(0,sV U P.length F),(3,iV i)]) (fun _=>[])
  (fun i Y R=>1<=i/\R=PH.mt) (fun i=>P.length-i) 1 ⟨oV,rfl⟩ ?_
 rintro J i N Z X l2 ⟨V,rfl⟩;by_cases d:i<P.length
 ·refine G.lT i P.length ?_;have h:=t.mono l2;have z:P[i]?=some P[i]:=A0i d;have C:P[i-1]?=some (P[i-1]'oV):=A0i oV;have E:Bf (P[i-1]'oV) P[i]<0:=A3c.1 O (i-1) i oV d oV;obtain⟨m,n,H,K⟩:=Ab.at' h (j:=i) (e:=An P[i]) (by simp[z]);obtain⟨I,T,g,L⟩:=Ab.at' h (j:=i-1) (e:=An (P[i-1]'oV)) (by simp[C]);rw[H]at g;cases g;subst H;refine G.s i 1 (i-1:Nat)<|G.a m n P.length F (i-1) 2 oV<|G.lU (some 2) m (n+(i-1)*2) (An (P[i-1]'oV)) L<|G.a m n P.length F i 2 d<|G.lU (some 2) m (n+i*2) (An P[i]) K<|G.c call183 (T9 _ _ true (decide_eq_true E)) ?_;rintro v3 u3 Q rfl;exact G.i i<|G.b (N (i+1) _ _ _ cV (l2.trans Q) ⟨oV,rfl⟩ oV)
 exact G.lF i P.length<|G.r (.bool true) ⟨rfl,rfl⟩
def Ahb (h:Of u v m0 M)(Y:M.length<=100000) :
 Fn0 prog 105 [v] u fun r F=>Ab F r 2 ((M.map (·.1)).map An):=by
 obtain⟨a,c,rfl,R⟩:=h.val;refine Fn0.o func105<|G.l (ι:=Nat×(Option Addr×Nat)) (fun i=>[(3,sV i.2.1 (M.take i.1).length i.2.2),(7,sV a M.length c),(8,iV M.length),(9,iV i.1)]) (fun _=>[])
  (fun i F U=>i.1<=M.length/\Af PH.mt U (.slice i.2.1 (M.take i.1).length i.2.2) 78 2 (((M.take i.1).map (·.1)).map An)) (fun i=>M.length-i.1) (0,(none,0)) ⟨oV,Af.nil _ _ _⟩ ?_
 rintro J ⟨i,⟨V,W⟩⟩ O u2 m2 l2 ⟨X,t⟩;by_cases n:i<M.length
 ·refine G.lT i M.length ?_;obtain⟨x,m⟩:∃ x,M[i]?=some x:=⟨_,A0i n⟩;have z:=Amy m;obtain⟨C,E,rfl,L⟩:=Ab.at' (R.mono l2) (j:=i) (e:=As x) (by simp[m]);refine G.a C E M.length c i 3 n<|G.lU (some 3) C (E+i*3) (.agg #[.int .i64 x.1.1,.string (mkS x.1.2),.string (mkS (Ag x.2))]) L<|G.B 78 2 24 (.agg #[.int .i64 0,.string (mkS [])]) [.agg #[.int .i64 x.1.1,.string (mkS x.1.2)]] (F1 x.1) ?_;intro N u6 T K;refine G.k 78 2 24 (.agg #[.int .i64 0,.string (mkS [])]) PH.mt (((M.take i).map (·.1)).map An) [An x.1] _ N 0 1 1 t K (F1 x.1) ?_;intro v7 m7 d;rw[show ((M.take i).map (·.1)).map An++[An x.1]=((M.take (i+1)).map (·.1)).map An by rw[z];simp]at d;obtain⟨H,I,rfl⟩:=d.shape;rw[A0k,A0k]at d⊢;exact G.i i<|G.b (O (i+1,(H,I)) _ _ _ cV (l2.trans T) ⟨dV,d⟩ dV)
 obtain rfl:i=M.length:=oV;refine G.lF M.length M.length ?_;rw[A05]at t⊢;refine G.give _ _ _ kV t (fun g=>.inl rfl) ?_;intro u3 Z Q;exact G.r (.slice V M.length W) ⟨rfl,Q⟩
def Aru {x:Par×Rat}(h:Tx x.2):Fn0 prog 188 [As x] u fun r _=>r=.bool false:=by
 refine Fn0.o func188<|G.c call59 (Ge h) ?_;rintro g e d rfl;exact G.r (.bool false) ⟨rfl,rfl⟩
def Agc (h:Of u v m0 M)(m:M.length<=100000)(h0:Tx m0)(e:∀ x∈M,Tx x.2) :
 Fn0 prog 107 [v] u fun r _=>r=.bool true:=by
 obtain⟨a,c,rfl,d⟩:=h.val;refine Fn0.o func107<|G.c call59 (Ge h0) ?_;rintro C t j rfl;refine G.c call155 (Xa (d.mono j) oV call188 fun x g n _=>Aru (e x g)) ?_;rintro E z l2 rfl;exact G.r (.bool true) ⟨rfl,rfl⟩
def Q6.tx (h:Q6 P m0 M):Tx m0/\∀ x∈M,Tx x.2:=⟨h.c,h.t⟩
end
section
variable {F:List Ao}{R:List Bw}{T:List (List UInt8×Nat)}{lab:Int}{p:Par}{u:PH}{v:Value}
def Akf (F:List Ao)(p:Par):Prop:=∃ (k:Nat) (f:Ao),p.1=(k:Int)/\F[k]?=some f/\(p.2 = []\/(f.2.1=2/\Kh p.2=true))
def Amx (N:Ic u v T R F lab)(ok:B2 u T R F lab)(hp:Akf F p) :
 Fn0 prog 110 [v,An p] u fun r _=>r=.bool true:=by
 obtain⟨xa,xc,xb,xd,xe,U,rfl,L,K,m⟩:=N;have O:=ok.f2;obtain⟨k,f,C,E,h⟩:=hp;obtain⟨X,z⟩:=p;simp only at C h;subst C;have P:=(A0o.1 E).1;obtain⟨d,t,rfl,H⟩:=Ab.at' m (j:=k) (e:=C4 f) (by simp[E]);obtain⟨I,g,J⟩:=f;simp only at h;refine Fn0.o func110<|G.lF k 0<|G.hF k F.length ?_;by_cases n:z = []
 ·exact G.q z [] n<|G.r (.bool true) ⟨rfl,rfl⟩
 obtain⟨V,Q⟩:=h.resolve_left n;refine G.w z [] n<|G.a d t F.length U k 3 P<|G.f 98 d (t+k*3) 1 1<|G.lU none d (t+k*3+1) (.int .i64 g) (H.fld (j:=1) (xs:=#[.int .i64 I,.int .i64 g,.int .i64 J]) rfl rfl)<|G.eT g 2<|G.c call190 (Aoc Q) ?_;rintro Z Y W rfl;exact G.r (.bool true) ⟨rfl,rfl⟩
def At8 {u m:PH}{b:Nat}(n:ElP m b 0 v)(e:Ic u v T R F lab)(ok:B2 u T R F lab)(hp:Akf F p) :
 FnK prog 109 [An p,.pointer (some ⟨b,0,none⟩)] u m fun v _=>v=.bool false:=by
 have d:=Amx e ok hp;obtain⟨t,C,z,E,H,I,rfl,j,h,g⟩:=e;refine FnK.of func109 kV kV<|G.lM (some 4) b 0 (.agg #[.slice t T.length C,.slice z R.length E,.slice H F.length I,.int .i64 lab]) n<|G.c call110 d ?_;rintro L K J rfl;exact G.r (.bool false) ⟨rfl,rfl⟩
def Ar4 {u m:PH}{v cap:Value}{P:List Par}{fid:Nat}(h:Ab u v 2 (P.map An))(U:P.length<=1000000)
 (d:∀ args w,(callFunc fid args).run prog w=.ok (.enter fid args) w) (K:∀ p∈P,∀ z,PH.le u z->FnK prog fid [An p,cap] z m fun v _=>v=.bool false) :
 FnK prog 189 [v,.func (.func fid) #[] #[cap]] u m fun O _=>O=.int .i64 (-1):=by
 obtain⟨a,c,rfl⟩:=h.opn;rw[A0k]at h⊢;refine FnK.of func189 kV kV<|G.l (ι:=Nat) (fun i=>[(0,sV a P.length c),(1,.v (.func (.func fid) #[] #[cap])),(7,iV P.length),(8,iV i)]) (fun _=>[])
  (fun i z L=>i<=P.length/\L=m) (fun i=>P.length-i) 0 ⟨oV,rfl⟩ ?_
 rintro J i I N V t ⟨Q,rfl⟩;by_cases g:i<P.length
 ·refine G.lT i P.length ?_;have n:P[i]?=some P[i]:=A0i g;obtain⟨C,E,rfl,H⟩:=Ab.at' (h.mono t) (j:=i) (e:=An P[i]) (by simp[n]);refine G.a C E P.length c i 2 oV<|G.lU (some 2) C (E+i*2) (An P[i]) H<|G.callK fid [An P[i],cap] kV d (K P[i] (A0y g) N t) ?_;rintro X W l2 rfl;exact G.i i<|G.b (I (i+1) _ _ _ cV (t.trans l2) ⟨oV,rfl⟩ oV)
 obtain rfl:i=P.length:=oV;exact G.lF P.length P.length<|G.r (.int .i64 (-1)) ⟨rfl,rfl⟩
def Afd {u m:PH}{v cap:Value}{P:List Par}{fid:Nat}(h:Ab u v 2 (P.map An))(j:P.length<=1000000)
 (d:∀ args w,(callFunc fid args).run prog w=.ok (.enter fid args) w) (g:∀ p∈P,∀ e,PH.le u e->FnK prog fid [An p,cap] e m fun v _=>v=.bool false) :
 FnK prog 108 [v,.func (.func fid) #[] #[cap]] u m fun n _=>n=.bool false:=by
 obtain⟨a,c,rfl⟩:=h.opn;refine FnK.of func108 kV kV<|G.callK _ _ kV call189 (Ar4 h j d g) ?_;rintro C z t rfl;exact G.hF (-1) 0<|G.r (.bool false) ⟨rfl,rfl⟩
def Anm {v W:Value}{P:List Par}{m0:Rat}{M:List (Par×Rat)}(K:Ic u v T R F lab)(ok:B2 u T R F lab)(h:Of u W m0 M)(g:Q6 P m0 M)(hP:P.length<=10000)(m:∀ p∈P,Akf F p) :
 Fn0 prog 44 [v,W] u fun r _=>r=.bool true:=by
 have Y:=g.len;have L:=fun (d:PH) (l:PH.le u d)=>Ahy (K.mono l) (ok.mono l);have j:=fun (d:PH) (l:PH.le u d)=>Agc (h.mono l) oV g.tx.1 g.tx.2;have n:=fun (d:PH) (l:PH.le u d)=>Ahb (h.mono l) oV;obtain⟨z,E,C,H,I,J,rfl,a0,Z,X⟩:=id K;obtain⟨a,c,rfl,hM⟩:=h.val;refine Fn0.o func44<|G.c call105 (n u (PH.le_refl _)) ?_;intro v1 u1 O N;obtain⟨a1,c1,rfl⟩:=Ab.opn N;refine G.pub 0 28 [.slice z T.length E,.slice C R.length H,.slice I F.length J,.int .i64 lab] kV kV ?_;intro b a2 a3;have e:ElP (PH.mt.upd b (.cells [Value.slice z T.length E,.slice C R.length H,.slice I F.length J,.int .i64 lab].toArray 28 (0,0))) b 0 (.agg #[.slice z T.length E,.slice C R.length H,.slice I F.length J,.int .i64 lab]):=Jg (xs:=[.slice z T.length E,.slice C R.length H,.slice I F.length J,.int .i64 lab]) (Ac _ _ _) rfl;refine G.lM (some 4) b 0 (.agg #[.slice z T.length E,.slice C R.length H,.slice I F.length J,.int .i64 lab]) e<|G.c call106 (L u1 O) ?_;rintro v2 u2 l2 rfl;refine G.eT' 0 0 rfl<|G.c call107 (j u2 (O.trans l2)) ?_;rintro v3 u3 Q rfl;refine G.c call102 (Ajv ((N.mono l2).mono Q) g.srt (by rw[A0k];omega)) ?_;rintro v4 u4 V rfl;have t:=((O.trans l2).trans Q).trans V;refine G.callK _ _ kV call108 (Afd (cap:=.pointer (some ⟨b,0,none⟩)) (((N.mono l2).mono Q).mono V) (by rw[A0k];omega) call109 fun p hp d U=>At8 e (K.mono (t.trans U)) (ok.mono (t.trans U)) (m p (by
  obtain⟨x,hx,rfl⟩:=A0r.1 hp;exact g.sub x hx))) ?_
 rintro v5 u5 l5 rfl;exact G.drop PH.mt kV (PH.mt_le _)<|G.r (.bool true) ⟨rfl,rfl⟩
end
structure Y3 (u:PH)(v cv:Value)(T:List (List UInt8×Nat))(R:List Bw)(F:List Ao)(lab:Int)(C:CF)(K k:Nat)(P:List Par):Prop where
 sch:Ic u v T R F lab
 ok:B2 u T R F lab
 cof:J0 u cv C K
 sC:CFS C
 vC:CFV C
 K:K<=10000
 bel:∀ p,C.s p≠0->Ac6 F lab p
 mom:Aem C k
 prm:Dk F C P
 p24:P.length<=24
 lab0:0<=lab
 d:CFD 16 (10^75) C
def Y3.mono {u u':PH}{v cv:Value}{T:List (List UInt8×Nat)}{R:List Bw}{F:List Ao}{lab:Int}{C:CF}{K k:Nat}{P:List Par}(h:Y3 u v cv T R F lab C K k P)(hl:PH.le u u'):Y3 u' v cv T R F lab C K k P :=
 ⟨h.sch.mono hl,h.ok.mono hl,h.cof.mono hl,h.sC,h.vC,h.K,h.bel,h.mom,h.prm,h.p24,h.lab0,h.d⟩
def CFD.to {d e N M:Nat}{F:CF}(h:CFD d N F)(g:d<=e)(j:N*12^(e-d)<=M):CFD e M F:=⟨h.c.to g j,fun p=>(h.s p).to g j,fun q=>(h.t q).to g j⟩
theorem Ay6 {q n d j:Rat}(e:q=n*j)(g:d*j=1):q*d=n:=by rw[e];grind
def Asf (q:Rat):q*(q.den:Rat)=(q.num:Rat):=by
 have d:q=(q.num:Rat)/(((q.den:Int)):Rat):=by rw[<-A3l,A6f]
 have e:=A7e _ (Jf q.den_pos);rw[A1f,A5v]at d;exact Ay6 d e
section
variable {F:List Ao}{lab:Int}{p:Par}
def Ak9 {p:Par}:∀ (L:List LF) (C:CF),(H8 C L).s p≠0->C.s p≠0\/∃ q,some (some (p,q))∈L
 |[],C,h=>.inl h
 |x::L,C,h=>by
  rcases Ak9 L (C.mul x.cf) h with m|⟨q,n⟩
  ·rcases Gh (a:=x.cf.s p*C.c) (b:=C.s p*x.cf.c) m with g|g
   ·right;have d:=(Cu g).1
    match x,d with
    |none,d=>exact absurd rfl d
    |some none,d=>exact absurd rfl d
    |some (some (p',q)),d =>
     have j:(if p=p' then q else 0)≠0:=d;by_cases e:p=p'
     ·subst e;exact⟨q,A1g ..⟩
     rw[if_neg e]at j;exact absurd rfl j
   exact .inl (Cu g).1
  exact .inr ⟨q,A01 _ n⟩
def Aii {ss:List (List UInt8)}(h:(cfT F lab ss).s p≠0):Ac6 F lab p/\∃ (a:Nat) (q:Rat),(Fe F lab ss)[a]?=some (some (some (p,q)))/\∀ (i:Nat) (f:Ao),p.1=(i:Int)->F[i]?=some f->f.2.1=2->q=1:=by
 rcases Ak9 _ _ h with h|⟨q,O⟩
 ·exact absurd rfl h
 obtain⟨a,u,z⟩:=A2a O;have E:a<ss.length:=by rw[Hn]at u;exact u
 have e:=Ji (F:=F) (lab:=lab) (w:=ss[a]) (A0i E);have d:H6 F lab a ss[a]=some (some (p,q)):=by
  rw[A0i u,z]at e;exact (A2k e).symm
 have t:(Fe F lab ss)[a]?=some (some (some (p,q))):=by rw[e,d]
 generalize ss[a]=w at d;by_cases I:(a:Int)=lab
 ·have J:H6 F lab a w=Vq w:=by unfold H6;rw[if_pos I]
  rw[J]at d;unfold Vq at d;split at d
  ·cases d
  simp only[A0u,A2c]at d;obtain⟨rfl,_⟩:=d;exact⟨.inl ⟨rfl,oV,rfl⟩,a,q,t,fun i f m=>by simp only at m;omega⟩
 rcases Hc (F:=F) (w:=w) I with m|⟨i,f,C,N,m⟩
 ·rw[m]at d;cases d
 rw[m]at d;unfold Lu at d;by_cases n:f.2.1=2
 ·rw[if_pos n]at d;simp only[A0u,A2c]at d;obtain⟨rfl,rfl⟩:=d;exact⟨.inr ⟨i,f,rfl,C,.inl n⟩,a,_,t,fun _ _ _ _ _=>rfl⟩
 rw[if_neg n]at d;split at d
 ·split at d<;>cases d
 simp only[A0u,A2c]at d;obtain⟨rfl,_⟩:=d;refine⟨.inr ⟨i,f,rfl,C,.inr rfl⟩,a,q,t,fun j g K H L=>?_⟩;simp only at K;obtain rfl:i=j:=oV;rw[C]at H;cases H;exact absurd L n
theorem Asu :∀ {L:List Cr},(Ax F lab L).s p≠0->∃ y∈L,(cfT F lab y.1).s p≠0:=by
 intro L;induction L using Je with
 |h0=>exact fun h=>absurd rfl h
 |h1 L y ih =>
  intro h;rw[F9]at h;rcases Gh (a:=(Ax F lab L).s p) (b:=(cfT F lab y.1).s p*(y.2.1:Rat)) h with h1|h1
  ·obtain⟨z,hz,h2⟩:=ih h1;exact⟨z,A3d _ hz,h2⟩
  ·exact⟨y,mV,(Cu h1).1⟩
end
theorem Ag3 {b:Option Par->Rat}(P:List Par)(C:CF)(h:∀ e,b e=0):Cp b P C=0:=by
 unfold Cp;exact Bk fun e _=>Bk fun f _=>by rw[h e];grind
def Awk:Uw (CF.num 0):=⟨rfl,fun _=>rfl,fun _=>rfl⟩
def Ark:SmW 0:=⟨jV,jV⟩
def As5 {T:List (List UInt8×Nat)}{F:List Ao}{lab:Int}{ss:List (List UInt8)}(hF:Ej T F lab)(j:Bp T ss)(m:-1<=lab)(u:∀ l:Nat,lab=(l:Int)->l<ss.length)(z:Df F lab ss=true){p:Par}(hp:0<=p.1):(cfT F lab ss).s p=B8 p (J9 F ss F.length):=by
 have n:=Bcs F ss F.length (A0s _);by_cases h:(cfT F lab ss).s p=0
 ·rw[h];refine (L9 fun d=>?_).symm;obtain⟨x,H,rfl⟩:=A0r.1 d;obtain⟨E,a,g⟩:=Anu (lab:=lab) hF j H;exact E ((Ag7 hF j m u z (p:=x.1) (q:=x.2) g).symm.trans h)
 obtain⟨_,a,q,g,_⟩:=Aii h;have C:=Ag7 hF j m u z g;rw[C]at h;rcases A04.1 (Aur hF j m g h fun l _ e=>by
  rw[e];exact (S2 (Zr (t:=[48]) ⟨0,Ark,Ex.symm⟩).2).2 rfl) with d|d
 ·unfold Axh at d;split at d
  ·simp only[A07,A2c]at d;obtain⟨rfl,_⟩:=d;simp only at hp;omega
  simp at d
 rw[C];exact (I5 (a:=p) (q:=q) n d).symm
def Aom (m0:Rat)(M:List (Par×Rat))(V:List (Par×Rat)):Rat:=m0+Ap (fun t=>t.2*B8 t.1 M) V
section
variable {f:Nat->Rat}{n:Nat}
def Bx (n:Nat)(f:Nat->Rat):Rat:=Ap f (List.range n)
def Fg (n:Nat)(f:Nat->Rat):Bx (n+1) f=Bx n f+f n:=by unfold Bx;rw[A65,Sw]
def Oz (f:Nat->Rat):Bx 0 f=0:=rfl
def A3 {f g:Nat->Rat}(h:∀ i,i<n->f i=g i):Bx n f=Bx n g:=Aj fun i d=>h i (A5x.1 d)
theorem N5 (n:Nat)(f g:Nat->Rat):Bx n (fun i=>f i-g i)=Bx n f-Bx n g:=by
 induction n with
 |zero=>show (0:Rat)=0-0;decide +kernel
 |succ n ih=>rw[Fg,Fg,Fg,ih];grind
def Dt (k:Rat)(n:Nat)(f:Nat->Rat):Bx n (fun i=>k*f i)=k*Bx n f:=Cv k _
def Aq2:∀ (B:Nat) (f:Nat->Nat),(∀ k,k<=B->f k<B)->∃ i j,i<j/\j<=B/\f i=f j
 |0,f,h=>absurd (h 0 (A0s _)) oV
 |B+1,f,h=>by
  by_cases t:∃ i,i<=B/\f i=f (B+1)
  ·obtain⟨i,F,e⟩:=t;exact⟨i,B+1,oV,A0s _,e⟩
  have d:∀ k,k<=B->f k≠f (B+1):=fun k m e=>t ⟨k,m,e⟩;have H:=h (B+1) (A0s _);obtain⟨i,j,g,z,e⟩:=Aq2 B (fun k=>if f k<f (B+1) then f k else f k-1) fun k m=>by
   have C:=h k oV;have u:=d k m;split<;>omega
  refine⟨i,j,g,oV,?_⟩;have u:=d i oV;have E:=d j z;split at e<;>split at e<;>omega
def Uq (m:Nat)(f:Nat->Nat):Nat->Nat
 |0=>0
 |n+1=>Uq m f n*m+f n
def Alp {m:Nat}{f:Nat->Nat}:∀ n,(∀ i,i<n->f i<m)->Uq m f n<m^n
 |0,_=>by simp[Uq]
 |n+1,h=>by
  have d:=Alp n fun i j=>h i oV;have g:=h n oV;have e:(Uq m f n+1)*m<=m^n*m:=A1x m d;rw[A1m]at e;show Uq m f n*m+f n<m^n*m;omega
def Af0 {m:Nat}{f g:Nat->Nat}:∀ n,(∀ i,i<n->f i<m)->(∀ i,i<n->g i<m)->Uq m f n=Uq m g n->∀ i,i<n->f i=g i
 |0,_,_,_,i,d=>oV
 |n+1,hf,hg,e,i,d=>by
  have j:Uq m f n*m+f n=Uq m g n*m+g n:=e;have a:=hf n oV;have b:=hg n oV;have q:Uq m f n=Uq m g n:=by
   have t:=congrArg (· / m) j;simpa[A1r _ m,A86 (show 0<m by omega),A4i a,A4i b] using t
  rcases A16 i n with h|h
  ·exact Af0 n (fun i d=>hf i oV) (fun i d=>hg i oV) q i h
  rw[q]at j;rw[show i=n by omega];omega
theorem Apo {M:Nat}(h:∀ i,i<n->-(M:Rat)<=f i/\f i<=M):-((n*M:Nat):Rat)<=Bx n f/\Bx n f<=((n*M:Nat):Rat):=by
 induction n with
 |zero=>rw[Oz,A42];constructor<;>decide +kernel
 |succ n ih =>
  have d:=ih fun i j=>h i oV;have g:=h n oV;have e:(((n+1)*M:Nat):Rat)=((n*M:Nat):Rat)+(M:Rat):=by rw[A1m,A27,A4f]
  rw[Fg,e];constructor<;>grind
def frc (q:Rat):Rat:=q-(q.floor:Rat)
theorem Axg (q:Rat):0<=frc q/\frc q<=1:=by
 have d:=Rat.floor_le q;have e:=Rat.lt_floor_add_one q;unfold frc;constructor<;>grind
theorem Aun {n M:Nat}{A:Nat->Nat->Int}{x:Nat->Rat}(Q:∀ i j,i<n->j<n->(A i j).natAbs<=M)(V:∀ i,i<n->∃ z:Int,Bx n (fun j=>(A i j:Rat)*x j)=z)
 (F:∀ h:Rat->Rat,(∀ i,i<n->Bx n (fun j=>(A i j:Rat)*h (x j))=0)->∀ j,j<n->h (x j)=0) :
 ∃ D:Nat,0<D/\D<=(2*(n*M)+1)^n/\∀ j,j<n->∃ k:Int,x j*(D:Rat)=k:=by
 have L:∀ (k:Nat) i,i<n->∃ z:Int,Bx n (fun j=>(A i j:Rat)*frc ((k:Rat)*x j))=z:=by
  intro k i d;obtain⟨z,g⟩:=V i d;have:∀ m,∃ w:Int,Bx m (fun j=>(A i j:Rat)*(((k:Rat)*x j).floor:Rat))=w:=by
   intro m;induction m with
   |zero=>exact⟨0,rfl⟩
   |succ m ih =>
    obtain⟨w,O⟩:=ih;exact⟨w+A i m*((k:Rat)*x m).floor,by rw[Fg,O,A44,A1v]⟩
  obtain⟨w,O⟩:=this n;refine⟨k*z-w,?_⟩;have e:(fun j=>(A i j:Rat)*frc ((k:Rat)*x j))=fun j=>(k:Rat)*((A i j:Rat)*x j)-(A i j:Rat)*(((k:Rat)*x j).floor:Rat):=by
   funext j;unfold frc;grind
  rw[e,N5,Dt,g,O,A8d,A1v,A1f]
 have C:∀ k i,∃ z:Int,i<n->Bx n (fun j=>(A i j:Rat)*frc ((k:Nat)*x j))=z:=fun k i=>by
  by_cases d:i<n
  ·obtain⟨z,g⟩:=L k i d;exact⟨z,fun _=>g⟩
  exact⟨0,fun h=>absurd h d⟩
 have u:∀ (k:Nat) i (z:Int),i<n->Bx n (fun j=>(A i j:Rat)*frc ((k:Rat)*x j))=z->-((n*M:Nat):Int)<=z/\z<=((n*M:Nat):Int):=by
  intro k i z d g;have:=Apo (n:=n) (f:=fun j=>(A i j:Rat)*frc ((k:Rat)*x j)) (M:=M) fun j N=>by
   have E:=Axg ((k:Rat)*x j);generalize frc ((k:Rat)*x j)=f at E;have Y:=Q i j d N;have I:(A i j:Rat)<=((M:Int):Rat):=A22.2 oV;have H:((-(M:Int):Int):Rat)<=(A i j:Rat):=A22.2 oV;rw[A6e]at H;rw[A1f]at I H;generalize (A i j:Rat)=a at I H;have J:(0:Rat)<=(M:Rat):=by grind
   generalize (M:Rat)=m at I H J;constructor
   ·show -m<=a*f;have W:0<=(a+m)*f:=A1s (by grind) E.1;have X:0<=m*(1-f):=A1s J (by grind);grind
   show a*f<=m;have W:0<=(m-a)*f:=A1s (by grind) E.1;have X:0<=m*(1-f):=A1s J (by grind);grind
  rw[g,<-A1f,<-A6e]at this;exact⟨A22.1 this.1,A22.1 this.2⟩
 have g:=fun k i=>(C k i).choose_spec;generalize P:(fun (k i:Nat)=>(C k i).choose)=Z at g;have g:∀ k i,i<n->Bx n (fun j=>(A i j:Rat)*frc ((k:Nat)*x j))=Z k i:=fun k i d=>by rw[<-P];exact (C k i).choose_spec d
 have K:∀ k i,i<n->(Z k i+((n*M:Nat):Int)).toNat<2*(n*M)+1:=fun k i d=>by
  have:=u k i _ d (g k i d);omega
 obtain⟨k,l,T,hl,e⟩:=Aq2 ((2*(n*M)+1)^n) (fun k=>Uq (2*(n*M)+1) (fun i=>(Z k i+((n*M:Nat):Int)).toNat) n) fun k _=>Alp n (K k);have R:=Af0 n (K k) (K l) e;have U:=F (fun t=>frc ((l:Rat)*t)-frc ((k:Rat)*t)) fun i d=>by
  have a:=u k i _ d (g k i d);have b:=u l i _ d (g l i d);have E:Z k i=Z l i:=by have:=R i d;omega
  have e:(fun j=>(A i j:Rat)*(frc ((l:Rat)*x j)-frc ((k:Rat)*x j)))=fun j=>(A i j:Rat)*frc ((l:Rat)*x j)-(A i j:Rat)*frc ((k:Rat)*x j):=by funext j;grind
  rw[e,N5,g l i d,g k i d,E];grind
 refine⟨l-k,oV,oV,fun j N=>⟨((l:Rat)*x j).floor-((k:Rat)*x j).floor,?_⟩⟩;have h:=U j N;unfold frc at h;have c:((l-k:Nat):Rat)=(l:Rat)-(k:Rat):=by
  have:(l:Rat)=((l-k:Nat):Rat)+(k:Rat):=by rw[<-A4f];congr 1;omega
  grind
 rw[c,A8d];grind
end
section
def Ld {α β:Type}(f:α->β->Rat):∀ (l:List α) (k:List β),Ap (fun a=>Ap (fun b=>f a b) k) l=Ap (fun b=>Ap (fun a=>f a b) l) k
 |[],k=>(Bk fun _ _=>rfl).symm
 |a::l,k=>by
  show Ap (fun b=>f a b) k+Ap (fun a=>Ap (fun b=>f a b) k) l=Ap (fun b=>f a b+Ap (fun a=>f a b) l) k;rw[Ld f l k,C0]
theorem U3 {α:Type}{f:α->Rat}:∀ {l:List α},(∀ a∈l,0<=f a)->0<=Ap f l
 |[],_=>A7u
 |a::l,h=>by
  have g:=h a (A1g ..);have j:=U3 fun x e=>h x (A01 _ e);show 0<=f a+Ap f l;grind
theorem Xx {α:Type}{f:α->Rat}:∀ {l:List α},(∀ a∈l,0<=f a)->Ap f l=0->∀ a∈l,f a=0
 |[],_,_,a,g=>by cases g
 |x::l,h,e,a,g=>by
  have n:=h x (A1g ..);have t:=U3 fun y j=>h y (A01 _ j);have m:f x+Ap f l=0:=e;rcases A0v.1 g with rfl|g
  ·grind
  exact Xx (fun y j=>h y (A01 _ j)) (by grind) a g
def L8 (C:CF)(e f:Option Par):Aq C e f=Aq C f e:=by
 cases e<;>cases f<;>simp only[Aq]<;>rw[V6]
section
variable {P:List Par} {C:CF} {b d z:Option Par->Rat} {k:Rat}
def Hk (k:Rat)(b:Option Par->Rat):Option Par->Rat
 |none=>0
 |some p=>k*b (some p)
def Fq (P:List Par)(C:CF)(k:Rat)(b:Option Par->Rat):Prop:=∀ e∈Ae P,Ap (fun f=>Aq C e f*b f) (Ae P)+Hk k b e=Av C e
def Hm (P:List Par)(b:Option Par->Rat):Rat:=Ap (fun p=>b (some p)*b (some p)) P
def Sg (z b:Option Par->Rat)(P:List Par)(C:CF):Rat:=Ap (fun e=>z e*Ap (fun f=>Aq C e f*b f) (Ae P)) (Ae P)
theorem K9 (b:Option Par->Rat):Cp b P C=Sg b b P C:=by
 exact Aj fun e _=>by rw[<-Cv];exact Aj fun f _=>by grind
theorem W7 (z b:Option Par->Rat):Sg z b P C=Sg b z P C:=by
 unfold Sg;rw[Aj (g:=fun e=>Ap (fun f=>z e*(Aq C e f*b f)) (Ae P)) fun e _=>(Cv _ _).symm,Ld];exact Aj fun f _=>by rw[<-Cv];exact Aj fun e _=>by rw[L8 C e f];grind
theorem Aca (z w b:Option Par->Rat):Sg (fun e=>z e+w e) b P C=Sg z b P C+Sg w b P C:=by
 unfold Sg;rw[<-C0];exact Aj fun e _=>by grind
theorem Asa (z b:Option Par->Rat):Cp (fun e=>z e+b e) P C=Cp z P C+2*Sg z b P C+Cp b P C:=by
 rw[K9,K9,K9,Aca,W7 z,W7 b,Aca,Aca,W7 b z];grind
def Gm (f:Option Par->Rat):Ap f (Ae P)=f none+Ap (fun p=>f (some p)) P:=by
 unfold Ae;show f none+_=_;rw[Sj]
theorem Fq.bil (h:Fq P C k b)(z:Option Par->Rat):Sg z b P C=Ap (fun e=>z e*Av C e) (Ae P)-k*Ap (fun p=>z (some p)*b (some p)) P:=by
 have:Sg z b P C=Ap (fun e=>z e*Av C e + -(z e*Hk k b e)) (Ae P):=Aj fun e j=>by rw[<-h e j];grind
 rw[this,C0];have g:Ap (fun e=>-(z e*Hk k b e)) (Ae P) = -(k*Ap (fun p=>z (some p)*b (some p)) P):=by
  rw[Gm,<-Cv];have:Ap (fun p=>-(z (some p)*Hk k b (some p))) P=Ap (fun p=>(-1)*(k*(z (some p)*b (some p)))) P:=Aj fun p _=>by unfold Hk;grind
  rw[this,Cv];unfold Hk;grind
 rw[g];grind
theorem Fq.loss (h:Fq P C k b)(z:Option Par->Rat):sqC (fun e=>z e+b e) P C+k*Hm P (fun e=>z e+b e)=sqC b P C+k*Hm P b+(Cp z P C+k*Hm P z):=by
 have g:=h.bil z;have j:Ap (fun e=>(z e+b e)*Av C e) (Ae P)=Ap (fun e=>z e*Av C e) (Ae P)+Ap (fun e=>b e*Av C e) (Ae P):=by
  rw[<-C0];exact Aj fun e _=>by grind
 have m:Hm P (fun e=>z e+b e)=Hm P z+(Ap (fun p=>z (some p)*b (some p)) P*2+Hm P b):=by
  unfold Hm;rw[<-Fc,<-C0,<-C0];exact Aj fun p _=>by grind
 unfold sqC;rw[Asa,j,m,g];grind
theorem Wm (P:List Par)(b:Option Par->Rat):0<=Hm P b:=U3 fun p _=>by
 rcases A7f (a:=0) (b:=b (some p)) with h|h
 ·exact A1s h h
 have:=A1s (a:=-b (some p)) (b:=-b (some p)) (by grind) (by grind);grind
theorem Fq.least (h:Fq P C k b)(g:0<=k)(hp:∀ z,0<=Cp z P C)(d:Option Par->Rat):sqC b P C+k*Hm P b<=sqC d P C+k*Hm P d:=by
 have j:=h.loss fun e=>d e-b e;have e:(fun e=>d e-b e+b e)=d:=funext fun e=>by grind
 have m:=A1s g (Wm P fun e=>d e-b e);grind
theorem Rp (I:0<k)(K:0<C.c)(hp:∀ z,0<=Cp z P C)(j:∀ e∈Ae P,Ap (fun f=>Aq C e f*z f) (Ae P)+Hk k z e=0):∀ e∈Ae P,z e=0:=by
 have t:Sg z z P C+k*Hm P z=0:=by
  have:Sg z z P C=Ap (fun e=>(-1)*(z e*Hk k z e)) (Ae P):=Aj fun e g=>by have:=j e g;grind
  rw[this,Cv,Gm];have n:Ap (fun p=>z (some p)*Hk k z (some p)) P=k*Hm P z:=by unfold Hm;rw[<-Cv];exact Aj fun p _=>by unfold Hk;grind
  rw[n];unfold Hk;grind
 rw[<-K9]at t;have u:=Wm P z;have J:=A1s (A84 I) u;have E:Hm P z=0:=by
  have:k*Hm P z=0:=by grind
  rcases A34.1 this with e|e
  ·grind
  exact e
 have F:∀ p∈P,z (some p)=0:=fun p hp=>by
  have:=Xx (fun q _=>by
   rcases A7f (a:=0) (b:=z (some q)) with h|h
   ·exact A1s h h
   have:=A1s (a:=-z (some q)) (b:=-z (some q)) (by grind) (by grind);grind) E p hp
  rcases A34.1 this with e|e<;>exact e
 have H:z none=0:=by
  have:=j none (by unfold Ae;simp);rw[Gm,Bk fun p hp=>by rw[F p hp,A7g]]at this;have e:C.c*z none=0:=by
   have m:Aq C none none=C.c:=rfl;rw[m]at this;unfold Hk at this;grind
  rcases A34.1 e with e|e
  ·grind
  exact e
 intro e g;rcases A0v.1 g with rfl|g
 ·exact H
 grind
end
theorem Ara {T:List (List UInt8×Nat)}{F:List Ao}{lab:Int}(hF:Ej T F lab)(h1:-1<=lab)(h2:∀ l:Nat,lab=(l:Int)->l<T.length)(z:Option Par->Rat)(P:List Par):∀ {L:List Cr},(∀ y∈L,Bp T y.1)->0<=Cp z P (Ax F lab L):=by
 intro L;induction L using Je with
 |h0=>exact fun _=>by show 0<=Cp z P (CF.num 0);rw[Awk.norm z P];exact A7u
 |h1 L y ih =>
  intro h;have i1:=ih fun z hz=>h z (A3d _ hz);have hy:=h y mV;have hlen:=hy.len;rw[F9,Aav];rcases Lp hF hy h1 (fun l hl=>by have:=h2 l hl;omega) with ⟨_,o⟩|⟨_,o⟩
  ·rw[o.norm];generalize Sv z P (cfT F lab y.1).s=v;have hw:(0:Rat)<=(y.2.1:Rat):=by grind
   have hv:0<=v*v:=by
    rcases A7f (a:=0) (b:=v) with h|h
    ·exact A1s h h
    ·have:=A1s (a:=-v) (b:=-v) (by grind) (by grind);grind
   have:=A1s hv hw;grind
  ·rw[o.norm];grind
end
section
variable {p:Par}
theorem Gd {α:Type}(c:α->Bool)(f:α->Rat):∀ l:List α,Ap f l=Ap f (l.filter c)+Ap f (l.filter fun x=>!c x)
 |[]=>by show (0:Rat)=0+0;grind
 |a::l=>by
  have d:=Gd c f l;have e:Ap f (a::l)=f a+Ap f l:=rfl;rw[e,d,A51,A51];cases h:c a
  ·simp only[A3z,if_false,Bool.not_false,if_true];show _=_+(f a+_);grind
  simp only[if_true,A5m,A3z,if_false];show _=(f a+_)+_;grind
theorem Nb {α:Type}[DecidableEq α]{f:α->Rat}{x:α}:∀ {l:List α},l.Nodup->x∈l->Ap (fun y=>if y=x then f y else 0) l=f x
 |y::l,hn,hx=>by
  obtain⟨d,j⟩:=A3a.1 hn;show (if y=x then f y else 0)+Ap (fun y=>if y=x then f y else 0) l=f x;by_cases e:y=x
  ·subst e;rw[if_pos rfl,Bk fun z n=>if_neg fun (e:z=y)=>d (e▸n)];grind
  rw[if_neg e,Nb j ((A0v.1 hx).resolve_left fun h=>e h.symm)];grind
section
variable {P:List Par} {C:CF} {q:Rat} {f g:Int} {tg:List UInt8->List UInt8} {m ρ:Option Par->Rat}
def Au (P:List Par)(g:Int):List Par:=P.filter fun p=>!decide (p.1=g)
def onF (P:List Par)(g:Int):List Par:=P.filter fun p=>decide (p.1=g)
def Ct (P:List Par)(f:Int)(tg:List UInt8->List UInt8)(c:List UInt8)(h:Par->Rat):Rat:=Ap (fun a=>if tg a.2=c then h a else 0) (onF P f)
def M3 (P:List Par)(f:Int)(tg:List UInt8->List UInt8)(m:Option Par->Rat)(c:List UInt8):Rat:=Ct P f tg c (fun a=>m (some a))/(1+Ct P f tg c fun _=>1)
def Am4 (P:List Par)(q:Rat)(f:Int)(tg:List UInt8->List UInt8)(m:Option Par->Rat):Option Par->Rat
 |none=>0
 |some p=>q*(m (some p)-if p.1=f then M3 P f tg m (tg p.2) else 0)
def Fv (P:List Par)(f g:Int)(tg:List UInt8->List UInt8)(m:Option Par->Rat):Option Par->Rat
 |none=>m none
 |some p=>if p.1=g then M3 P f tg m p.2 else m (some p)-if p.1=f then M3 P f tg m (tg p.2) else 0
def Yj (h:p.1=g):Fv P f g tg m (some p)=M3 P f tg m p.2:=if_pos h
def Qm (h:p.1≠g):Fv P f g tg m (some p)=m (some p)-if p.1=f then M3 P f tg m (tg p.2) else 0:=if_neg h
structure Dep (P:List Par)(C:CF)(f g:Int)(tg:List UInt8->List UInt8):Prop where
 ne:f≠g
 nd:P.Nodup
 into:∀ a∈P,a.1=f->(g,tg a.2)∈P
 cell:∀ b∈P,b.1=g->∀ e,Aq C e (some b)=Ct P f tg b.2 fun a=>Aq C e (some a)
 right:∀ b∈P,b.1=g->Av C (some b)=Ct P f tg b.2 fun a=>Av C (some a)
def Dj :p∈onF P f↔p∈P/\p.1=f:=by unfold onF;rw[A3p,decide_eq_true_iff]
def F0 :p∈Au P g↔p∈P/\p.1≠g:=by unfold Au;rw[A3p];simp
theorem Axr (c:List UInt8):0<=Ct P f tg c fun _=>1:=by
 unfold Ct;generalize onF P f=l;induction l with
 |nil=>exact A7u
 |cons a l ih =>
  show 0<=(if tg a.2=c then 1 else 0)+_;have:(0:Rat)<=if tg a.2=c then 1 else 0:=by split<;>decide +kernel
  grind
theorem Va (c:List UInt8)(h:Par->Rat)(t:Rat):Ct P f tg c (fun a=>t*h a)=t*Ct P f tg c h:=by
 unfold Ct;rw[<-Cv];exact Aj fun a _=>by split<;>grind
theorem Ajr (c:List UInt8)(h k:Par->Rat):Ct P f tg c (fun a=>h a-k a)=Ct P f tg c h-Ct P f tg c k:=by
 unfold Ct;rw[Aj (g:=fun a=>(if tg a.2=c then h a else 0)+(-1)*(if tg a.2=c then k a else 0)) fun a _=>by split<;>grind,C0,Cv];grind
def Ow {c:List UInt8}{h k:Par->Rat}(e:∀ a∈P,a.1=f->tg a.2=c->h a=k a):Ct P f tg c h=Ct P f tg c k:=by
 unfold Ct;refine Aj fun a t=>?_;obtain⟨j,n⟩:=Dj.1 t;by_cases d:tg a.2=c
 ·rw[if_pos d,if_pos d,e a j n d]
 rw[if_neg d,if_neg d]
theorem Awe (c:List UInt8):M3 P f tg m c*(1+Ct P f tg c fun _=>1)=Ct P f tg c fun a=>m (some a):=by
 unfold M3;have h:=Axr (P:=P) (f:=f) (tg:=tg) c;have:(1+Ct P f tg c fun _=>1)≠0:=fun e=>by grind
 grind
theorem Dep.sum (d:Dep P C f g tg)(h:Option Par->Rat)(N:∀ b∈P,b.1=g->h (some b)=Ct P f tg b.2 fun a=>h (some a)) :
 Ap (fun e=>h e*Fv P f g tg m e) (Ae P)=Ap (fun e=>h e*m e) (Ae (Au P g)):=by
 obtain⟨s,F⟩:∃ s,M3 P f tg m=s:=⟨_,rfl⟩;rw[Gm,Gm,Gd (fun p:Par=>decide (p.1=g)) _ P];have K:Ap (fun p:Par=>h (some p)*Fv P f g tg m (some p)) (P.filter fun p=>decide (p.1=g))=Ap (fun a=>h (some a)*s (tg a.2)) (onF P f):=by
  rw[Aj (g:=fun b:Par=>Ap (fun a:Par=>if tg a.2=b.2 then h (some a)*s b.2 else 0) (onF P f)) fun b z=>by
   obtain⟨E,j⟩:=Dj.1 z;rw[Yj j,F,N b E j];unfold Ct;rw[<-Fc];exact Aj fun a _=>by split<;>grind]
  rw[Ld];refine Aj fun a n=>?_;obtain⟨t,u⟩:=Dj.1 n;rw[Aj (g:=fun b:Par=>if b=(g,tg a.2) then h (some a)*s b.2 else 0) fun b z=>?_]
  ·exact Nb (d.nd.sublist List.filter_sublist) (Dj.2 ⟨d.into a t u,rfl⟩)
  obtain⟨_,j⟩:=Dj.1 z;by_cases e:tg a.2=b.2
  ·rw[if_pos e,if_pos (A56 j e.symm)]
  rw[if_neg e,if_neg fun h=>e (by rw[h])]
 have L:Ap (fun p:Par=>h (some p)*Fv P f g tg m (some p)) (P.filter fun p=>!decide (p.1=g))=Ap (fun p=>h (some p)*m (some p)) (Au P g)-Ap (fun a=>h (some a)*s (tg a.2)) (onF P f):=by
  have I:Ap (fun a=>h (some a)*s (tg a.2)) (onF P f)=Ap (fun p:Par=>if p.1=f then h (some p)*s (tg p.2) else 0) (Au P g):=by
   rw[Gd (fun p:Par=>decide (p.1=f)) (fun p:Par=>if p.1=f then h (some p)*s (tg p.2) else 0) (Au P g)];have J:(Au P g).filter (fun p=>decide (p.1=f))=onF P f:=by
    unfold Au onF;rw[List.filter_filter];refine List.filter_congr fun p _=>?_;by_cases e:p.1=f
    ·rw[decide_eq_true e,decide_eq_false (fun H=>d.ne (e.symm.trans H))];rfl
    rw[decide_eq_false e];rfl
   rw[J,Bk (l:=List.filter _ _) fun p hp=>?_]
   ·rw[Aj (g:=fun a=>h (some a)*s (tg a.2)) (f:=fun p:Par=>if p.1=f then h (some p)*s (tg p.2) else 0) (l:=onF P f) fun a n=>if_pos (Dj.1 n).2];grind
   rw[A3p]at hp;exact if_neg (by simpa using hp.2)
  rw[I,Aj (g:=fun p:Par=>h (some p)*m (some p)+(-1)*(if p.1=f then h (some p)*s (tg p.2) else 0)) fun p hp=>?_,C0,Cv]
  ·unfold Au;grind
  have hp:=(F0.1 hp).2;rw[Qm hp,F];split<;>grind
 rw[K,L];show h none*m none+_=h none*m none+_;grind
theorem Dep.back (d:Dep P C f g tg)(Q:∀ b∈P,b.1=g->ρ (some b)=Ct P f tg b.2 fun a=>ρ (some a))
 (h:∀ e∈Ae (Au P g),Ap (fun k=>Aq C e k*m k) (Ae (Au P g))+Am4 P q f tg m e=ρ e) :
 ∀ e∈Ae P,Ap (fun k=>Aq C e k*Fv P f g tg m k) (Ae P)+Hk q (Fv P f g tg m) e=ρ e:=fun e J=>by
 rw[d.sum (fun k=>Aq C e k) fun b E F=>d.cell b E F e];have t:∀ p∈P,p.1≠g->some p∈Ae (Au P g):=fun p u z=>by
  unfold Ae;exact A01 _ (List.mem_map_of_mem (F0.2 ⟨u,z⟩))
 cases e with
 |none=>exact h none (by unfold Ae;simp)
 |some p =>
  have hp:p∈P:=by
   unfold Ae at J;rcases A0v.1 J with h|h
   ·cases h
   obtain⟨x,O,e⟩:=A0r.1 h;cases e;exact O
  by_cases n:p.1=g
  ·
   obtain⟨s,H⟩:∃ s,M3 P f tg m=s:=⟨_,rfl⟩;have u:Ap (fun k=>Aq C (some p) k*m k) (Ae (Au P g))=Ct P f tg p.2 fun a=>Ap (fun k=>Aq C (some a) k*m k) (Ae (Au P g)):=by
    unfold Ct;rw[Aj (g:=fun k=>Ap (fun a:Par=>if tg a.2=p.2 then Aq C (some a) k*m k else 0) (onF P f)) fun k _=>by
     rw[L8,d.cell p hp n k];unfold Ct;rw[<-Fc];refine Aj fun a _=>?_;rw[L8];split<;>grind,Ld]
    refine Aj fun a _=>?_;by_cases j:tg a.2=p.2
    ·rw[if_pos j];exact Aj fun k _=>if_pos j
    rw[if_neg j];exact Bk fun k _=>if_neg j
   have z:(Ct P f tg p.2 fun a=>Ap (fun k=>Aq C (some a) k*m k) (Ae (Au P g)))=Ct P f tg p.2 fun a=>ρ (some a)-q*(m (some a)-s p.2):=Ow fun a N K j=>by
    have:=h (some a) (t a N fun e=>d.ne (K.symm.trans e));rw[show Am4 P q f tg m (some a)=q*(m (some a)-if a.1=f then M3 P f tg m (tg a.2) else 0) from rfl,if_pos K,j,H]at this;grind
   have I:=Awe (P:=P) (f:=f) (tg:=tg) (m:=m) p.2;rw[H]at I;have L:(Ct P f tg p.2 fun a=>ρ (some a)-q*(m (some a)-s p.2))=ρ (some p)-q*((Ct P f tg p.2 fun a=>m (some a))-s p.2*Ct P f tg p.2 fun _=>1):=by
    rw[Ajr,Va,Ajr,<-Q p hp n];have:(Ct P f tg p.2 fun _=>s p.2)=s p.2*Ct P f tg p.2 fun _=>1:=by
     rw[<-Va];exact Ow fun a _ _ _=>by grind
    rw[this]
   rw[u,z,L,<-I];show _+q*(if p.1=g then M3 P f tg m p.2 else _)=_;rw[if_pos n,H];grind
  have:=h (some p) (t p hp n);show _+q*(if p.1=g then _ else m (some p)-if p.1=f then M3 P f tg m (tg p.2) else 0)=_;rw[if_neg n];exact this
def Dep.norm (d:Dep P C f g tg)(h:∀ e∈Ae (Au P g),Ap (fun k=>Aq C e k*m k) (Ae (Au P g))+Am4 P q f tg m e=Av C e):Fq P C q (Fv P f g tg m):=d.back d.right h
theorem Dep.inj (d:Dep P C f g tg)(I:0<q)(H:0<C.c)(hp:∀ z,0<=Cp z P C)(h:∀ e∈Ae (Au P g),Ap (fun k=>Aq C e k*m k) (Ae (Au P g))+Am4 P q f tg m e=0):∀ e∈Ae (Au P g),m e=0:=fun e F=>by
 have h0:=Rp I H hp (d.back (ρ:=fun _=>0) (fun b _ _=>by
  have:=Va (P:=P) (f:=f) (tg:=tg) b.2 (fun _=>1) 0;simp only[A32]at this;exact this.symm) h)
 cases e with
 |none=>exact h0 none (by unfold Ae;simp)
 |some p =>
  unfold Ae at F;rcases A0v.1 F with h|h
  ·cases h
  obtain⟨x,J,e⟩:=A0r.1 h;cases e;obtain⟨j,u⟩:=F0.1 J;have n:=h0 (some p) (by unfold Ae;exact A01 _ (List.mem_map_of_mem j));rw[Qm u]at n;by_cases t:p.1=f
  ·have E:=h0 (some (g,tg p.2)) (by unfold Ae;exact A01 _ (List.mem_map_of_mem (d.into p j t)));rw[Yj (p:=(g,tg p.2)) rfl]at E;rw[if_pos t,E]at n;grind
  rw[if_neg t]at n;grind
end
end
section
section
variable {P:Program} [A6 P] {fn:Func} {Post:Ca} {st:List KI×S} {u m:PH}
end
end
def Av1 {n:Nat}(h:n<=8):1374926400^n*7*100<10^100:=by
 have d:1374926400^n<=1374926400^8:=A1h oV h;have e:1374926400^8<10^80:=jV
 have g:(10:Nat)^80*100000<10^100:=jV
 omega
def Af6 {u:PH}{T:List (List UInt8×Nat)}{R:List Bw}{F:List Ao}{lab:Int}(ok:B2 u T R F lab)(hT:T.length<=8){L:List Cr}(d:∀ y∈L,Bp T y.1/\y.2.1<=7)(e:L.length<=100):CFS (Ax F lab L)/\CFV (Ax F lab L):=by
 obtain⟨g,h⟩:=Akz ok d;refine⟨g.cfs oV ?_,h⟩;have hp:=Av1 hT;have:=A1x (1374926400^T.length*7) e;omega
section
variable {L:List Cr}
def Ati {F:List Ao}{lab:Int}:∀ p,(Ax F lab L).s p≠0->Ac6 F lab p:=fun p hp=>by
 obtain⟨y,e,d⟩:=Asu hp;exact (Aii d).1
def WOK.tup {u:PH}{T:List (List UInt8×Nat)}(h:WOK u T L):∀ y∈L,Bp T y.1/\y.2.1<=7:=fun y d=>by
 obtain⟨_,e,_,g⟩:=h y d;exact⟨e,g⟩
end
section
variable {F:List Ao}{R:List Bw}{T:List (List UInt8×Nat)}{lab:Int}{u:PH}
def M9 (ok:B2 u T R F lab):∀ l:Nat,lab=(l:Int)->l<T.length:=fun l d=>by
 obtain⟨n,e⟩:=ok.l2 l d;exact (A0o.1 e).1
def Azj {L:List Cr}(ok:B2 u T R F lab)(z:T.length<=8)(hT:∀ y∈L,Bp T y.1/\y.2.1<=7)(t:L.length<=6):CFD 16 (10^75) (Ax F lab L):=by
 obtain⟨d,_⟩:=Akz ok hT;refine d.to oV ?_;have e:12^(16-2*T.length)=144^(8-T.length):=by
  rw[show 16-2*T.length=2*(8-T.length) by omega,Nat.pow_mul]
 have h:144^(8-T.length)<=1374926400^(8-T.length):=Nat.pow_le_pow_left oV _;have j:1374926400^T.length*1374926400^(8-T.length)=1374926400^8:=by rw[<-A4k];congr 1;omega
 have m:1374926400^8*42<=10^75:=jV
 rw[e];have g:L.length*(1374926400^T.length*7)*144^(8-T.length)<=6*(1374926400^T.length*7)*1374926400^(8-T.length):=A2p (A1x _ t) h;have n:6*(1374926400^T.length*7)*1374926400^(8-T.length)=(1374926400^T.length*1374926400^(8-T.length))*42:=by
  generalize 1374926400^T.length=a;generalize 1374926400^(8-T.length)=b;rw[A1r 6,A1o a 7 6,A1o a b 42,A1o a (7*6) b,A1r (7*6) b]
 rw[n,j]at g;exact A0l g m
end
section
variable {a i m:Nat}
def Lf {F:List Ao}{lab:Int}:∀ {L:List Cr},(Ax F lab L).c=Ap (fun y=>(cfT F lab y.1).c*(y.2.1:Rat)) L/\(∀ p,(Ax F lab L).s p=Ap (fun y=>(cfT F lab y.1).s p*(y.2.1:Rat)) L)/\∀ p,(Ax F lab L).t p=Ap (fun y=>(cfT F lab y.1).t p*(y.2.1:Rat)) L:=by
 intro L;induction L using Je with
 |h0=>exact⟨rfl,fun _=>rfl,fun _=>rfl⟩
 |h1 L y ih =>
  obtain⟨d,e,g⟩:=ih;rw[F9];refine⟨?_,fun p=>?_,fun p=>?_⟩<;>rw[Sw]
  ·rw[<-d];rfl
  ·rw[<-e];rfl
  rw[<-g];rfl
def Abw {q:Rat}(h:0<q):q≠0:=fun e=>by rw[e]at h;exact absurd h jV
theorem Vt {α:Type}{f:α->Rat}{x:α}:∀ {l:List α},(∀ y∈l,0<=f y)->x∈l->0<f x->0<Ap f l
 |y::l,h,d,hp=>by
  have g:=h y (A1g ..);have j:=U3 fun y e=>h y (A01 _ e);show 0<f y+Ap f l;rcases A0v.1 d with rfl|d
  ·grind
  have:=Vt (fun y e=>h y (A01 _ e)) d hp;grind
def Ab9 {α:Type}{f:α->Rat}{l:List α}(h:Ap f l≠0):∃ x∈l,f x≠0:=A2h fun e=>h (Bk fun x g=>A2h fun d=>e ⟨x,g,d⟩)
section
variable {u:PH} {T:List (List UInt8×Nat)} {R:List Bw} {F:List Ao} {lab:Int} {ss:List (List UInt8)} {L:List Cr} {P:List Par}
def Ys (ok:B2 u T R F lab)(C:Bp T ss)(E:Df F lab ss=true)(j:F[i]?=some (a,2,m))(c:List UInt8):(cfT F lab ss).s ((i:Int),c)=if ss.getD a []=c then 1 else 0:=by
 have z:=C.len;rw[As5 ok.feat C ok.l1 (fun l e=>by have:=M9 ok l e;omega) E (by show (0:Int)<=(i:Int);omega)];have n:=(A0o.1 j).1;by_cases e:ss.getD a []=c
 ·rw[if_pos e];refine I5 (Bcs F ss F.length (A0s _)) (N0.2 ⟨i,_,n,j,?_⟩);unfold Bcc;rw[if_pos rfl,e]
 rw[if_neg e];refine L9 fun H=>?_;obtain⟨x,I,d⟩:=A0r.1 H;obtain⟨k,f,_,t,g⟩:=N0.1 I;have h:=Yz g;rw[d]at h;obtain rfl:k=i:=by have h:(i:Int)=(k:Int):=h;omega
 rw[j]at t;cases t;unfold Bcc at g;rw[if_pos rfl]at g;cases g;cases d;exact e rfl
def Zu (ok:B2 u T R F lab)(g:Bp T ss)(j:Df F lab ss=false):Uw (cfT F lab ss):=by
 have d:=g.len;rcases Lp ok.feat g ok.l1 (fun l e=>by have:=M9 ok l e;omega) with ⟨h,_⟩|⟨_,h⟩
 ·rw[j]at h;cases h
 exact h
def Aot (ok:B2 u T R F lab)(g:Bp T ss)(j:Df F lab ss=true):Xj (cfT F lab ss):=by
 have d:=g.len;rcases Lp ok.feat g ok.l1 (fun l e=>by have:=M9 ok l e;omega) with ⟨_,h⟩|⟨h,_⟩
 ·exact h
 rw[j]at h;cases h
theorem Me (ok:B2 u T R F lab)(hT:∀ y∈L,Bp T y.1/\1<=y.2.1)(g:F[i]?=some (a,2,m))(c:List UInt8):(Ax F lab L).s ((i:Int),c)≠0↔∃ y∈L,Df F lab y.1=true/\y.1.getD a []=c:=by
 rw[Lf.2.1];have t:∀ y∈L,(0:Rat)<(y.2.1:Rat):=fun y d=>by
  have:((0:Nat):Rat)<(y.2.1:Rat):=Rat.natCast_lt_natCast.2 (hT y d).2;exact this
 constructor
 ·intro h;obtain⟨y,d,n⟩:=Ab9 h;refine⟨y,d,?_⟩;cases hc:Df F lab y.1 with
  |false=>exact absurd (by rw[(Zu ok (hT y d).1 hc).s,A32]) n
  |true =>
   refine⟨rfl,A2h fun e=>n ?_⟩;rw[Ys ok (hT y d).1 hc g,if_neg e,A32]
 rintro⟨y,d,hc,e⟩;have:0<Ap (fun y:Cr=>(cfT F lab y.1).s ((i:Int),c)*(y.2.1:Rat)) L:=by
  refine Vt (fun z j=>?_) d ?_
  ·cases hz':Df F lab z.1 with
   |false=>rw[(Zu ok (hT z j).1 hz').s,A32];exact A7u
   |true =>
    rw[Ys ok (hT z j).1 hz' g];have:=t z j;split<;>grind
  rw[Ys ok (hT y d).1 hc g,if_pos e,Rat.one_mul];exact t y d
 exact Abw this
theorem Aua (ok:B2 u T R F lab)(hT:∀ y∈L,Bp T y.1/\1<=y.2.1){i j:Nat}{a m E Q:Nat}(N:F[i]?=some (a,2,m))(O:F[j]?=some (E,2,Q))(c d:List UInt8):(Ax F lab L).t (Aw ((i:Int),c) ((j:Int),d))≠0↔∃ y∈L,Df F lab y.1=true/\y.1.getD a []=c/\y.1.getD E []=d:=by
 rw[Lf.2.2];have K:∀ y∈L,(0:Rat)<(y.2.1:Rat):=fun y g=>by
  have:((0:Nat):Rat)<(y.2.1:Rat):=Rat.natCast_lt_natCast.2 (hT y g).2;exact this
 have I:∀ y∈L,Df F lab y.1=true->(cfT F lab y.1).t (Aw ((i:Int),c) ((j:Int),d))=if y.1.getD a []=c/\y.1.getD E []=d then 1 else 0:=fun y g n=>by
  rw[(Aot ok (hT y g).1 n).t,Ys ok (hT y g).1 n N,Ys ok (hT y g).1 n O];by_cases C:y.1.getD a []=c
  ·by_cases H:y.1.getD E []=d
   ·rw[if_pos C,if_pos H,if_pos ⟨C,H⟩];grind
   rw[if_neg H,if_neg (c:=_/\_) fun h=>H h.2];grind
  rw[if_neg C,if_neg (c:=_/\_) fun h=>C h.1];grind
 constructor
 ·intro h;obtain⟨y,g,C⟩:=Ab9 h;refine⟨y,g,?_⟩;cases n:Df F lab y.1 with
  |false=>exact absurd (by rw[(Zu ok (hT y g).1 n).t,A32]) C
  |true =>
   refine⟨rfl,A2h fun e=>C ?_⟩;rw[I y g n,if_neg e,A32]
 rintro⟨y,g,n,e⟩;have:0<Ap (fun y:Cr=>(cfT F lab y.1).t (Aw ((i:Int),c) ((j:Int),d))*(y.2.1:Rat)) L:=by
  refine Vt (fun z J=>?_) g ?_
  ·cases hz':Df F lab z.1 with
   |false=>rw[(Zu ok (hT z J).1 hz').t,A32];exact A7u
   |true =>
    rw[I z J hz'];have:=K z J;split<;>grind
  rw[I y g n,if_pos e,Rat.one_mul];exact K y g
 exact Abw this
end
end
section
section
variable {u:PH} {T:List (List UInt8×Nat)} {R:List Bw} {F:List Ao} {lab:Int} {ss:List (List UInt8)} {L:List Cr} {P:List Par}
def Apx (e f:Option Par):Aq (Ax F lab L) e f=Ap (fun y=>Aq (cfT F lab y.1) e f*(y.2.1:Rat)) L:=by
 obtain⟨g,d,h⟩:=Lf (F:=F) (lab:=lab) (L:=L);cases e<;>cases f
 ·exact g
 ·exact d _
 ·exact d _
 exact h _
def Ams (e:Option Par):Av (Ax F lab L) e=Ap (fun y=>Av (cfT F lab y.1) e*(y.2.1:Rat)) L:=by
 obtain⟨h,d,g⟩:=Lf (F:=F) (lab:=lab) (L:=L);cases e
 ·exact d _
 exact g _
def Uw.right {H:CF}(h:Uw H)(e:Option Par):Av H e=0:=by
 cases e
 ·exact h.s _
 exact h.t _
def Ru {C:CF}(g:Dk F C P){i:Nat}{a m:Nat}(d:F[i]?=some (a,2,m))(c:List UInt8):((i:Int),c)∈P↔C.s ((i:Int),c)≠0:=by
 rw[g.2];constructor
 ·rintro (⟨k,f,e,hk,h1⟩|h)
  ·have j:(i:Int)=(k:Int):=congrArg Prod.fst e;obtain rfl:i=k:=oV;rw[d]at hk;cases hk;cases h1
  exact h.1
 exact fun h=>.inr ⟨h,i,_,rfl,d,rfl⟩
theorem Akr (ok:B2 u T R F lab)(C:Bp T ss)(z:Df F lab ss=true){i j:Nat}{a m d K:Nat}(H:F[i]?=some (a,2,m))(I:F[j]?=some (d,2,K)){tg:List UInt8->List UInt8}
 (t:tg (ss.getD a [])=ss.getD d []) (J:P.Nodup) (n:((i:Int),ss.getD a [])∈P) (X:Rat) (c:List UInt8) :
 (Ct P (i:Int) tg c fun p=>X*(cfT F lab ss).s p)=X*(cfT F lab ss).s ((j:Int),c):=by
 rw[Ys ok C z I];unfold Ct;rw[Aj (g:=fun p:Par=>if p=((i:Int),ss.getD a []) then (if ss.getD d []=c then X else 0) else 0) fun p hp=>?_]
 ·refine (Nb (f:=fun _=>if ss.getD d []=c then X else 0) (l:=onF P (i:Int)) (J.sublist List.filter_sublist) (Dj.2 ⟨n,rfl⟩)).trans ?_;split<;>grind
 obtain⟨N,E⟩:=Dj.1 hp;obtain⟨x,y⟩:=p;obtain rfl:x=(i:Int):=E;show (if tg y=c then X*(cfT F lab ss).s ((i:Int),y) else 0)=_;rw[Ys ok C z H];by_cases e:ss.getD a []=y
 ·subst e;rw[if_pos rfl,if_pos rfl,t,Rat.mul_one]
 rw[if_neg e,if_neg (c:=(_:Par)=_) fun h=>e (Prod.mk.inj h).2.symm,A7g,ite_self]
def Aya (ok:B2 u T R F lab)(hT:∀ y∈L,Bp T y.1/\1<=y.2.1)(J:Dk F (Ax F lab L) P){i j:Nat}(a0:i≠j){a m W m':Nat}(C:F[i]?=some (a,2,m))(Q:F[j]?=some (W,2,m')){tg:List UInt8->List UInt8}
 (I:∀ y∈L,Df F lab y.1=true->tg (y.1.getD a [])=y.1.getD W []):Dep P (Ax F lab L) (i:Int) (j:Int) tg:=by
 have hn:P.Nodup:=J.1.nodup Dl;have O:∀ y∈L,Df F lab y.1=true->((i:Int),y.1.getD a [])∈P:=fun y t n=>(Ru J C _).2 ((Me ok hT C _).2 ⟨y,t,n,rfl⟩);have key:∀ (G:CF->Option Par->Rat),(∀ H:CF,Xj H->∃ X,∀ p,G H (some p)=X*H.s p)->(∀ H:CF,Uw H->∀ e,G H e=0) ->
  (∀ e,G (Ax F lab L) e=Ap (fun y=>G (cfT F lab y.1) e*(y.2.1:Rat)) L)->∀ b∈P,b.1=(j:Int)->G (Ax F lab L) (some b)=Ct P (i:Int) tg b.2 fun p=>G (Ax F lab L) (some p):=by
  intro G h1 h0 Z b K d;obtain⟨b1,z⟩:=b;obtain rfl:b1=(j:Int):=d;show G _ (some ((j:Int),z))=Ct P (i:Int) tg z _;rw[Z];unfold Ct;rw[Aj (l:=onF P (i:Int)) (g:=fun p:Par=>Ap (fun y:Cr=>(if tg p.2=z then G (cfT F lab y.1) (some p) else 0)*(y.2.1:Rat)) L) fun p _=>by
   by_cases e:tg p.2=z
   ·rw[if_pos e];refine (Z _).trans ?_;exact Aj fun y _=>by rw[if_pos e]
   rw[if_neg e];exact (Bk fun y _=>by rw[if_neg e,A32]).symm,Ld]
  refine Aj fun y t=>?_;rw[Fc]
  congr 1
  cases n:Df F lab y.1 with
  |false =>
   have E:=Zu ok (hT y t).1 n;rw[h0 _ E,Bk fun p _=>by rw[h0 _ E,ite_self]]
  |true =>
   obtain⟨X,Y⟩:=h1 _ (Aot ok (hT y t).1 n);have N:=Akr ok (hT y t).1 n C Q (I y t n) hn (O y t n) X z;rw[Y,<-N];unfold Ct;exact Aj fun p _=>by rw[Y]
 exact {
  ne:=oV
  nd:=hn
  into:=fun p hp U=>by
   obtain⟨p1,V⟩:=p;obtain rfl:p1=(i:Int):=U;obtain⟨y,t,n,e⟩:=(Me ok hT C V).1 ((Ru J C V).1 hp);show ((j:Int),tg V)∈P;rw[<-e,I y t n];exact (Ru J Q _).2 ((Me ok hT Q _).2 ⟨y,t,n,rfl⟩)
  cell:=fun b K d e=>key (fun H f=>Aq H e f) (fun H h=>⟨Abe H.s e,fun p=>h.cell e (some p)⟩) (fun H h f=>h.cell e f) (fun f=>Apx e f) b K d
  right:=fun b K d=>key Av (fun H h=>⟨H.s Eb,fun p=>h.right (some p)⟩) (fun H h f=>h.right f) (fun f=>Ams f) b K d }
end
end
section
variable {b x:List UInt8}{f:Int}{α:Type}
def A2 (P:List Par)(f:Int):List (List UInt8):=(onF P f).map (·.2)
def Fh (C:CF)(P:List Par)(f g:Int)(x:List UInt8):List (List UInt8):=(A2 P g).filter fun b=>!decide (C.t (Aw (f,x) (g,b))=0)
def tgL (C:CF)(P:List Par)(f g:Int)(x:List UInt8):List UInt8:=(Fh C P f g x).headD []
def Fw (F:List Ao)(lab:Int)(L:List Cr)(a a':Nat):Prop:=∀ y∈L,∀ z∈L,Df F lab y.1=true->Df F lab z.1=true->y.1.getD a []=z.1.getD a []->y.1.getD a' []=z.1.getD a' []
def Qv {P:List Par}:x∈A2 P f↔(f,x)∈P:=by
 unfold A2;rw[A0r];constructor
 ·rintro⟨⟨p1,p2⟩,hp,rfl⟩;obtain⟨e,d⟩:=Dj.1 hp;have d:p1=f:=d;subst d;exact e
 exact fun h=>⟨(f,x),Dj.2 ⟨h,rfl⟩,rfl⟩
def Jj {P:List Par}(d:P.Nodup):(A2 P f).Nodup:=by
 unfold A2;refine A8p.2 ?_;refine List.Pairwise.imp_of_mem (fun {p q} hp hq h e=>h ?_) (d.sublist (List.filter_sublist (p:=fun p:Par=>decide (p.1=f))));exact A56 ((Dj.1 hp).2.trans (Dj.1 hq).2.symm) e
def Axv {b:α}:∀ {l:List α},l.Nodup->b∈l->(∀ c∈l,c=b)->l = [b]
 |[c],_,_,h=>by rw[h c (A1g ..)]
 |c::d::l,hn,_,h=>by
  have g:=h c (A1g ..);have n:=h d (A01 _ (A1g ..));exact absurd (g.trans n.symm) (fun e=>(A3a.1 hn).1 (e▸A1g ..))
def Ap1 {b c:α}:∀ {l:List α},l.length=1->b∈l->c∈l->b=c
 |[d],_,hb,hc=>by rw[A07.1 hb,A07.1 hc]
section
variable {u:PH} {T:List (List UInt8×Nat)} {R:List Bw} {F:List Ao} {lab:Int} {L:List Cr} {P:List Par} {i j a m a' m':Nat}
def O1 (ok:B2 u T R F lab)(hT:∀ y∈L,Bp T y.1/\1<=y.2.1)(n:Dk F (Ax F lab L) P)(z:F[i]?=some (a,2,m))(d:F[j]?=some (a',2,m')):b∈Fh (Ax F lab L) P (i:Int) (j:Int) x↔∃ y∈L,Df F lab y.1=true/\y.1.getD a []=x/\y.1.getD a' []=b:=by
 unfold Fh;rw[A3p,Qv,Ru n d,Me ok hT d];have h:=Aua ok hT z d x b;constructor
 ·rintro⟨_,h2⟩;exact h.1 fun e=>by rw[decide_eq_true e]at h2;cases h2
 intro g;refine⟨?_,by rw[decide_eq_false (h.2 g)];rfl⟩;obtain⟨y,C,t,_,e⟩:=g;exact⟨y,C,t,e⟩
def Fz (ok:B2 u T R F lab)(hT:∀ y∈L,Bp T y.1/\1<=y.2.1)(e:Dk F (Ax F lab L) P)(d:F[i]?=some (a,2,m)):x∈A2 P (i:Int)↔∃ y∈L,Df F lab y.1=true/\y.1.getD a []=x:=by
 rw[Qv,Ru e d,Me ok hT d]
theorem U6 (ok:B2 u T R F lab)(hT:∀ y∈L,Bp T y.1/\1<=y.2.1)(hP:Dk F (Ax F lab L) P)(hi:F[i]?=some (a,2,m))(hj:F[j]?=some (a',2,m')):(∀ x∈A2 P (i:Int),(Fh (Ax F lab L) P (i:Int) (j:Int) x).length=1)↔Fw F lab L a a':=by
 have hn:(A2 P (j:Int)).Nodup:=Jj (hP.1.nodup Dl);constructor
 ·intro h y hy z hz h1 h2 e;have hx:=h _ ((Fz ok hT hP hi).2 ⟨y,hy,h1,rfl⟩);exact Ap1 hx ((O1 ok hT hP hi hj).2 ⟨y,hy,h1,rfl,rfl⟩) ((O1 ok hT hP hi hj).2 ⟨z,hz,h2,e.symm,rfl⟩)
 ·intro h x hx;obtain⟨y,hy,h1,e⟩:=(Fz ok hT hP hi).1 hx;rw[Axv (l:=Fh (Ax F lab L) P (i:Int) (j:Int) x) (b:=y.1.getD a' []) (hn.sublist List.filter_sublist) ((O1 ok hT hP hi hj).2 ⟨y,hy,h1,e,rfl⟩) fun c hc=>?_]
  ·rfl
  obtain⟨z,hz,h2,e2,e3⟩:=(O1 ok hT hP hi hj).1 hc;rw[<-e3];exact h z hz y hy h2 h1 (e2.trans e.symm)
def Adx (ok:B2 u T R F lab)(hT:∀ y∈L,Bp T y.1/\1<=y.2.1)(d:Dk F (Ax F lab L) P)(e:F[i]?=some (a,2,m))(t:F[j]?=some (a',2,m'))(h:Fw F lab L a a'):∀ y∈L,Df F lab y.1=true->tgL (Ax F lab L) P (i:Int) (j:Int) (y.1.getD a [])=y.1.getD a' []:=fun y z n=>by
 have C:=(U6 ok hT d e t).2 h _ ((Fz ok hT d e).2 ⟨y,z,n,rfl⟩);have g:=(O1 ok hT d e t).2 ⟨y,z,n,rfl,rfl⟩;unfold tgL;obtain⟨b,E⟩:=List.length_eq_one_iff.1 C;rw[E]at g⊢;exact (A07.1 g).symm
def Ayu (ok:B2 u T R F lab)(hT:∀ y∈L,Bp T y.1/\1<=y.2.1)(e:Dk F (Ax F lab L) P)(d:i≠j)(g:F[i]?=some (a,2,m))(n:F[j]?=some (a',2,m'))(h:Fw F lab L a a'):Dep P (Ax F lab L) (i:Int) (j:Int) (tgL (Ax F lab L) P (i:Int) (j:Int)) :=
 Aya ok hT e d g n (Adx ok hT e g n h)
def Avr (ok:B2 u T R F lab)(hT:∀ y∈L,Bp T y.1/\1<=y.2.1)(d:Dk F (Ax F lab L) P)(t:F[i]?=some (a,2,m))(z:F[j]?=some (a',2,m'))(h:Fw F lab L a a'):b∈A2 P (j:Int)↔∃ x∈A2 P (i:Int),tgL (Ax F lab L) P (i:Int) (j:Int) x=b:=by
 rw[Fz ok hT d z];constructor
 ·rintro⟨y,n,g,e⟩;exact⟨_,(Fz ok hT d t).2 ⟨y,n,g,rfl⟩,(Adx ok hT d t z h y n g).trans e⟩
 rintro⟨x,hx,e⟩;obtain⟨y,n,g,C⟩:=(Fz ok hT d t).1 hx;exact⟨y,n,g,by rw[<-e,<-C,Adx ok hT d t z h y n g]⟩
end
def Pe (C:CF)(P:List Par)(f g:Int)(c:List UInt8):Nat:=((A2 P f).filter fun x=>decide (tgL C P f g x=c)).length
def Xu {C:CF}{P:List Par}{f g:Int}(c:List UInt8):Ct P f (tgL C P f g) c (fun _=>1)=(Pe C P f g c:Rat):=by
 unfold Ct Pe A2;generalize onF P f=l;induction l with
 |nil=>rfl
 |cons p l ih =>
  rw[A1t,A51];show (if tgL C P f g p.2=c then 1 else 0)+_=_;rw[ih];by_cases e:tgL C P f g p.2=c
  ·rw[if_pos e,decide_eq_true e,if_pos rfl,A1y,A4f];show (1:Rat)+_=_+1;exact A39 ..
  rw[if_neg e,decide_eq_false e,if_neg fV,A8c]
end
section
variable {F:List Ao}{R:List Bw}{T:List (List UInt8×Nat)}{lab:Int}{u:PH}
def Axo {ss:List (List UInt8)}(ok:B2 u T R F lab)(e:Bp T ss)(g:-1<=lab)(j:∀ l:Nat,lab=(l:Int)->l<ss.length)(m:Df F lab ss=true)(p:Par):Dn 1 18540 ((cfT F lab ss).s p):=by
 by_cases h:(cfT F lab ss).s p=0
 ·rw[h];exact Dn.zero _ _
 obtain⟨_,a,q,d,_⟩:=Aii h;rw[Ag7 ok.feat e g j m d];exact (show SmW q/\PV p from Ng ok e _ (A0w d)).1.dn
def Ax5 {x:Par->Rat}(h:∀ p,Dn 1 18540 (x p)):∀ e,Dn 1 18540 (Abe x e)
 |none=>(show SmW 1 from⟨jV,jV⟩).dn
 |some p=>h p
structure Ib (N:Nat)(C:CF):Prop where
 c:∀ e f,Dn 2 N (Aq C e f)
 r:∀ e,Dn 2 N (Av C e)
 l:Dn 2 N (C.t (Aw Eb Eb))
theorem Z0 (ok:B2 u T R F lab)(h1:-1<=lab)(h2:∀ l:Nat,lab=(l:Int)->l<T.length):∀ {L:List Cr},(∀ y∈L,Bp T y.1/\y.2.1<=7)->Ib (L.length*2406121200) (Ax F lab L):=by
 intro L;induction L using Je with
 |h0=>exact fun _=>⟨fun e f=>by rw[show Ax F lab []=CF.num 0 from rfl,Awk.cell];exact Dn.zero _ _,fun e=>by cases e<;>exact Dn.zero _ _,Dn.zero _ _⟩
 |h1 L y ih =>
  intro h;have i1:=ih fun z hz=>h z (A3d _ hz);obtain⟨hy,hw⟩:=h y mV;have hlen:=hy.len;have hl:∀ l:Nat,lab=(l:Int)->l<y.1.length:=fun l e=>by have:=h2 l e;omega
  have one:Ib 343731600 (cfT F lab y.1):=by
   rcases Lp ok.feat hy h1 hl with ⟨hc,o⟩|⟨_,o⟩
   ·have hd:=Axo ok hy h1 hl hc;have he:=Ax5 hd;exact⟨fun e f=>by rw[o.cell];exact (he e).mul (he f),fun e=>by rw[o.right];exact (hd Eb).mul (he e),by rw[o.t];exact (hd Eb).mul (hd Eb)⟩
   ·have hn:cfT F lab y.1=cfT F lab y.1:=rfl;refine⟨fun e f=>by rw[o.cell];exact Dn.zero _ _,fun e=>?_,?_⟩
    ·cases e
     ·show Dn 2 343731600 ((cfT F lab y.1).s Eb);rw[o.s];exact Dn.zero _ _
     ·show Dn 2 343731600 ((cfT F lab y.1).t _);rw[o.t];exact Dn.zero _ _
    ·rw[o.t];exact Dn.zero _ _
  have add:∀ {q r:Rat},Dn 2 (L.length*2406121200) q->Dn 2 343731600 r->Dn 2 ((L++[y]).length*2406121200) (q+r*(y.2.1:Rat)):=fun hq hr=>by
   refine (hq.add (hr.mul (Ats hw))).mono ?_;rw[A03,A1m];simp
  rw[F9];exact⟨fun e f=>by rw[Aba];exact add (i1.c e f) (one.c e f),fun e=>by rw[X8];exact add (i1.r e) (one.r e),add i1.l one.l⟩
theorem Ayx (hF:Ej T F lab)(h1:-1<=lab)(h2:∀ l:Nat,lab=(l:Int)->l<T.length)(z:Option Par->Rat)(P:List Par):∀ {L:List Cr},(∀ y∈L,Bp T y.1)->0<=sqC z P (Ax F lab L):=by
 intro L;induction L using Je with
 |h0=>exact fun _=>by show 0<=sqC z P (CF.num 0);rw[Awk.sq z P];exact A7u
 |h1 L y ih =>
  intro h;have i1:=ih fun z hz=>h z (A3d _ hz);have hy:=h y mV;have hlen:=hy.len;rw[F9,At0];rcases Lp hF hy h1 (fun l hl=>by have:=h2 l hl;omega) with ⟨_,o⟩|⟨_,o⟩
  ·rw[o.sq];generalize (cfT F lab y.1).s Eb-Sv z P (cfT F lab y.1).s=v;have hw:(0:Rat)<=(y.2.1:Rat):=by
    have:((0:Nat):Rat)<=(y.2.1:Rat):=A4t.2 (A1c _);exact this
   have hv:0<=v*v:=by
    rcases A7f (a:=0) (b:=v) with h|h
    ·exact A1s h h
    ·have:=A1s (a:=-v) (b:=-v) (by grind) (by grind);grind
   have:=A1s hv hw;grind
  ·rw[o.sq];grind
end
section
variable {α:Type}
def Ahw (l:List α)(d:α):l=(List.range l.length).map fun j=>l.getD j d:=by
 refine List.ext_getElem mV fun j e g=>?_;simp[A0j,A0i e]
def Jm (f:α->Rat)(l:List α)(d:α):Ap f l=Bx l.length fun j=>f (l.getD j d):=by
 unfold Bx;rw[<-Sj (f:=f) (fun j=>l.getD j d),<-Ahw]
def Ju (n:Nat)(f g:Nat->Rat):Bx n (fun i=>f i+g i)=Bx n f+Bx n g:=C0 _
theorem V5 {n i:Nat}(t:Rat)(y:Nat->Rat):Bx n (fun j=>(if i=j/\0<i then t else 0)*y j)=if i<n/\0<i then t*y i else 0:=by
 induction n with
 |zero=>rw[Oz,if_neg oV]
 |succ n ih =>
  rw[Fg,ih];by_cases h0:0<i
  ·by_cases e:i<n
   ·rw[if_pos ⟨e,h0⟩,if_neg oV,if_pos ⟨oV,h0⟩];grind
   by_cases d:i=n
   ·rw[if_neg oV,if_pos ⟨d,h0⟩,if_pos ⟨oV,h0⟩,d];grind
   rw[if_neg oV,if_neg oV,if_neg oV];grind
  rw[if_neg oV,if_neg oV,if_neg oV];grind
section
variable {P:List Par} {C:CF} {b:Option Par->Rat} {k:Rat} {N:Nat}
theorem Aj3 (hc:Ib N C)(hN:N<=14436727200)(hP:P.length<=11)(hk:∃ p:Int,k*30=p/\p.natAbs<=90)(a0:0<k)(X:0<C.c)(Q:∀ z,0<=Cp z P C)(h:Fq P C k b) :
 ∃ D:Nat,0<D/\D<10^157/\∀ e∈Ae P,∃ z:Int,b e*(D:Rat)=z:=by
 obtain⟨p,hp,a2⟩:=hk;have d:=Ba P;obtain⟨E,u⟩:∃ E,E=Ae P:=⟨_,rfl⟩;rw[<-u]at d;have L:∀ i,i<P.length+1->E.getD i none∈Ae P:=fun i m=>by
  rw[<-u,A0j,A0i oV];exact A0y _
 have O:∀ i,i<P.length+1->0<i->∃ q,E.getD i none=some q:=fun i m h0=>by
  obtain⟨j,rfl⟩:∃ j,i=j+1:=⟨i-1,oV⟩;rw[u];unfold Ae;rw[A4p,A0j,A0n,A0i oV];exact⟨_,rfl⟩
 have h0:E.getD 0 none=none:=by rw[u];rfl
 have R:∀ (f:Option Par->Rat),Ap f (Ae P)=Bx (P.length+1) fun j=>f (E.getD j none):=fun f=>by rw[Jm f _ none,<-u,d]
 have K:∀ e f,∃ z:Int,Aq C e f*144=z/\z.natAbs<=N:=fun e f=>by
  obtain⟨z,t,I⟩:=hc.c e f;exact⟨z,by rw[<-t];congr 1,I⟩
 have a1:∀ e,∃ z:Int,Av C e*144=z:=fun e=>by
  obtain⟨z,t,I⟩:=hc.r e;exact⟨z,by rw[<-t];congr 1⟩
 generalize T:(fun e f=>(K e f).choose)=Z;have T:∀ e f,Aq C e f*144=Z e f/\(Z e f).natAbs<=N:=fun e f=>by rw[<-T];exact (K e f).choose_spec
 have hA:∀ i j,((Z (E.getD i none) (E.getD j none)*30+(if i=j/\0<i then p*144 else 0):Int):Rat)=4320*Aq C (E.getD i none) (E.getD j none)+(if i=j/\0<i then 4320*k else 0):=fun i j=>by
  have t:=(T (E.getD i none) (E.getD j none)).1;rw[A44,A1v,<-t];split
  ·rw[A1v,<-hp];simp;grind
  simp;grind
 have H:∀ (y:Option Par->Rat) i,i<P.length+1->Bx (P.length+1) (fun j=>((Z (E.getD i none) (E.getD j none)*30+(if i=j/\0<i then p*144 else 0):Int):Rat)*y (E.getD j none))=4320*(Ap (fun f=>Aq C (E.getD i none) f*y f) (Ae P)+Hk k y (E.getD i none)):=fun y i m=>by
  rw[A3 (g:=fun j=>4320*(Aq C (E.getD i none) (E.getD j none)*y (E.getD j none))+(if i=j/\0<i then 4320*k else 0)*y (E.getD j none)) fun j _=>by rw[hA];grind,Ju,Dt,V5 (4320*k) fun j=>y (E.getD j none),<-R fun f=>Aq C (E.getD i none) f*y f];by_cases J:0<i
  ·obtain⟨q,hq⟩:=O i m J;rw[if_pos ⟨m,J⟩,hq];unfold Hk;grind
  rw[if_neg oV,show i=0 by omega,h0];unfold Hk;grind
 obtain⟨D,V,hD,W⟩:=Aun (n:=P.length+1) (M:=433101828960) (A:=fun i j=>Z (E.getD i none) (E.getD j none)*30+(if i=j/\0<i then p*144 else 0)) (x:=fun j=>b (E.getD j none))
  (fun i j _ _=>by
   have:=(T (E.getD i none) (E.getD j none)).2;split<;>omega)
  (fun i m=>by
   obtain⟨z,hz⟩:=a1 (E.getD i none);exact⟨z*30,by rw[H b i m,h _ (L i m),A1v,<-hz];simp;grind⟩)
  (fun g hg j hj=>Rp (z:=fun e=>g (b e)) a0 X Q (fun e Y=>by
   obtain⟨i,m,rfl⟩:=A2a Y;have F:i<P.length+1:=by rw[<-d,u];exact m
   have t:=hg i F;rw[H (fun e=>g (b e)) i F]at t;have U:E.getD i none=(Ae P)[i]:=by rw[u,A0j,A0i m];rfl
   rw[U]at t;rcases A34.1 t with I|I
   ·exact absurd I jV
   exact I) _ (L j hj))
 refine⟨D,V,A2i hD ?_,fun e Y=>?_⟩
 ·have t:2*((P.length+1)*433101828960)+1<=10394443895041:=oV;refine A2i (A0l (Nat.pow_le_pow_left t _) (A1h (n:=10394443895041) oV (show P.length+1<=12 by omega))) jV
 obtain⟨i,m,rfl⟩:=A2a Y;have F:i<P.length+1:=by rw[<-d,u];exact m
 have U:E.getD i none=(Ae P)[i]:=by rw[u,A0j,A0i m];rfl
 have:=W i F;rwa[U]at this
theorem Aw0 {x:Rat}{m:Rat}(h0:0<=m)(h:x*x<=m*m):-m<=x/\x<=m:=by
 constructor
 ·refine A9u.1 fun d=>?_;have:=Bat (a:=-x-m) (b:=-x+m) (by grind) (by grind);grind
 refine A9u.1 fun d=>?_;have:=Bat (a:=x-m) (b:=x+m) (by grind) (by grind);grind
theorem Air {q:Rat}(h:Dn 2 N q)(n:N<=14436727200):-100255050<=q/\q<=100255050:=by
 obtain⟨z,j,m⟩:=h;have e:((12^2:Nat):Rat)=144:=jV
 rw[e]at j;have d:((z:Int):Rat)<=((14436727200:Int):Rat):=A22.2 oV;have g:(((-14436727200:Int)):Rat)<=(z:Rat):=A22.2 oV;rw[show ((14436727200:Int):Rat)=14436727200 by decide +kernel]at d;rw[show ((-14436727200:Int):Rat) = -14436727200 by decide +kernel]at g;constructor<;>grind
theorem Aj9:∀ {P:List Par} {p:Par},p∈P->b (some p)*b (some p)<=Hm P b
 |q::P,p,hp=>by
  have d:∀ r:Par,0<=b (some r)*b (some r):=fun r=>by
   rcases A7f (a:=0) (b:=b (some r)) with h|h
   ·exact A1s h h
   have:=A1s (a:=-b (some r)) (b:=-b (some r)) (by grind) (by grind);grind
  have e:Hm (q::P) b=b (some q)*b (some q)+Hm P b:=rfl;have g:=Wm P b;have j:=d q;rw[e];rcases A0v.1 hp with rfl|hp
  ·grind
  have:=Aj9 hp;grind
theorem Afh {α:Type}{f:α->Rat}{m:Rat}:∀ {l:List α},(∀ a∈l,-m<=f a/\f a<=m)->-((l.length:Rat)*m)<=Ap f l/\Ap f l<=(l.length:Rat)*m
 |[],_=>by show -(((0:Nat):Rat)*m)<=0/\0<=((0:Nat):Rat)*m;rw[show ((0:Nat):Rat)=0 from rfl];constructor<;>grind
 |a::l,h=>by
  have g:=h a (A1g ..);have j:=Afh fun x d=>h x (A01 _ d);have e:Ap f (a::l)=f a+Ap f l:=rfl;rw[e,A1y,A4f,show ((1:Nat):Rat)=1 from rfl];constructor<;>grind
theorem Alo (R:Ib N C)(Q:N<=14436727200)(hP:P.length<=11)(hk:∃ p:Int,k*30=p/\p.natAbs<=90)(u:0<k)(T:1<=C.c)(H:∀ z,0<=Cp z P C)(a6:0<=sqC b P C)(h:Fq P C k b) :
 ∀ e∈Ae P,-100000000000000<=b e/\b e<=100000000000000:=by
 obtain⟨p,hp,Z⟩:=hk;have U:=h.least (A84 u) H fun _=>0;have e0:sqC (fun _=>0) P C=C.t (Aw Eb Eb):=by
  unfold sqC;rw[Ag3 P C fun _=>rfl,Bk fun e _=>A32 _];grind
 have e1:Hm P (fun _=>0)=0:=Bk fun p _=>A7g _;rw[e0,e1]at U;have a5:=(Air R.l Q).2;have a0:1<=k*30:=by
  rw[hp];have d:((0:Int):Rat)<(p:Rat):=by rw[<-hp];show 0<k*30;exact Bat u jV
  have X:(0:Int)<p:=Rat.intCast_lt_intCast.1 d;exact (A22 (a:=1) (b:=p)).2 oV
 have W:=Wm P b;have hs:Hm P b<=3007651500:=by
  have:=A1s (a:=k*30-1) (b:=Hm P b) (by grind) W;grind
 have j:∀ q∈P,-54843<=b (some q)/\b (some q)<=54843:=fun q I=>by
  have d:=Aj9 (b:=b) I;have e:(54843:Rat)*54843=3007754649:=jV;exact Aw0 jV (by grind)
 have Y:b none*C.c=C.s Eb-Ap (fun q=>C.s q*b (some q)) P:=by
  have d:=h none (by unfold Ae;simp);rw[Gm]at d;have K:Aq C none none=C.c:=rfl;have O:Av C none=C.s Eb:=rfl;have c3:Ap (fun q=>Aq C none (some q)*b (some q)) P=Ap (fun q=>C.s q*b (some q)) P:=rfl;rw[K,O,c3]at d;unfold Hk at d;grind
 have g:=Afh (f:=fun q=>C.s q*b (some q)) (m:=5498287707150) (l:=P) fun q I=>by
  have d:=Air (R.c none (some q)) Q;have K:Aq C none (some q)=C.s q:=rfl;rw[K]at d;have X:=j q I;generalize C.s q=s at d;generalize b (some q)=t at X;have a1:=A1s (a:=100255050-s) (b:=54843+t) (by grind) (by grind);have a2:=A1s (a:=100255050+s) (b:=54843-t) (by grind) (by grind);have a3:=A1s (a:=100255050-s) (b:=54843-t) (by grind) (by grind);have a4:=A1s (a:=100255050+s) (b:=54843+t) (by grind) (by grind);constructor<;>grind
 have F:((P.length:Nat):Rat)<=11:=(A4t (a:=P.length) (b:=11)).2 hP;have E:=Air (R.r none) Q;have O:Av C none=C.s Eb:=rfl;rw[O]at E;have V:-100000000000000<=b none/\b none<=100000000000000:=by
  generalize Ap (fun q=>C.s q*b (some q)) P=S at Y g;generalize ((P.length:Nat):Rat)=L at F g;have n:-100000000000000<=b none*C.c/\b none*C.c<=100000000000000:=by rw[Y];constructor<;>grind
  generalize b none=x at n;generalize C.c=c at n T;constructor
  ·refine A9u.1 fun U=>?_;have:=A1s (a:=-x) (b:=c-1) (by grind) (by grind);grind
  refine A9u.1 fun U=>?_;have:=A1s (a:=x) (b:=c-1) (by grind) (by grind);grind
 intro e J;unfold Ae at J;rcases A0v.1 J with rfl|J
 ·exact V
 obtain⟨q,I,rfl⟩:=A0r.1 J;have:=j q I;constructor<;>grind
end
end
section
variable {q r:Rat}
def IsZ (q:Rat):Prop:=∃ z:Int,q=z
def IsZ.add :IsZ q->IsZ r->IsZ (q+r):=fun⟨a,e⟩ ⟨b,f⟩=>⟨a+b,by rw[e,f,A44]⟩
def IsZ.mul :IsZ q->IsZ r->IsZ (q*r):=fun⟨a,e⟩ ⟨b,f⟩=>⟨a*b,by rw[e,f,A1v]⟩
def IsZ.nat (n:Nat):IsZ (n:Rat):=⟨n,(A1f n).symm⟩
def IsZ.sum {α:Type}{f:α->Rat}:∀ {l:List α},(∀ a∈l,IsZ (f a))->IsZ (Ap f l)
 |[],_=>⟨0,rfl⟩
 |a::l,h=>(h a (A1g ..)).add (IsZ.sum fun x d=>h x (A01 _ d))
def Aht {m a b:Nat}(h:m<10^a):m*10^b<10^(a+b):=by
 rw[A4k];exact A6p h (A60 oV)
theorem Avz {D m a b:Nat}(h0:0<D)(h:D<10^b)(n:IsZ (q*(D:Rat)))(E:-(m:Rat)<=q/\q<=m)(u:m*10^b<10^a):De a b q:=by
 obtain⟨z,e⟩:=n;refine⟨z,D,e,h0,?_,h⟩;have j:(0:Rat)<=(D:Rat):=(A4t (a:=0) (b:=D)).2 (A1c _);have d:(z:Rat)<=(((m*D:Nat):Int):Rat):=by
  rw[A1f,A4e,<-e];have:=A1s (a:=(m:Rat)-q) (b:=(D:Rat)) (by grind) j;grind
 have g:((-((m*D:Nat):Int):Int):Rat)<=(z:Rat):=by
  rw[A6e,A1f,A4e,<-e];have:=A1s (a:=q+(m:Rat)) (b:=(D:Rat)) (by grind) j;grind
 have d:=A22.1 d;have g:=A22.1 g;have t:m*D<=m*10^b:=A19 _ (A67 h);omega
def Arv {D m b:Nat}(c:Nat)(h0:0<D)(d:D<10^b)(h:IsZ (q*(D:Rat)))(g:-(m:Rat)<=q/\q<=m)(e:m<10^c):De (c+b) b q:=Avz h0 d h g (Aht e)
section
variable {P:List Par} {C:CF} {b:Option Par->Rat} {k:Rat} {N D:Nat}
def Ar3 (d:0<D)(h:D<10^157)(n:∀ e∈Ae P,∃ z:Int,b e*(D:Rat)=z)(j:∀ e∈Ae P,-100000000000000<=b e/\b e<=100000000000000):∀ e∈Ae P,De 172 157 (b e):=fun e g =>
 Avz (m:=100000000000000) d h (n e g) (j e g) jV
end
end
section
variable {k:Nat}{s:Src}{ts:List Int}{u:PH}{v:Value}
def Yh {L:List (List UInt8)}(h:Po u s ts)(H:k<=s.n)(m:Ab u v 1 (L.map nmV))(C:0<L.length)(E:L.length<=1000000) :
 Ah prog 32 [s.ptr,v] u (s.M k) fun v _ J=>∃ t∈L,∃ g:Nat,v=.string (mkS t)/\g<=s.n/\J=s.M g:=by
 obtain⟨a,c,rfl⟩:=m.opn;rw[A0k]at m⊢;refine Ah.o func32<|G.A call31 (Ud h H C E) ?_;rintro O N K I ⟨r,g,rfl,F,z,rfl⟩ _;rw[Cm];obtain⟨b,d,rfl,e⟩:=Ab.at' (m.mono I) (j:=r) (e:=.string (mkS L[r])) (by simp[nmV,A0i F]);exact G.a b d L.length c r 1 F<|G.lU none b (d+r*1) (.string (mkS L[r])) e<|G.r _ ⟨L[r],A0y F,g,rfl,z,rfl⟩
structure Gw (q:Rat):Prop where
 pos:0<q
 thirty:∃ p:Int,q*30=p/\p.natAbs<=90
 tx:Tx q
def Avt:∀ t∈[[49],[49,47,50],[51],[49,47,49,48],[55,47,51]],∃ q:Rat,t=Ag q/\Gw q:=by
 intro t d;simp only[A0v,A1q,or_false]at d;rcases d with rfl|rfl|rfl|rfl|rfl
 ·exact⟨1,jV,jV,⟨30,jV,fV⟩,jV,jV⟩
 ·exact⟨1/2,jV,jV,⟨15,jV,fV⟩,jV,jV⟩
 ·exact⟨3,jV,jV,⟨90,jV,fV⟩,jV,jV⟩
 ·exact⟨1/10,jV,jV,⟨3,jV,fV⟩,jV,jV⟩
 exact⟨7/3,jV,jV,⟨70,jV,fV⟩,jV,jV⟩
def Aef (h:Po u s ts)(m:k<=s.n) :
 Ah prog 13 [s.ptr] u (s.M k) fun v _ F=>∃ (q:Rat) (d:Nat),v=.string (mkS (Ag q))/\Gw q/\d<=s.n/\F=s.M d:=by
 refine Ah.o func13<|G.B 9 1 16 (.string (mkS [])) ([[49],[49,47,50],[51],[49,47,49,48],[55,47,51]].map nmV) (D8 _) ?_;intro g I E j;refine G.A call32 (Yh (L:=[[49],[49,47,50],[51],[49,47,49,48],[55,47,51]]) (h.mono E) m j.listP mV mV) ?_;rintro K J H l2 ⟨t,C,d,rfl,e,rfl⟩ _;rw[Cm];obtain⟨q,rfl,z⟩:=Avt t C;exact G.r (.string (mkS (Ag q))) ⟨q,d,rfl,z,e,rfl⟩
def Adl {v j:Value}{T:List (List UInt8×Nat)}{R:List Bw}{F:List Ao}{lab:Int}{C:CF}{K k:Nat}{P:List Par}{q:Rat}(h:Y3 u v j T R F lab C K k P)(g:Gw q) :
 Fn0 prog 83 [j,.string (mkS (Ag q))] u fun r _=>r=.int .i64 (if k=0 then 12 else 0):=by
 have d:=h.mom;obtain⟨m,I,t,n,J,z,rfl⟩:=id h.cof.opn;refine Fn0.o func83<|G.c call86 (D9 g.tx) ?_;rintro Q L E rfl;refine G.c call167 (Afi g.tx) ?_;rintro U N l2 rfl;refine G.kF' (sgn q.num) 0 (by rw[Acd,Acx g.pos];omega)<|G.c call167 (Afi d.tx) ?_;rintro V O H rfl;by_cases h0:k=0
 ·have e:C.c=0:=by rw[d.c,h0];rfl
  exact G.kT' (sgn C.c.num) 0 (by rw[e];decide)<|G.r (.int .i64 12) ⟨rfl,by rw[if_pos h0]⟩
 exact G.kF' (sgn C.c.num) 0 (by rw[Acd,Acx (d.cpos h0)];omega)<|G.r (.int .i64 0) ⟨rfl,by rw[if_neg h0]⟩
end
end Go.Proofs.YtdgncafgglafjaaGreatDoor
