/- Parts of one proof, joined by a program. -/
import Derived.Test.YtemmheaocgmebaaGreatDoorS12
set_option linter.defProp false
set_option linter.unusedVariables false
set_option linter.unusedSimpArgs false
set_option linter.unusedSectionVars false
set_option maxHeartbeats 16000000
namespace Go.Proofs.YtemmheaocgmebaaGreatDoor
open Go.Proofs.Tryz
open Go.RowKit Go.MapKept
def A7f:=@Rat.intCast_inj
section
variable [Cl] [Co]
section
variable {P:Program} [A6 P] {id:Nat} {ops:Array Oper} {Fin:S->PH->PH->Prop} {a d:Nat} {kk:List KI} {s:S} {u m:PH}
def Ob.loadO (L:Option Nat)(b off:Nat)(e:Value)(h:Aj P (.reg id ops true [a]::kk,s)=.load (some L) (.pointer (some ⟨b,off,none⟩)))(K:(ops[a]?).bind (·.dst)=some d)(hs:Wg L e=true)(Y:ElP m b off e)(k:Fin (s.put (some d) (.v e)) u m):Ob P id ops true Fin [a] s u m:=by
 obtain⟨a1,Q,T,i',l',a2,a4,o,C,F,Z,I,hv,J,j,a0⟩:=Eq h mV;simp only[A2i,A3g,KI.reg.injEq]at C;obtain⟨⟨⟨rfl,rfl,rfl,rfl,rfl⟩,rfl⟩,rfl⟩:=C;have E:o.dst=some d:=by rw[F]at K;simpa using K
 refine Ob.ask (v:=e) F Z I hv J (Aby j mV) (fun w hp=>?_) ?_
 ·obtain⟨t,X,C,V,W⟩:=Ui j;obtain⟨U,a3,R,pos,after,H⟩:=o;simp only at C;subst C;simp[execOp,Instr.loadAt,Instr.sureAddr,V,Kj W hs Y ((hp (.inl rfl)).2 (.inl rfl))]
 rw[E];exact .nil k
def Ob.storeO (sz b off:Nat)(t:TypeId)(cs:zV)(e:Value)(h:Aj P (.reg id ops true [a]::kk,s)=.store (some sz) (.pointer (some ⟨b,off,none⟩)) e)(hd:(ops[a]?).bind (·.dst)=none)(hw:L6 ops a ((ops[a]?.getD default).op)=true)(hb:m b=some (.cells cs.toArray t (0,0)))(ho:∀ x∈cs,Ax x=true)(hl:off+sz<=cs.length)(Z:e.cells.size=sz)(V:e.cells.toList.all Ax=true)
 (k:Fin s u (m.upd b (.cells (cs.take off++e.cells.toList++cs.drop (off+sz)).toArray t (0,0)))):Ob P id ops true Fin [a] s u m:=by
 obtain⟨a8,a4,a5,i',l',a9,ab,o,J,H,hg,W,hv,a2,j,a7⟩:=Eq h mV;simp only[A2i,A3g,KI.reg.injEq]at J;obtain⟨⟨⟨rfl,rfl,rfl,rfl,rfl⟩,rfl⟩,rfl⟩:=J;have L:o.dst=none:=by rw[H]at hd;simpa using hd
 have a3:(ops[a]?.getD default).op=o.op:=by rw[H];rfl
 rw[a3]at hw;refine Ob.big (K:=fun v' u' m'=>u'=u/\m'=m.upd b (.cells (cs.take off++e.cells.toList++cs.drop (off+sz)).toArray t (0,0))) H hg W hv a2 (by
  obtain⟨t',X,Y,U,_⟩:=Fq j;rw[U];rfl) (fun v u' m' hK=>.inr (.inr (.inl hw))) (fun w Q=>?_) (fun v u' m' a6 hK=>?_)
 ·obtain⟨t',X,Y,J,U,e3,ht⟩:=Fq j;obtain⟨T,aa,R,pos,after,E⟩:=o;simp only at J;subst J;rw[A1o]at V;have a1:=Q.pm b _ hb;have I:=run_storeCells_at P b off t e.cells.toList 0 cs.toArray w a1 (by simp[Z];omega) (fun x C=>Gl (V x C));simp only[A3s,A3o,Z,A3t]at I;have F:∀ x∈(cs.take off++e.cells.toList++cs.drop (off+sz)).toArray.toList,Ax x=true:=by
   intro x C;simp only[A3t,A1h]at C;rcases C with (C|C)|C
   ·exact ho x (A27 C)
   ·exact V x C
   exact ho x (A3x C)
  obtain⟨g1,g2⟩:=Q.setM hb F;unfold Eg;have a0:(execOp (C2 s) ⟨T,.store t' X Y,R,pos,after,E⟩).run P w=.ok .skip (w.setRow b (cs.take off++e.cells.toList++cs.drop (off+sz)).toArray):=by
   simp only[execOp,U,e3];simp only[A2k]at I⊢;simp[Instr.storeAt,Instr.sureAddr,storeVar,Bf ht,Z,I]
  rw[a0];exact⟨u,_,g1,g2,rfl,rfl⟩
 obtain⟨rfl,rfl⟩:=hK;rw[L];exact .nil k
end
def Axk {m:PH}{g:Nat}{o:Obj}(h:m g=some o):m.upd g o=m:=by
 funext k
 by_cases e:k=g
 ·subst e;rw[Ab,h]
 rw[Ad _ _ e]
def Ap9 (st:List KI×S)(d0 d1:Nat):Bool:=match st with
 |(.code (.region _ ops true)::_,s)=>Alo ops s [] [0,1,2,3] []&&bef ops ops.size 2 0&&bef ops ops.size 3 0&&bef ops ops.size 3 1&&bef ops ops.size 3 2&&decide ((ops[0]?).bind (·.dst)=some d0/\(ops[1]?).bind (·.dst)=some d1/\(ops[2]?).bind (·.dst)=none/\(ops[3]?).bind (·.dst)=none)&&decide (d0≠d1) &&
  L6 ops 2 ((ops[2]?.getD default).op)&&L6 ops 3 ((ops[3]?.getD default).op)
 |_=>false
def atS (l:zK)(st:List KI×S)(f:S->S):List KI×S:=match st with
 |(.code (.region id ops true)::k,s)=>(.reg id ops true l::k,f s)
 |_=>st
section rules
variable {P:Program} [A6 P] {fn:Func} {Post:Ce} {st:List KI×S} {u m:PH}
def G.back2 (d0 H:Nat)(k0 k1:Option Nat)(Q J:Nat)(t0 t1:TypeId)(C F:Value)(n0 n1:Nat)(h:Ap9 (adv P st) d0 H=true)
 (H0:∀ x,Aj P (atS [0] (adv P st) (fun s=>s.put (some H) x))=.load (some k0) (.pointer (zA Q))) (H1:∀ x,Aj P (atS [1] (adv P st) (fun s=>s.put (some d0) x))=.load (some k1) (.pointer (zA J)))
 (H2:∀ x,Aj P (atS [2] (adv P st) (fun s=>(s.put (some d0) (.v C)).put (some H) x))=.store (some n0) (.pointer (zA Q)) C) (H3:Aj P (atS [3] (adv P st) (fun s=>(s.put (some d0) (.v C)).put (some H) (.v F)))=.store (some n1) (.pointer (zA J)) F)
 (a7:Wg k0 C=true) (Z:Wg k1 F=true) (T:m Q=some (.cells C.cells t0 (0,0))) (L:m J=some (.cells F.cells t1 (0,0))) (a4:C.cells.size=n0) (a5:F.cells.size=n1) (a2:C.cells.toList.all Ax=true) (a3:F.cells.toList.all Ax=true)
 (k:G P fn Post (atS [] (adv P st) (fun s=>(s.put (some d0) (.v C)).put (some H) (.v F))) u m):G P fn Post st u m:=by
 refine G.stp ⟨?_⟩;generalize adv P st=st' at h H0 H1 H2 H3 k;unfold Ap9 at h;split at h
 ·rename_i id ops kk s;simp only[A1m]at h;obtain⟨⟨⟨⟨⟨⟨⟨⟨h1,a0⟩,ad⟩,a9⟩,R⟩,hd⟩,Y⟩,w2⟩,w3⟩:=h;obtain⟨a1,X,aa,ab⟩:=of_decide_eq_true hd;have Y:=of_decide_eq_true Y;simp only[atS]at H0 H1 H2 H3 k;have K:∀ (b:Nat) (t:TypeId) (e:Value),m b=some (.cells e.cells t (0,0))->ElP m b 0 e:=fun b t e hb i x hi=>⟨_,_,_,hb,by simpa using hi⟩;have V:∀ e:Value,e.cells.toList.all Ax=true->∀ x∈e.cells.toList,Ax x=true:=fun e h=>by rwa[A1o]at h
  have W:∀ (b:Nat) (t:TypeId) (e:Value) (n:Nat),e.cells.size=n->m b=some (.cells e.cells t (0,0))->m.upd b (.cells (e.cells.toList.take 0++e.cells.toList++e.cells.toList.drop (0+n)).toArray t (0,0))=m:=fun b t e n hn hb=>by
   rw[A2b (by rw[A3o,hn];omega)];simp only[A53,A3q,A1x,A5x];exact Axk hb
  have U:∀ s:S,s=s.put (some H) (s.tm H):=fun s=>S.ext' rfl (funext fun t=>by
   by_cases e:t=H
   ·subst e;rw[Az]
   rw[Ct _ _ _ e]) rfl
  have a8:∀ s:S,s=s.put (some d0) (s.tm d0):=fun s=>S.ext' rfl (funext fun t=>by
   by_cases e:t=d0
   ·subst e;rw[Az]
   rw[Ct _ _ _ e]) rfl
  have pc:∀ (s:S) (x y:SV),(s.put (some H) y).put (some d0) x=(s.put (some d0) x).put (some H) y:=fun s x y=>Afo s y x (fun j hj=>by cases hj;intro e;cases e;exact Y rfl);have pp:∀ (s:S) (x y:SV),(s.put (some H) x).put (some H) y=s.put (some H) y:=fun s x y=>S.ext' rfl (funext fun t=>by
   by_cases e:t=H
   ·subst e;rw[Az,Az]
   rw[Ct _ _ _ e,Ct _ _ _ e,Ct _ _ _ e]) rfl
  have ae:∀ (s:S) (x y:SV),(s.put (some d0) x).put (some d0) y=s.put (some d0) y:=fun s x y=>S.ext' rfl (funext fun t=>by
   by_cases e:t=d0
   ·subst e;rw[Az,Az]
   rw[Ct _ _ _ e,Ct _ _ _ e,Ct _ _ _ e]) rfl
  have s2:∀ {Fin:S->PH->PH->Prop} (x:SV),Fin ((s.put (some d0) (.v C)).put (some H) x) u m->Ob P id ops true Fin [2] ((s.put (some d0) (.v C)).put (some H) x) u m:=fun {Fin} x hk =>
   Ob.storeO n0 Q 0 t0 C.cells.toList C (H2 x) aa w2 (by simpa using T) (V C a2) (by rw[A3o];omega) a4 a2 (by rw[W Q t0 C n0 a4 T];exact hk)
  have n3:Qh P id ops [] (Hm P fn Post kk) 1 [3] ((s.put (some d0) (.v C)).put (some H) (.v F)) u m:=fun a I _=>by
   simp only[A1g,A11,or_false]at I;subst I;rw[A3a];refine Ob.storeO n1 J 0 t1 F.cells.toList F H3 ab w3 (by simpa using L) (V F a3) (by rw[A3o];omega) a5 a3 ?_;rw[W J t1 F n1 a5 L];exact k.out
  have a6:Qh P id ops [] (Hm P fn Post kk) 2 [2,3] ((s.put (some d0) (.v C)).put (some H) (.v F)) u m:=fun a I E=>by
   simp only[A1g,A11,or_false]at I;rcases I with rfl|rfl
   ·rw[A3a];exact s2 _ n3
   have:=E 2 mV fV;rw[R]at this;cases this
  have ac:Qh P id ops [] (Hm P fn Post kk) 2 [1,3] (s.put (some d0) (.v C)) u m:=fun a I E=>by
   simp only[A1g,A11,or_false]at I;rcases I with rfl|rfl
   ·rw[A3a];exact Ob.loadO k1 J 0 F (H1 _) X Z (K J t1 F L) n3
   have:=E 1 mV fV;rw[a9]at this;cases this
  refine Sym.reg_tree A6.mx h1 (.nil ?_);show Qh P id ops [] (Hm P fn Post kk) 4 [0,1,2,3] s u m;intro a I E;simp only[A1g,A11,or_false]at I;rcases I with rfl|rfl|rfl|rfl
  ·rw[show [0,1,2,3].erase 0 = [1,2,3] from rfl,U s];refine Ob.loadO k0 Q 0 C (H0 _) a1 a7 (K Q t0 C T) ?_;rw[<-U s];intro a I E;simp only[A1g,A11,or_false]at I;rcases I with rfl|rfl|rfl
   ·rw[show [1,2,3].erase 1 = [2,3] from rfl];exact Ob.loadO k1 J 0 F (H1 _) X Z (K J t1 F L) a6
   ·rw[show [1,2,3].erase 2 = [1,3] from rfl,U (s.put (some d0) (.v C))];refine s2 _ ?_;rw[<-U (s.put (some d0) (.v C))];exact ac
   have:=E 2 mV fV;rw[R]at this;cases this
  ·rw[show [0,1,2,3].erase 1 = [0,2,3] from rfl,a8 s];refine Ob.loadO k1 J 0 F (H1 _) X Z (K J t1 F L) ?_;rw[<-a8 s];intro a I E;simp only[A1g,A11,or_false]at I;rcases I with rfl|rfl|rfl
   ·rw[show [0,2,3].erase 0 = [2,3] from rfl];refine Ob.loadO k0 Q 0 C (H0 _) a1 a7 (K Q t0 C T) ?_;rw[pc];exact a6
   ·have:=E 0 mV fV;rw[a0]at this;cases this
   have:=E 2 mV fV;rw[R]at this;cases this
  ·have:=E 0 mV fV;rw[a0]at this;cases this
  have:=E 2 mV fV;rw[R]at this;cases this
 cases h
end rules
end
section
variable {es:zV}{g i:Nat}{l:List Arr}{t:TypeId}
def Kq (g:Nat)(t:TypeId)(es:zV):Arr:=⟨zG g es.length es.length,t,1,es⟩
def U6 (es:zV):Prop:=∀ x∈es,Ax x=true/\x.cells = #[x]
def R1 {m:PH}(j:m g=none)(e:U6 es):(Kq g t es).At m (m.upd g (.cells es.toArray t (0,0))):=by
 refine⟨Ap1 e,.inr ⟨g,es.length,[],j,?_,rfl,A08 _,?_,mV⟩⟩
 ·show _=m.upd g (.cells (A2 es++[]).toArray t (0,0));rw[Lz fun x h=>(e x h).2,A1x]
 show (A2 es++[]).length=es.length*1;rw[Lz fun x h=>(e x h).2,A1x,A50]
def Alg {m0 m:PH}(h:(Kq g t es).At m0 m)(I:U6 es)(U:es≠[]):m0 g=none/\m=m0.upd g (.cells es.toArray t (0,0)):=by
 rcases h.2 with ⟨h,_,_⟩|⟨Q,cap,rest,E,e,H,L,j,_⟩
 ·cases h
 obtain⟨⟨rfl,_,_⟩,_,rfl⟩:=H;simp only[Kq]at e j;rw[Lz fun x J=>(I x J).2]at e j;have:rest = []:=by simp_all
 subst this;rw[A1x]at e;exact⟨E,e⟩
def M6 {m:PH}(h:Bag m l)(hi:l[i]?=some (Kq g t es))(E:U6 es)(j:es≠[]):m g=some (.cells es.toArray t (0,0)):=by
 obtain⟨m0,e,_⟩:=h.focus i hi;rw[(Alg e E j).2,Ab]
def Cg {m:PH}{i g j:Nat}{x:Value}(h:Bag m l)(hi:l[i]?=some (Kq g t es))(e:es[j]?=some x):ElP m g (0+j*1) x:=h.el i hi rfl e
def Adr {m:PH}(h:Bag m l)(hi:l[i]?=some (Kq g t es))(H:U6 es)(E:es≠[]):ElP m g 0 (.agg es.toArray):=fun j x e=>by
 refine⟨_,_,_,M6 h hi H E,?_⟩;simpa[Value.cells] using e
section
variable [Cl] [Co] {P:Program} [A6 P] {fn:Func} {Post:Ce} {st:List KI×S} {u m:PH}
def G.storeOne {l:List Arr}(i g:Nat)(t:TypeId)(n:Nat)(es:zV)(e:Value)(h:Aj P (adv P st)=.store (some n) (.pointer (zA g)) e)(W:Bag m l)(hi:l[i]?=some (Kq g t es))(J:U6 es)(Y:es≠[])(Z:es.length=n)(X:e.cells.size=n)(I:U6 e.cells.toList)
 (k:∀ L,Bag L (l.set i (Kq g t e.cells.toList))->G P fn Post (nx (adv P st) undef) u L):G P fn Post st u m:=by
 obtain⟨m0,V,j⟩:=W.focus i hi;obtain⟨Q,H⟩:=Alg V J Y;refine G.storeM n g 0 t es e h (by rw[H,Ab]) (fun x E=>(J x E).1) oV X (A1o.2 fun x E=>(I x E).1) ?_;have U:m.upd g (.cells (es.take 0++e.cells.toList++es.drop (0+n)).toArray t (0,0))=m0.upd g (.cells e.cells.toList.toArray t (0,0)):=by
  rw[H,Dp,A2b oV];simp
 rw[U];exact k _ (j _ _ (R1 Q I))
end
def Ap5:Value:=.agg #[zN,zN,zN]
def Axe (F:List Al)(C:CF)(k:Nat)(q:Rat)(r:Value)(u m:PH):Prop :=
 (∃ e:Int,r=.tuple #[Ap5,zI e]/\(e=12/\k=0\/e=3/\k≠0/\∃ P,Nn F C P/\11<P.length)) \/
 (k≠0/\∃ (P:List Par) (pa:zP) (pc:Nat) (xa:zP) (xc:Nat) (ra:zP) (rc:Nat) (rows:List (Value×zV)),Nn F C P/\P.length<=11 /\
  r=.tuple #[.agg #[.slice pa P.length pc,.slice xa (P.length+1) xc,.slice ra (P.length+1) rc],zO]/\Ac u (.slice pa P.length pc) 2 (P.map Ap)/\rows.map (·.2)=(D0 q (Lh C P) (P.length+1)).map txV /\
  Bag m (Bu (.slice ra (P.length+1) rc,txV ((An P).map (Bh C)))::oT (.slice xa (P.length+1) xc) rows::rows.map Bu))
def Ia {a b c:zP}{n1 c1 n2 c2 n3 c3:Nat}:U6 [.slice a n1 c1,.slice b n2 c2,.slice c n3 c3]:=fun x e=>by
 simp only[A1g,A11,or_false]at e;rcases e with rfl|rfl|rfl<;>exact⟨rfl,rfl⟩
def Gf {z:Int}:U6 [zI z]:=fun x e=>by
 simp only[A1g,A11,or_false]at e;subst e;exact⟨rfl,rfl⟩
def Aj8 {m:PH}{h j:Nat}{e:Int}(E:j≠h)(H:e≠0)(I:m j=some (.cells #[zI e] 39 (0,0))):ElP (K9 m h e) h 0 Ap5/\ElP (K9 m h e) j 0 (zI e):=by
 unfold K9;rw[if_neg H];refine⟨fun i x hi=>⟨_,_,_,Ab _ _ _,by simpa[Ap5,Value.cells] using hi⟩,fun i x hi=>⟨#[zI e],_,_,by rw[Ad _ _ E,I],by simpa[Value.cells] using hi⟩⟩
section
variable {u:PH} {v cv:Value} {T:zC} {R:List Br} {F:List Al} {lab:Int} {C:CF} {K k:Nat} {q:Rat}
def Aam.cellDe (h:Aam u v cv T R F lab C K k)(e f:Option Par):De 75 18 (As C e f):=by
 cases e<;>cases f
 ·show De 75 18 C.c;rw[h.mom.c];exact (De.nat (a:=2) (by have:=h.mom.lt;omega)).mono oV oV
 ·exact h.mom.s _
 ·exact h.mom.s _
 exact h.mom.t _
theorem Ahm (ht:Hx u)(h:Aam u v cv T R F lab C K k)(hq:Ay8 q) :
 Ag prog 52 [v,cv,zS (Ae q)] u PH.mt fun r u' m'=>Axe F C k q r u' m':=by
 have ay:=An9 h hq;have az:=h.cellDe;obtain⟨xa,xc,xb,xd,xe,xf,rfl,_⟩:=id h.sch;obtain⟨a1,n1,c1,a2,n2,c2,rfl⟩:=id h.cof.opn;have aq:=h.p24;refine Ag.o func52<|G.go 7<|G.pub 2 57 [zN,zN,zN] kV kV ?_;intro I b8 b0;refine G.pub 3 39 [zO] kV kV ?_;intro U b5 a4;have ah:Bag ((PH.mt.upd I (.cells #[zN,zN,zN] 57 (0,0))).upd U (.cells #[zO] 39 (0,0))) [Kq U 39 [zO],Kq I 57 [zN,zN,zN]] :=
  ⟨_,R1 a4 Gf,PH.mt,R1 b0 Ia,trivial⟩
 have al:U≠I:=fun e=>by rw[e,Ab]at a4;cases a4
 refine G.go 1<|G.off (d:=9) (fn:=.func 115) (vs:=[.pointer (zA U),.pointer (zA I)]) kV kV kV ?_;obtain⟨B,hB⟩:∃ B:Co,B=⟨[Zs (.func 115) [.pointer (zA U),.pointer (zA I)]]⟩:=⟨_,rfl⟩;rw[<-hB];have ac:B.dl = [Zs (.func 115) [.pointer (zA U),.pointer (zA I)]]:=by subst hB;rfl
 clear hB;have a5:∀ w,(invoke (Zs (.func 115) [.pointer (zA U),.pointer (zA I)]).target (Zs (.func 115) [.pointer (zA U),.pointer (zA I)]).args).run prog w=.ok (.enter 115 [Value.pointer (zA U),.pointer (zA I)].toArray) w:=fun w=>by
  simp[invoke,Zs]
 refine G.callO _ _ kV call116 ay ?_;rintro v1 u1 mc l1 ⟨P,pa,pc,Z,V,ra,rc,H,a8,rfl,hL,E,L⟩ a7;have b4:=aq P a8;have aa:=Bag.perm (A5r) (Bag.or ah L a7);rw[A4x,A4x,A3q]at aa;clear ah L a7;refine G.storeOne 1 I 57 3 [zN,zN,zN] (.agg #[.slice pa P.length pc,.slice Z (P.length+1) V,.slice ra (P.length+1) rc]) kV aa rfl Ia mV rfl rfl Ia ?_;intro m3 ai;refine G.storeOne 0 U 39 1 [zO] (zI (if k=0 then 12 else 0)) kV ai rfl Gf mV rfl rfl Gf ?_;intro m4 Q;clear aa ai;simp only[A2j,A2p,Value.cells]at Q;refine G.loadM none U 0 (zI (if k=0 then 12 else 0)) kV rfl (Cg (j:=0) Q (i:=0) rfl rfl) ?_;by_cases h0:k=0
 ·rw[if_pos h0]at Q⊢;refine G.nT 12 0 ?_;have a0:=M6 Q (i:=1) rfl Ia mV;have Y:=M6 Q (i:=0) rfl Gf mV;refine G.back2 19 20 (some 3) none I U 57 39 (.agg #[.slice pa P.length pc,.slice Z (P.length+1) V,.slice ra (P.length+1) rc]) (zI 12) 3 1 kV (fun _=>kV) (fun _=>kV) (fun _=>kV) kV rfl rfl a0 Y rfl rfl rfl rfl<|G.retD ac (K:=fun u' m'=>u'=u1/\m'=K9 m4 I 12) rfl a5 kV (Aja Y a0 rfl rfl rfl) ?_;rintro u' m' _ ⟨rfl,rfl⟩;obtain⟨q1,q2⟩:=Aj8 (e:=12) al fV Y;exact⟨[Ap5,zI 12],PH.mt,⟨.inr ⟨6,57,I,0,some 3,rfl,kV,kV,rfl,q1⟩,.inr ⟨7,39,U,0,none,rfl,kV,kV,rfl,q2⟩,trivial⟩,PH.mt_le _,.inl ⟨12,rfl,.inl ⟨rfl,h0⟩⟩⟩
 rw[if_neg h0]at Q⊢;refine G.nF 0 0<|G.f 57 I 0 1 1<|G.loadM none I (0+1) (.slice Z (P.length+1) V) kV rfl (Cg (j:=1) Q (i:=1) rfl rfl) ?_;by_cases b6:P.length+1>12
 ·refine G.gT (P.length+1:Nat) 12<|G.loadM (some 3) I 0 (.agg #[.slice pa P.length pc,.slice Z (P.length+1) V,.slice ra (P.length+1) rc]) kV rfl (Adr Q (i:=1) rfl Ia mV)<|G.storeOne 1 I 57 3 _ (.agg #[.slice pa P.length pc,.slice Z (P.length+1) V,.slice ra (P.length+1) rc]) kV Q rfl Ia mV rfl rfl Ia ?_;intro m5 ax;refine G.storeOne 0 U 39 1 [zO] (zI 3) kV ax rfl Gf mV rfl rfl Gf ?_;intro m6 a3;simp only[A2j,A2p,Value.cells]at a3;have a0:=M6 a3 (i:=1) rfl Ia mV;have Y:=M6 a3 (i:=0) rfl Gf mV;refine G.retD ac (K:=fun u' m'=>u'=u1/\m'=K9 m6 I 3) rfl a5 kV (Aja Y a0 rfl rfl rfl) ?_;rintro u' m' _ ⟨rfl,rfl⟩;obtain⟨q1,q2⟩:=Aj8 (e:=3) al fV Y;exact⟨[Ap5,zI 3],PH.mt,⟨.inr ⟨6,57,I,0,some 3,rfl,kV,kV,rfl,q1⟩,.inr ⟨7,39,U,0,none,rfl,kV,kV,rfl,q2⟩,trivial⟩,PH.mt_le _,.inl ⟨3,rfl,.inr ⟨rfl,h0,P,a8,oV⟩⟩⟩
 refine G.gF (P.length+1:Nat) 12<|G.f 57 I 0 0 0<|G.loadM none I (0+0) (.slice pa P.length pc) kV rfl (Cg (j:=0) Q (i:=1) rfl rfl) ?_;have hX:=Sj C P;generalize ag:Lh C P=X at E hX;have aw:∀ i j,i<P.length+1->j<P.length+1->De 75 18 (en X i j):=fun i j hi hj=>by rw[<-ag,Abs C P hi hj];exact az _ _
 refine G.l (ι:=Nat×List (Value×zV)) (fun i=>[(2,tV (Ae q)),(6,.v (.pointer (zA I))),(7,.v (.pointer (zA U))),(28,iV P.length),(29,iV i.1)]) (fun _=>[])
  (fun i u' m'=>i.1<=P.length/\i.2.map (·.2)=(D0 q X (i.1+1)).map txV/\Bag m' (Kq U 39 [zO]::Kq I 57 [.slice pa P.length pc,.slice Z (P.length+1) V,.slice ra (P.length+1) rc]::Bu (.slice ra (P.length+1) rc,txV ((An P).map (Bh C)))::oT (.slice Z (P.length+1) V) i.2::i.2.map Bu)) (fun i=>P.length-i.1)
  (0,H) ⟨A1t _,E,Q⟩ ?_
 clear Q E;rintro J ⟨i,H⟩ hJ u5 m5 l5 ⟨hi,E,L⟩;simp only at hi E L hJ;obtain⟨mE,hE,mN,hN,hR⟩:=id L;have ad:PH.le mN m5:=(Ad3 hN).trans (Ad3 hE);have a9:=Nx (q:=q) hX (i+1) oV;by_cases b9:i<P.length
 ·refine G.lT i P.length ?_;have b2:H.length=P.length+1:=by have:=congrArg List.length E;rw[A03,A03,a9.1]at this;exact this
  obtain⟨go,co,eo⟩:=hR.ptr 1 rfl (fun e=>by
   have:(H.map (·.1)).length=0:=by rw[show H.map (·.1) = [] from e];rfl
   rw[A03]at this;omega)
  have ap:(Value.slice Z (P.length+1) V)=zG go (P.length+1) co:=by
   have e1:(oT (.slice Z (P.length+1) V) H).v=Value.slice Z (P.length+1) V:=rfl;rw[e1]at eo;rw[eo];have:(oT (.slice Z (P.length+1) V) H).es.length=P.length+1:=by show (H.map (·.1)).length=_;rw[A03,b2]
   rw[this]
  cases ap;obtain⟨gi,ci,an,e1,e2⟩:=Ayw hR E a9 (show i+1<P.length+1 by omega);have ak:gR (gM (D0 q X (i+1)) (i+1)) (i+1)=en X (i+1) (i+1):=by
   have:=Vv (q:=q) hX (i+1) oV (i+1) (i+1) oV oV;rw[if_neg oV]at this;show en (D0 q X (i+1)) (i+1) (i+1)=_;rw[this];grind
  have hd:=aw (i+1) (i+1) oV oV;have ae:=e2 (i+1) oV;rw[ak]at ae;have a6:ElP m5 I (0+1) (zG go (P.length+1) V):=Cg (j:=1) L (i:=1) rfl rfl;refine G.f 57 I 0 1 1<|G.loadM none I (0+1) (zG go (P.length+1) V) kV rfl a6<|G.i i<|G.a go 0 (P.length+1) V (i+1) 1 oV<|G.loadM none go (0+(i+1)*1) (zG gi (P.length+1) ci) kV rfl (e1.mono ad)<|G.i i<|G.f 57 I 0 1 1<|G.loadM none I (0+1) (zG go (P.length+1) V) kV rfl a6<|G.i i<|G.a go 0 (P.length+1) V (i+1) 1 oV<|G.loadM none go (0+(i+1)*1) (zG gi (P.length+1) ci) kV rfl (e1.mono ad)<|G.i i<|G.a gi 0 (P.length+1) ci (i+1) 1 oV<|G.loadM none gi (0+(i+1)*1) (zS (Ae (en X (i+1) (i+1)))) kV rfl (ae.mono ad) ?_;have ha:=hd.add hq.de (f:=78) oV oV;refine G.c call117 (Atv ((ht.mono l1).mono l5) (hd.tx oV oV oV oV) hq.tx (ha.tx oV oV oV oV)) ?_;rintro v6 u6 l6 rfl;refine G.a gi 0 (P.length+1) ci (i+1) 1 oV ?_;obtain⟨m0,ao,am⟩:=L.focus (i+5) (x:=Bu (zG gi (P.length+1) ci,txV (gM (D0 q X (i+1)) (i+1)))) (by simp[an]);rw[D6]at ao;have b7:(txV (gM (D0 q X (i+1)) (i+1))).length=P.length+1:=by rw[Bgm,a9.2 (i+1) oV]
  refine G.storeA 1 m0 (txV (gM (D0 q X (i+1)) (i+1))) gi (P.length+1) ci (i+1) (zS (Ae (en X (i+1) (i+1)+q))) kV ao oV rfl rfl ?_;intro m7 af;have es:(txV (gM (D0 q X (i+1)) (i+1))).set (i+1) (zS (Ae (en X (i+1) (i+1)+q)))=txV ((gM (D0 q X (i+1)) (i+1)).set (i+1) (gR (gM (D0 q X (i+1)) (i+1)) (i+1)+q)):=by
   rw[ak];unfold txV;rw[A2g]
  rw[es]at af;have W:=am (Bu (zG gi (P.length+1) ci,txV ((gM (D0 q X (i+1)) (i+1)).set (i+1) (gR (gM (D0 q X (i+1)) (i+1)) (i+1)+q)))) m7 af;have aj:Bag m7 (Kq U 39 [zO]::Kq I 57 [.slice pa P.length pc,zG go (P.length+1) V,.slice ra (P.length+1) rc]::Bu (.slice ra (P.length+1) rc,txV ((An P).map (Bh C))) ::
   oT (zG go (P.length+1) V) (H.set (i+1) (zG gi (P.length+1) ci,txV ((gM (D0 q X (i+1)) (i+1)).set (i+1) (gR (gM (D0 q X (i+1)) (i+1)) (i+1)+q))))::(H.set (i+1) (zG gi (P.length+1) ci,txV ((gM (D0 q X (i+1)) (i+1)).set (i+1) (gR (gM (D0 q X (i+1)) (i+1)) (i+1)+q)))).map Bu):=by
   rw[Aho an,A2g];simpa using W
  refine G.storeOne 0 U 39 1 [zO] zO kV aj rfl Gf mV rfl rfl Gf ?_;intro m8 ab;simp only[A2p,Value.cells]at ab;refine G.loadM none U 0 zO kV rfl (Cg (j:=0) ab (i:=0) rfl rfl)<|G.nF 0 0<|G.i i<|G.b (hJ (i+1,H.set (i+1) (zG gi (P.length+1) ci,txV ((gM (D0 q X (i+1)) (i+1)).set (i+1) (gR (gM (D0 q X (i+1)) (i+1)) (i+1)+q)))) _ _ _ cV (l5.trans l6) ⟨dV,?_,ab⟩ dV);rw[A2g,E,<-A2g];rfl
 obtain rfl:i=P.length:=oV
 refine G.lF P.length P.length<|G.loadM (some 3) I 0 (.agg #[.slice pa P.length pc,.slice Z (P.length+1) V,.slice ra (P.length+1) rc]) kV rfl (Adr L (i:=1) rfl Ia mV)<|G.storeOne 1 I 57 3 _ (.agg #[.slice pa P.length pc,.slice Z (P.length+1) V,.slice ra (P.length+1) rc]) kV L rfl Ia mV rfl rfl Ia ?_;intro m6 a3;refine G.storeOne 0 U 39 1 [zO] zO kV a3 rfl Gf mV rfl rfl Gf ?_;intro m7 W;simp only[Value.cells]at W;have a0:=M6 W (i:=1) rfl Ia mV;have Y:=M6 W (i:=0) rfl Gf mV;refine G.retD ac (K:=fun u' m'=>u'=u5/\m'=K9 m7 I 0) rfl a5 kV (Aja Y a0 rfl rfl rfl) ?_;intro u' m' _ hK;have b1:m'=m7:=hK.2.trans (if_pos rfl);rw[hK.1,b1];obtain⟨ba,ar,b3,au,av⟩:=id W;have q1:=Adr W (i:=1) rfl Ia mV;have q2:=Cg (j:=0) W (i:=0) rfl rfl;exact⟨[.agg #[.slice pa P.length pc,.slice Z (P.length+1) V,.slice ra (P.length+1) rc],zO],b3,⟨.inr ⟨6,57,I,0,some 3,rfl,kV,kV,rfl,q1⟩,.inr ⟨7,39,U,0,none,rfl,kV,kV,rfl,q2⟩,trivial⟩,(Ad3 au).trans (Ad3 ar),
  .inr ⟨h0,P,pa,pc,Z,V,ra,rc,H,a8,oV,rfl,hL.mono l5,by rw[ag];exact E,av⟩⟩
end
end
section
variable {u:PH}
def Bfu {q:Rat}(h:Tx q):zF 168 [zS (Ae q)] u fun v _=>v=zL:=by
 refine Fn0.o func168<|G.c call169 (Gu h) ?_;rintro m j e rfl;exact G.z zL
def Bf0 {pv lv:Value}{P:List Par}{m0:Rat}{m:zR}(W:Ac u pv 2 (P.map Ap))(I:Cj u lv ((m0::m).map Ae))(hs:Hb Bk P)(H:m.length=P.length)(hl:P.length<=1000)(h0:Tx m0)(hT:∀ q∈m,Tx q) :
 zF 94 [pv,lv] u fun r u'=>∃ mv,r=.tuple #[mv,zO]/\Bfe u' mv m0 (P.zip m):=by
 have F:=Bga W hs oV;obtain⟨a,c,rfl⟩:=W.opn;obtain⟨la,lc,rfl⟩:=Ac.opn I;have hn:(Cc ((m0::m).map Ae)).length=P.length+1:=by rw[Cb,A03,A3f,H]
 rw[A03]at W F⊢;rw[hn]at I⊢;have X:∀ i q,(m0::m)[i]?=some q->Tx q:=fun i q hq=>by
  rcases A1g.1 (A1k hq) with rfl|h
  ·exact h0
  exact hT q h
 refine Fn0.o func94<|G.c call166 F ?_;rintro v1 u1 l1 rfl;refine G.p P.length 1 (P.length+1:Nat)<|G.nF (P.length+1:Nat) (P.length+1:Nat)<|G.c call167 (Lc (fid:=168) (Ac.mono I l1) (by rw[A03,A3f,H];omega) call168 (fun t ht u' _=>?_)) ?_
 ·obtain⟨q,Z,rfl⟩:=A1b.1 ht;obtain⟨i,hi⟩:=List.mem_iff_getElem?.1 Z;exact Bfu (X i q hi)
 rintro v2 u2 l2 rfl;have T:=l1.trans l2;obtain⟨b,o,rfl,e⟩:=Ac.at' (Ac.mono I T) (j:=0) (e:=zS (Ae m0)) rfl;refine G.n (P.length+1) lc e<|G.l (ι:=Nat×(zP×Nat)) (fun i=>[(1,sV (some ⟨b,o,none⟩) (P.length+1) lc),(4,.p 0 0),(6,.p 7004 0),(30,sV a P.length c),(31,iV P.length),(32,iV i.1)]) (fun i=>[(0,⟨89,[tV [],sN]⟩),(7004,⟨89,[tV (Ae m0),sV i.2.1 i.1 i.2.2]⟩)])
  (fun i u' m'=>i.1<=P.length/\Af PH.mt m' (.slice i.2.1 i.1 i.2.2) 162 3 (((P.zip m).take i.1).map Bt)) (fun i=>P.length-i.1) (0,none,0) ⟨oV,Af.nil _ _ _⟩ ?_
 rintro J ⟨i,pa,pc⟩ hJ u3 m3 l3 ⟨Y,V⟩;simp only at Y V hJ;have U:=T.trans l3;have R:(P.zip m).length=P.length:=by rw[Bgl];omega
 by_cases K:i<P.length
 ·refine G.lT i P.length ?_;obtain⟨p,L⟩:∃ p,P[i]?=some p:=⟨_,A01 K⟩;obtain⟨q,Q⟩:∃ q,m[i]?=some q:=⟨_,A01 oV⟩;have hz:(P.zip m)[i]?=some (p,q):=by rw[List.getElem?_zip_eq_some];exact⟨L,Q⟩
  have a0:(P.zip m).take (i+1)=(P.zip m).take i++[(p,q)]:=by rw[A1n,hz];rfl
  obtain⟨bp,op,rfl,ep⟩:=Ac.at' (W.mono U) (j:=i) (e:=Ap p) (by simp[L]);obtain⟨p1,p2⟩:=p;refine G.N P.length c K ep ?_;obtain⟨b2,o2,e0,e2⟩:=Ac.at' (Ac.mono I U) (j:=i+1) (e:=zS (Ae q)) (by unfold Cc;rw[A1a,A1a,A7r,Q];rfl);cases e0;refine G.i i<|G.n (P.length+1) lc e2<|G.B 162 3 40 (.agg #[zO,zE,zE]) [Bt ((p1,p2),q)] (Afk _) ?_;intro g4 u4 l4 e4;refine G.k 162 3 40 (.agg #[zO,zE,zE]) PH.mt (((P.zip m).take i).map Bt) [Bt ((p1,p2),q)] (.slice pa i pc) g4 0 1 1 V e4 (Afk _) ?_;intro v5 m5 E;have e6:((P.zip m).take i).map Bt++[Bt ((p1,p2),q)]=((P.zip m).take (i+1)).map Bt:=by rw[a0];simp
  rw[e6]at E;obtain⟨a5,c5,rfl⟩:=E.shape;have el:(((P.zip m).take (i+1)).map Bt).length=i+1:=by rw[A03,A1e];omega
  rw[el]at E⊢;exact G.i i<|G.b (hJ (i+1,a5,c5) _ _ _ cV (l3.trans l4) ⟨dV,E⟩ dV)
 obtain rfl:i=P.length:=oV;refine G.lF P.length P.length ?_;rw[A1j oV]at V;refine G.give _ _ _ kV V (fun g=>.inl rfl) ?_;intro u6 l6 hF;exact G.r (.tuple #[.agg #[zS (Ae m0),.slice pa P.length pc],zO]) ⟨rfl,_,rfl,⟨pa,pc,by rw[R],by rw[R];exact hF⟩⟩
section
variable {P:List Par} {C:CF} {q:Rat}
theorem Aum (J:P.Nodup)(L:0<C.c)(R:0<q)(E:∀ z,0<=Dh z P C)(y:Nat->Rat)(h:∀ i,i<(Eh C P q).length->Bb (Eh C P q).length (fun j=>en (Eh C P q) i j*y j)=0):∀ j,j<(Eh C P q).length->y j=0:=by
 have H:=Rx (P:=P) (C:=C) (q:=q);have F:∀ j,j<P.length+1->cfE (y 0) (P.zip ((List.range P.length).map fun j=>y (j+1))) ((An P).getD j none)=y j:=fun j m=>by
  rw[Ar2 J mV j m];cases j with
  |zero=>rfl
  |succ j=>exact Aep (by rw[A7r,A1a,A31 oV];rfl)
 generalize cfE (y 0) (P.zip ((List.range P.length).map fun j=>y (j+1)))=bE at F;have T:∀ e∈An P,bE e=0:=Ast R L E fun e Q=>by
  obtain⟨i,hi,rfl⟩:=A3d.1 Q;have I:(An P)[i]=(An P).getD i none:=by rw[A02,A01 hi];rfl
  rw[I];rw[Cp]at hi;have K:=h i (by rw[H.1];exact hi);rw[H.1,Ah (g:=fun j=>As C ((An P).getD i none) ((An P).getD j none)*bE ((An P).getD j none)+(if i=j/\0<i then q else 0)*y j) (fun j m=>by
   rw[N8 hi m,F j m];grind),F7,Agy]at K
  have t:P7 q bE ((An P).getD i none)=if i<P.length+1/\0<i then q*y i else 0:=by
   cases i with
   |zero=>rw[if_neg oV];rfl
   |succ j =>
    rw[if_pos ⟨hi,oV⟩,<-F _ hi];unfold An;rw[A6b,A02,A1a,A01 oV];rfl
  rw[Qa _ (An P) none,Cp,t];exact K
 intro j m;rw[H.1]at m;rw[<-F j m];exact T _ (Alq m)
def At1 (h:∀ r∈Eh C P q,∀ x∈r,Th x)(t:P.length<=11):Sq (Eh C P q):=by
 have e:=Rx (P:=P) (C:=C) (q:=q);refine⟨by rw[e.1];omega,fun r j=>?_,fun r j x m=>(h r j x m).tx⟩;obtain⟨i,hi,rfl⟩:=A3d.1 j;have:=e.2 i (by have:=e.1;omega);rw[Ch hi]at this;rw[this,e.1]
end
end
theorem Ad4 {α:Type}[DecidableEq α]{f:α->Rat}{x:α}:∀ {l:List α},l.Nodup->x∈l->B9 (fun y=>if y=x then f y else 0) l=f x
 |y::l,hn,hx=>by
  obtain⟨j,m⟩:=A4j.1 hn;show (if y=x then f y else 0)+B9 (fun y=>if y=x then f y else 0) l=f x;by_cases e:y=x
  ·subst e;rw[if_pos rfl,Fv fun z t=>if_neg fun (e:z=y)=>j (e▸t)];grind
  rw[if_neg e,Ad4 m ((A1g.1 hx).resolve_left fun h=>e h.symm)];grind
def Axa (n:Nat)(X:zM)(y:Nat->Rat):Prop:=∀ i,i<n->Bb n (fun j=>en X i j*y j)=0
theorem Aq3 {n w r c p:Nat}{X:zM}{y:Nat->Rat}(h:Rec n w X)(U:n<=w)(t:r<n)(hp:p<n)(T:c<n)(h0:en X p c≠0)(Q:Axa n (J8 X r c p) y):Axa n X y:=by
 have H:Rec n w (if p=r then X else If X p r):=by
  split
  ·exact h
  exact Mk h hp t
 have m:∀ i j,en (if p=r then X else If X p r) i j=if i=r then en X p j else if i=p then en X r j else en X i j:=fun i j=>by
  split
  ·rename_i e;subst e;split
   ·rename_i e;rw[e]
   rfl
  rw[Si h hp t]
 have F:∀ k j,k<n->j<w->en (J8 X r c p) k j=if k=r then en X p j*(1/en X p c) else (if k=p then en X r j else en X k j)-(if k=p then en X r c else en X k c)*(en X p j*(1/en X p c)):=by
  intro k j L K;unfold J8;rw[h.1,Acm t oV n 0 _ oV (R8 H t) k j K,Jd H t k j,Jd H t k c,Jd H t r j,if_pos rfl,m k j,m k c,m r j,m r c,if_pos rfl,if_pos rfl];by_cases e:k=r
  ·rw[if_neg oV,if_pos e,if_pos e,if_pos e]
  rw[if_pos ⟨oV,oV,e⟩,if_neg e,if_neg e,if_neg e,if_neg e,if_neg e]
 have R:en X p c*(1/en X p c)=1:=by grind
 generalize 1/en X p c=q at *
 have E:Bb n (fun j=>en X p j*y j)=0:=by
  have u:=Q r t;rw[Ah (g:=fun j=>(en X p j*q)*y j) fun j K=>by rw[F r j t oV,if_pos rfl],Afg]at u;generalize Bb n (fun j=>en X p j*y j)=S at *
  have:en X p c*(q*S)=en X p c*0:=by rw[u]
  grind
 have C:∀ k,k<n->k≠r->Bb n (fun j=>(if k=p then en X r j else en X k j)*y j)=0:=by
  intro k L P;have u:=Q k L;rw[Ah (g:=fun j=>((if k=p then en X r j else en X k j)-((if k=p then en X r c else en X k c)*q)*en X p j)*y j) fun j K=>by rw[F k j L oV,if_neg P];grind,Aes,E]at u;grind
 intro i hi;by_cases I:i=p
 ·rw[I];exact E
 by_cases J:i=r
 ·have u:=C p hp (fun e=>I (by rw[J,e]));rw[J];simpa using u
 have u:=C i hi J;simpa[I] using u
def Aak (n i:Nat)(f:Nat->Rat)(hi:i<n):Bb n (fun k=>if k=i then f k else 0)=f i:=by
 unfold Bb;exact Ad4 (f:=f) List.nodup_range (A6q.2 hi)
theorem Af4 {n w:Nat}(H:n<=w):∀ f c P X d,c+f=n->P.length=c->Rec n w X->(∀ i j,i<n->j<c->en X i j=if i=j then 1 else 0) ->
 (Bn f c P X d).1.length<n->∃ y,Axa n X y/\∃ j,j<n/\y j≠0
 |0,c,P,X,d,hc,hP,h,hu,t=>by
  have L:Bn 0 c P X d=(P,X,d):=rfl;rw[L]at t;simp only at t;omega
 |f+1,c,P,X,d,hc,hP,h,hu,t=>by
  revert t
  unfold Bn;rw[if_pos (show P.length<X.length by rw[h.1];omega)];obtain⟨W,Y⟩:=Ss X c (X.length-P.length) P.length;have R:=Yq X c (X.length-P.length) P.length;have T:=W7 X c (X.length-P.length) P.length;generalize El X c (X.length-P.length) P.length=p at *
  have V:=h.1;split
  ·rename_i hpx;intro _;have Q:∀ i,c<=i->i<n->en X i c=0:=fun i I J=>R i oV oV;obtain⟨y,K⟩:∃ y:Nat->Rat,y=fun j=>if j<c then -(en X j c) else if j=c then 1 else 0:=⟨_,rfl⟩
   refine⟨y,fun i hi=>?_,c,oV,?_⟩
   ·rw[Ah (g:=fun j=>(if j=c then en X i c else 0)+if j=i then (if i<c then -(en X i c) else 0) else 0) fun j U=>by
     rw[K];dsimp only;by_cases E:j<c
     ·rw[if_pos E,hu i j hi E,if_neg (show ¬ j=c by omega)];by_cases m:i=j
      ·rw[if_pos m,if_pos m.symm,if_pos oV,m];grind
      rw[if_neg m,if_neg (Ne.symm m)];grind
     rw[if_neg E];by_cases m:j=c
     ·rw[if_pos m,if_pos m,m];by_cases C:c=i
      ·rw[if_pos C,if_neg oV];grind
      rw[if_neg C];grind
     rw[if_neg m,if_neg m];by_cases C:j=i
     ·rw[if_pos C,if_neg oV];grind
     rw[if_neg C];grind,F7,Aak n c (fun _=>en X i c) oV,Aak n i (fun _=>if i<c then -(en X i c) else 0) hi]
    by_cases e:i<c
    ·rw[if_pos e];grind
    rw[if_neg e,Q i oV hi];decide +kernel
   rw[K];dsimp only;rw[if_neg (Nat.lt_irrefl _),if_pos rfl];decide +kernel
  rename_i hpx;intro t;have u:p<n:=oV;have h0:=T oV;rw[hP]at t;have F:=Yt h H (show c<n by omega) u oV h0 hu;obtain⟨y,I,J⟩:=Af4 H f (c+1) (P++[c]) (J8 X c c p) _ oV (by simp[hP]) (Xw h oV u) F t;exact⟨y,Aq3 h H oV u oV h0 I,J⟩
def Bfq {A:zM}{b:zR}(m:Sq A)(u:∀ y:Nat->Rat,(∀ i,i<A.length->Bb A.length (fun j=>en A i j*y j)=0)->∀ j,j<A.length->y j=0):¬ (Bn A.length 0 [] (Xz A b) 1).1.length<A.length:=fun h=>by
 obtain⟨y,t,j,e,C⟩:=Af4 (w:=A.length+1) oV A.length 0 [] (Xz A b) 1 oV rfl (Bfc (b:=b) m) (fun i j _ e=>absurd e (Nat.not_lt_zero _)) h;exact C (u y (fun i hi=>(Ah fun j e=>by rw[Bfl m hi e]).trans (t i hi)) j e)
section
variable {j:Nat}
def C6 (a:Nat->Nat->Rat):Nat->Nat->Nat->Rat
 |0,i,k=>a i k
 |j+1,i,k=>C6 a j i k-C6 a j i j/C6 a j j j*(C6 a j k j/C6 a j j j)*C6 a j j j
section
variable {n:Nat} {a:Nat->Nat->Rat}
theorem O9 (e:∀ i k,i<n->k<n->a i k=a k i):∀ j i k,i<n->k<n->C6 a j i k=C6 a j k i
 |0,i,k,hi,hk=>e i k hi hk
 |j+1,i,k,hi,hk=>by
  have:=O9 e j i k hi hk;unfold C6;rw[this];grind
def frm (n:Nat)(S:Nat->Nat->Rat)(x:Nat->Rat):Rat:=Bb n fun i=>x i*Bb n fun k=>S i k*x k
theorem Xh (e:j<n)(c:Rat)(g:Nat->Rat):Bb n (fun k=>(if k=j then c else 0)*g k)=c*g j:=by
 induction n with
 |zero=>omega
 |succ n ih =>
  rw[Ds];by_cases h:j<n
  ·rw[ih h,if_neg oV];grind
  obtain rfl:j=n:=oV;rw[if_pos rfl,Ah (g:=fun _=>(0:Rat)*0) fun k m=>by rw[if_neg oV];grind,B4];grind
theorem Ab2 {S:Nat->Nat->Rat}(e:j<n)(t:∀ i k,i<n->k<n->S i k=S k i)(x:Nat->Rat)(c:Rat) :
 frm n S (fun i=>x i+if i=j then c else 0)=frm n S x+2*c*Bb n (fun k=>S j k*x k)+c*c*S j j:=by
 have h:∀ i,i<n->Bb n (fun k=>S i k*(x k+if k=j then c else 0))=Bb n (fun k=>S i k*x k)+c*S i j:=fun i _=>by
  rw[Ah (g:=fun k=>S i k*x k+(if k=j then c else 0)*S i k) fun k _=>by grind,F7,Xh e]
 have m:Bb n (fun i=>x i*S i j)=Bb n fun k=>S j k*x k:=Ah fun i hi=>by rw[t i j hi e];grind
 unfold frm;rw[Ah (g:=fun i=>x i*Bb n (fun k=>S i k*x k)+(c*(x i*S i j)+(if i=j then c else 0)*(Bb n (fun k=>S i k*x k)+c*S i j))) fun i hi=>by rw[h i hi];grind,
  F7,F7,B4,Xh e,m]
 grind
theorem Ash (t:j<n)(F:∀ i k,i<n->k<n->a i k=a k i)(hp:C6 a j j j≠0)(x:Nat->Rat) :
 frm n (C6 a (j+1)) x=frm n (C6 a j) x-Bb n (fun k=>C6 a j j k*x k)*Bb n (fun k=>C6 a j j k*x k)/C6 a j j j:=by
 obtain⟨p,e⟩:∃ p,C6 a j j j=p:=⟨_,rfl⟩;obtain⟨R,m⟩:∃ R,Bb n (fun k=>C6 a j j k*x k)=R:=⟨_,rfl⟩;have h:=O9 F j;have u:∀ i,i<n->Bb n (fun k=>C6 a (j+1) i k*x k)=Bb n (fun k=>C6 a j i k*x k)-C6 a j i j/p*R:=fun i hi=>by
  rw[Ah (g:=fun k=>C6 a j i k*x k-C6 a j i j/p*(C6 a j j k*x k)) fun k E=>by
   show (C6 a j i k-C6 a j i j/C6 a j j j*(C6 a j k j/C6 a j j j)*C6 a j j j)*x k=_;rw[h k j E t,e]at *
   grind,Y8,B4,m]
 have C:Bb n (fun i=>x i*C6 a j i j)=R:=by rw[<-m];exact Ah fun i hi=>by rw[h i j hi t];grind
 rw[m,e];unfold frm;rw[Ah (g:=fun i=>x i*Bb n (fun k=>C6 a j i k*x k)-R/p*(x i*C6 a j i j)) fun i hi=>by rw[u i hi];grind,Y8,B4,C];grind
theorem Aru (u:∀ i k,i<n->k<n->a i k=a k i)(hp:∀ x,(∃ i,i<n/\x i≠0)->0<frm n a x):∀ j,j<=n->∀ x:Nat->Rat,(∀ i,i<j->x i=0)->(∃ i,i<n/\x i≠0)->0<frm n (C6 a j) x
 |0,_,x,_,hx=>hp x hx
 |j+1,hj,x,h0,⟨i,hi,hxi⟩=>by
  have m:j<n:=oV
  have E:=Aru u hp j oV;have h:0<C6 a j j j:=by
   have C:=E (fun i=>0+if i=j then 1 else 0) (fun i t=>by rw[if_neg oV];grind) ⟨j,m,by rw[if_pos rfl];decide +kernel⟩;rw[Ab2 m (O9 u j) (fun _=>0) 1]at C;have F:frm n (C6 a j) (fun _=>0)=0:=by
    unfold frm;rw[Ah (g:=fun _=>(0:Rat)*0) fun i _=>by grind,B4];grind
   have H:Bb n (fun k=>C6 a j j k*(0:Rat))=0:=by
    rw[Ah (g:=fun _=>(0:Rat)*0) fun i _=>by grind,B4];grind
   rw[F,H]at C;grind
  rw[Ash m u (fun e=>by rw[e]at h;exact absurd h jV) x];have t:i≠j:=fun e=>hxi (h0 i oV);have I:=E (fun i=>x i+if i=j then -(Bb n (fun k=>C6 a j j k*x k)/C6 a j j j) else 0) (fun i t=>by rw[if_neg oV,h0 i oV];grind) ⟨i,hi,by rw[if_neg t];grind⟩;rw[Ab2 m (O9 u j)]at I;generalize Bb n (fun k=>C6 a j j k*x k)=R at *
  generalize C6 a j j j=p at *
  have J:p≠0:=fun e=>by rw[e]at h;exact absurd h jV
  have e:2 * -(R/p)*R + -(R/p) * -(R/p)*p = -(R*R/p):=by grind
  grind
theorem Akt (m:∀ i k,i<n->k<n->a i k=a k i)(hp:∀ x,(∃ i,i<n/\x i≠0)->0<frm n a x)(h:j<n):0<C6 a j j j:=by
 have e:=Aru m hp j oV (fun i=>0+if i=j then 1 else 0) (fun i C=>by rw[if_neg oV];grind) ⟨j,h,by rw[if_pos rfl];decide +kernel⟩;rw[Ab2 h (O9 m j) (fun _=>0) 1]at e;have t:frm n (C6 a j) (fun _=>0)=0:=by
  unfold frm;rw[Ah (g:=fun _=>(0:Rat)*0) fun i _=>by grind,B4];grind
 have u:Bb n (fun k=>C6 a j j k*(0:Rat))=0:=by
  rw[Ah (g:=fun _=>(0:Rat)*0) fun i _=>by grind,B4];grind
 rw[t,u]at e;grind
end
end
section
variable {i:Nat}
def idN (i k:Nat):Rat:=if i=k then 1 else 0
def Uj (n:Nat)(X A:Nat->Nat->Rat)(i k:Nat):Rat:=Bb n fun j=>X i j*A j k
def Fy (n:Nat)(X:Nat->Nat->Rat)(x:Nat->Rat)(i:Nat):Rat:=Bb n fun j=>X i j*x j
def Vq (n:Nat)(x y:Nat->Rat):Rat:=Bb n fun j=>x j*y j
def Ac1 (n:Nat)(A:Nat->Nat->Rat):Prop:=∀ i k,i<n->k<n->A i k=A k i
def Fe (n:Nat)(X A:Nat->Nat->Rat):Prop:=∀ i k,i<n->k<n->Uj n X A i k=idN i k
def Xu (n:Nat)(A:Nat->Nat->Rat):Prop:=∀ y:Nat->Rat,(∀ i,i<n->Fy n A y i=0)->∀ i,i<n->y i=0
def Pe (n m:Nat)(f:Nat->Nat->Rat):Bb n (fun i=>Bb m fun j=>f i j)=Bb m fun j=>Bb n fun i=>f i j:=Z2 f _ _
def Jp (n:Nat)(f:Nat->Rat)(k:Rat):Bb n (fun i=>f i*k)=Bb n f*k:=Ls k _
section
variable {n:Nat} {X Y A B:Nat->Nat->Rat} {x y:Nat->Rat} {w:Rat}
def Ag9 (hi:i<n)(f:Nat->Rat):Bb n (fun j=>idN j i*f j)=f i:=by
 have:=Xh hi (1:Rat) f;rw[Rat.one_mul]at this;exact this
def Akw (hi:i<n)(f:Nat->Rat):Bb n (fun j=>f j*idN i j)=f i:=by
 rw[<-Ag9 hi f];exact Ah fun j _=>by
  unfold idN;by_cases e:i=j
  ·rw[if_pos e,if_pos e.symm];exact Rat.mul_comm ..
  rw[if_neg e,if_neg (Ne.symm e)];exact Rat.mul_comm ..
def O1 (i k:Nat):idN i k=idN k i:=by
 unfold idN;by_cases e:i=k
 ·rw[if_pos e,if_pos e.symm]
 rw[if_neg e,if_neg (Ne.symm e)]
theorem Aid (i k:Nat)(Z:Nat->Nat->Rat):Bb n (fun j=>X i j*Uj n A Z j k)=Bb n fun m=>Uj n X A i m*Z m k:=by
 have e:Bb n (fun j=>X i j*Uj n A Z j k)=Bb n fun j=>Bb n fun m=>X i j*(A j m*Z m k):=Ah fun j _=>by unfold Uj;rw[B4]
 rw[e,Pe];refine Ah fun m _=>?_;unfold Uj;rw[<-Jp];exact Ah fun j _=>by grind
def Adp (t:Fe n X A)(u:Fe n A Y):∀ i k,i<n->k<n->X i k=Y i k:=fun i k hi h=>by
 have e:=Aid (n:=n) (X:=X) (A:=A) i k Y;rw[Ah (g:=fun j=>X i j*idN k j) fun j C=>by rw[u j k C h,O1],Akw h,Ah (f:=fun m=>Uj n X A i m*Y m k) (g:=fun m=>idN m i*Y m k) fun m E=>by rw[t i m hi E,O1],Ag9 hi]at e;exact e
def Are (e:Ac1 n A)(h:Fe n X A):Fe n A (fun i k=>X k i):=fun i k hi t=>by
 rw[O1,<-h k i t hi];exact Ah fun j m=>by rw[e i j hi m];exact Rat.mul_comm ..
def Av2 (m:Ac1 n A)(h:Fe n A X):Fe n (fun i k=>X k i) A:=fun i k hi e=>by
 rw[O1,<-h k i e hi];exact Ah fun j t=>by rw[m k j e t];exact Rat.mul_comm ..
def Ak9 (e:Ac1 n A)(h:Fe n X A):Ac1 n X:=fun i k hi j=>Adp h (Are e h) i k hi j
def Tg (e:Ac1 n A)(h:Fe n X A):Fe n A X:=fun i k hi m=>by
 rw[<-Are e h i k hi m];exact Ah fun j t=>by rw[Ak9 e h j k t m]
def Apf (t:Ac1 n A)(h:Fe n A X):Fe n X A:=by
 have e:=Av2 t h;have m:=Adp e h;intro i k hi C;rw[<-e i k hi C];exact Ah fun j u=>by rw[<-m i j hi u]
def Aps (j:Ac1 n A)(h:Fe n X A)(e:Fe n Y A):∀ i k,i<n->k<n->X i k=Y i k:=Adp h (Tg j e)
def byN (n:Nat)(X:Nat->Nat->Rat)(x:Nat->Rat)(w:Rat):Rat:=1+w*Vq n x (Fy n X x)
def Vd (n:Nat)(X:Nat->Nat->Rat)(x:Nat->Rat)(w:Rat)(i k:Nat):Rat:=X i k + -(w/byN n X x w)*Fy n X x i*Fy n (fun i k=>X k i) x k
def Vc (A:Nat->Nat->Rat)(x:Nat->Rat)(w:Rat)(i k:Nat):Rat:=A i k+w*(x i*x k)
theorem Aqh (h:Fe n X A)(P:byN n X x w≠0):Fe n (Vd n X x w) (Vc A x w):=fun i k hi E=>by
 obtain⟨r,t⟩:∃ r,Fy n X x=r:=⟨_,rfl⟩;obtain⟨c,C⟩:∃ c,Fy n (fun i k=>X k i) x=c:=⟨_,rfl⟩;obtain⟨f,H⟩:∃ f,w/byN n X x w=f:=⟨_,rfl⟩;have I:Bb n (fun j=>c j*A j k)=x k:=by
  have u:Bb n (fun j=>c j*A j k)=Bb n fun j=>Bb n fun m=>X m j*x m*A j k:=Ah fun j _=>by rw[<-C];unfold Fy;rw[Jp]
  rw[u,Pe,Ah (g:=fun m=>x m*idN k m) fun m L=>by
   rw[Ah (g:=fun j=>x m*(X m j*A j k)) fun j _=>by grind,B4,show Bb n (fun j=>X m j*A j k)=idN m k from h m k L E,O1],Akw E]
 have J:Bb n (fun j=>c j*x j)=Vq n x r:=by
  have u:Bb n (fun j=>c j*x j)=Bb n fun j=>Bb n fun m=>X m j*x m*x j:=Ah fun j _=>by rw[<-C];unfold Fy;rw[Jp]
  rw[u,Pe];unfold Vq;refine Ah fun m _=>?_;rw[<-t];unfold Fy;rw[<-B4];exact Ah fun j _=>by grind
 have K:Bb n (fun j=>X i j*x j)=r i:=by rw[<-t];rfl
 have F:=h i k hi E;have e:f*byN n X x w=w:=by rw[<-H];grind
 unfold byN at e;rw[t]at e;unfold Uj at F⊢;rw[Ah (g:=fun j=>X i j*A j k+(w*x k)*(X i j*x j)+((-f*r i)*(c j*A j k)+(-f*r i*w*x k)*(c j*x j))) fun j _=>by
  unfold Vd Vc;rw[t,C,H];grind,F7,F7,F7,B4,B4,B4,I,J,K,F]
 grind
theorem Ab6 (h:Fe n A X)(hi:i<n):Fy n A (Fy n X x) i=x i:=by
 have e:Fy n A (Fy n X x) i=Bb n fun m=>Uj n A X i m*x m:=by
  unfold Fy;rw[Ah (g:=fun j=>Bb n fun m=>A i j*(X j m*x m)) fun j _=>by rw[B4],Pe];refine Ah fun m _=>?_;unfold Uj;rw[<-Jp];exact Ah fun j _=>by grind
 rw[e,Ah (g:=fun m=>idN m i*x m) fun m t=>by rw[h i m hi t,O1],Ag9 hi]
theorem Az9 (u:Fe n A X)(hi:Xu n (Vc A x w)):byN n X x w≠0:=fun h0=>by
 have m:∀ i,i<n->Fy n (Vc A x w) (Fy n X x) i=0:=fun i h=>by
  have e:Fy n (Vc A x w) (Fy n X x) i=Fy n A (Fy n X x) i+w*x i*Vq n x (Fy n X x):=by
   obtain⟨r,E⟩:∃ r,Fy n X x=r:=⟨_,rfl⟩;rw[E];unfold Fy Vq Vc;rw[Ah (g:=fun j=>A i j*r j+w*x i*(x j*r j)) fun j _=>by grind,F7,B4]
  rw[e,Ab6 u h];unfold byN at h0;grind
 have t:=hi _ m;unfold byN Vq at h0;rw[Ah (g:=fun _=>(0:Rat)*0) fun j C=>by rw[t j C];grind,B4]at h0;exact absurd h0 (by rw[Ban,Bau];decide +kernel)
def Aye (n:Nat)(X:Nat->Nat->Rat)(x:Nat->Rat):Rat:=Vq n x (Fy n X x)
def Avo (e:Fe n A X):Aye n X x=frm n A (Fy n X x):=by
 unfold Aye Vq frm;refine Ah fun i hi=>?_;have:=Ab6 (x:=x) e hi;unfold Fy at this⊢;rw[this];exact Rat.mul_comm ..
theorem Avk (m:Fe n A X)(hp:∀ x,(∃ i,i<n/\x i≠0)->0<frm n A x)(u:∃ i,i<n/\x i≠0):0<Aye n X x:=by
 rw[Avo m];refine hp _ (A3m fun t=>?_);obtain⟨i,hi,h0⟩:=u;refine h0 ?_;rw[<-Ab6 (x:=x) m hi];have C:∀ j,j<n->Fy n X x j=0:=fun j e=>A3m fun h=>t ⟨j,e,h⟩;rw[show Fy n A (Fy n X x) i=Bb n fun j=>A i j*Fy n X x j from rfl,Ah (g:=fun _=>(0:Rat)*0) fun j e=>by rw[C j e];grind,B4,Ban]
end
end
section
variable {M n:Nat}{P:Nat->Nat}{R S:Nat->Nat->Int}{v:Int}
def N5:Nat->Nat
 |0=>1
 |n+1=>(n+1)*N5 n
def Aev {f:Nat->Int}{M:Nat}:∀ {n:Nat},(∀ j,j<n->(f j).natAbs<=M)->(Ca n f).natAbs<=n*M
 |0,_=>by rw[Ca];omega
 |n+1,h=>by
  have e:=Aev fun j (t:j<n)=>h j oV;have m:=h n oV;rw[Ca,A16,A3i];have:=Int.natAbs_add_le (Ca n f) (f n);omega
def Aky:∀ n:Nat,(dsg n).natAbs=1
 |0=>rfl
 |n+1=>by rw[dsg,A3l,Aky n]
def Aj1 {M:Nat}:∀ {r:Nat} {C:Nat->Nat->Int},(∀ t,t<r->∀ i,i<r->(C t i).natAbs<=M)->(dt r C).natAbs<=N5 r*M^r
 |0,_,_=>by rw[dt,N5,A8j];decide
 |r+1,C,h=>by
  rw[dt];have e:(Ca (r+1) fun j=>dsg (r+j)*C j r*dt r (Eu j C)).natAbs<=(r+1)*(M*(N5 r*M^r)):=Aev fun j m=>by
   rw[A26,A26,Aky,A3i];refine A25 (h j m r oV) (Aj1 fun t u i hi=>?_);unfold Eu;split
   ·exact h t oV i oV
   exact h (t+1) oV i oV
  refine A04 e (Nat.le_of_eq ?_);rw[N5,A2d];simp only[A17,A19,Nat.mul_left_comm]
def Art (h:Bar n R P n v S){j:Nat}(m:j<n)(k:Nat):S j k=dt n (Dc (fun j i=>R i (P j)) j fun i=>R i k):=by
 have e:=Z3 (fun j i=>R i (P j)) m (fun j=>S j k);have u:dt n (Dc (fun j i=>R i (P j)) j fun i=>Ca n fun t=>S t k*R i (P t))=dt n (Dc (fun j i=>R i (P j)) j fun i=>v*R i k+0*R i k):=Ih fun t E i hi=>by
  unfold Dc;split
  ·show (Ca n fun t=>S t k*R i (P t))=v*R i k+0*R i k;rw[h.lo i hi k,Int.zero_mul,Int.add_zero]
  rfl
 have C:=Mt v 0 (fun i=>R i k) (fun i=>R i k) (fun j i=>R i (P j)) m;rw[u,C,Int.zero_mul,Int.add_zero,h.d,Int.mul_comm]at e;exact (Int.eq_of_mul_eq_mul_right h.v0 e).symm
def Aua (h:Bar n R P n v S)(e:∀ i,i<n->∀ k,(R i k).natAbs<=M):v.natAbs<=N5 n*M^n/\∀ j,j<n->∀ k,(S j k).natAbs<=N5 n*M^n:=by
 refine⟨by rw[<-h.d];exact Aj1 fun t _ i hi=>e i hi _,fun j m k=>?_⟩;rw[Art h m k];refine Aj1 fun t _ i hi=>?_;unfold Dc;split
 ·exact e i hi _
 exact e i hi _
def Auw {n w M:Nat}{X:List (List Int)}(h:E8 n w X)(u:∀ i,i<n->∀ k,(enZ X i k).natAbs<=M)(F:(Fm n n 0 ⟨X,[],1,false⟩).P.length=n) :
 (Fm n n 0 ⟨X,[],1,false⟩).v.natAbs<=N5 n*M^n/\∀ j,j<n->∀ k,(enZ (Fm n n 0 ⟨X,[],1,false⟩).X j k).natAbs<=N5 n*M^n:=by
 have h0:Ajv n w (enZ X) 0 ⟨X,[],1,false⟩:=⟨h,rfl,enZ X,fun i hi=>⟨i,hi,rfl⟩,fun i hi=>⟨i,hi,rfl⟩,Bar.init n _ _⟩;rcases Aci n 0 _ oV h0 with ⟨_,_,R,_,m,t⟩|⟨_,E⟩
 ·exact Aua t fun i hi k=>by
   obtain⟨j,C,e⟩:=m i hi;rw[e];exact u j C k
 omega
end
section
variable {i k:Nat}
def Iu (n:Nat)(Z:Nat->Nat->Int):List (List Int):=(List.range n).map fun i=>(List.range (n+n)).map fun k=>if k<n then Z i k else if i=k-n then 1 else 0
section
variable {n:Nat} {Z:Nat->Nat->Int} {A X:Nat->Nat->Rat} {D M:Nat}
def Sm (hi:i<n):gMZ (Iu n Z) i=(List.range (n+n)).map fun k=>if k<n then Z i k else if i=k-n then 1 else 0:=by
 unfold gMZ Iu;rw[A02,A1a,A31 hi];rfl
def Vu:E8 n (n+n) (Iu n Z):=⟨by unfold Iu;simp,fun i hi=>by rw[Sm hi];simp⟩
def Afx (hi:i<n)(e:k<n):enZ (Iu n Z) i k=Z i k:=by
 unfold enZ;rw[Sm hi,Abr _ oV,if_pos e]
def Ao5 (hi:i<n)(e:k<n):enZ (Iu n Z) i (n+k)=if i=k then 1 else 0:=by
 unfold enZ;rw[Sm hi,Abr _ oV,if_neg oV,show n+k-n=k by omega]
def Ald (h:∀ i k,i<n->k<n->(Z i k).natAbs<=M)(t:1<=M):∀ i,i<n->∀ k,(enZ (Iu n Z) i k).natAbs<=M:=fun i hi k=>by
 by_cases e:k<n
 ·rw[Afx hi e];exact h i k hi e
 by_cases j:k<n+n
 ·obtain⟨m,rfl⟩:∃ m,k=n+m:=⟨k-n,oV⟩;rw[Ao5 hi oV];split<;>simp<;>omega
 unfold enZ;rw[Sm hi,Ado gV];simp
theorem Aqr (hs:Ac1 n A)(Y:Fe n X A)(hi:Xu n A)(V:0<D)(J:∀ i k,i<n->k<n->A i k*(D:Rat)=Z i k)(W:∀ i k,i<n->k<n->(Z i k).natAbs<=M)(U:1<=M) :
 ∃ L:Nat,0<L/\L<=N5 n*M^n/\∀ j k,j<n->k<n->∃ z:Int,X j k*(L:Rat)=z/\z.natAbs<=D*(N5 n*M^n):=by
 have hd:=T4 V;rcases Za (Vu (n:=n) (Z:=Z)) with ⟨hl,_,Q,I⟩|⟨⟨y,⟨j0,E,H⟩,hy⟩,_⟩
 ·obtain⟨K,P⟩:=Auw (Vu (n:=n) (Z:=Z)) (Ald W U) hl;generalize Fm n n 0 ⟨Iu n Z,[],1,false⟩=s at Q I K P;have a0:(s.v:Rat)≠0:=fun e=>Q (A7f.1 (by rw[e];rfl));have hY:Fe n A (fun j k=>(enZ s.X j (n+k):Rat)*(D:Rat)/(s.v:Rat)):=fun i k hi F=>by
   have e:=congrArg (fun z:Int=>(z:Rat)) (I i hi (n+k));simp only[Oy,A3c]at e;rw[Ao5 hi F]at e;have T:(((if i=k then 1 else 0:Int)):Rat)=idN i k:=by unfold idN;split<;>rfl
   rw[T]at e;unfold Uj;rw[Ah (g:=fun j=>(1/(s.v:Rat))*((enZ s.X j (n+k):Rat)*(enZ (Iu n Z) i j:Rat))) fun j m=>by
    rw[Afx hi m,<-J i j hi m];grind,B4,e]
   grind
  have C:=Adp Y hY;refine⟨s.v.natAbs,oV,K,fun j k m F=>?_⟩;have R:=P j m (n+k);rw[C j k m F];rcases Int.natAbs_eq s.v with e|e
  ·refine⟨enZ s.X j (n+k)*(D:Int),?_,?_⟩
   ·have u:((s.v.natAbs:Nat):Rat)=(s.v:Rat):=by
     have:=congrArg (fun z:Int=>(z:Rat)) e;simp only[A2r]at this;exact this.symm
    rw[u,A3c,A2r];grind
   rw[A26,A1s,A19];exact A2h _ R
  refine⟨-(enZ s.X j (n+k)*(D:Int)),?_,?_⟩
  ·have u:((s.v.natAbs:Nat):Rat) = -(s.v:Rat):=by
    have:=congrArg (fun z:Int=>(z:Rat)) e;simp only[A8k,A2r]at this;rw[this];grind
   rw[u,A8k,A3c,A2r];grind
  rw[A3l,A26,A1s,A19];exact A2h _ R
 refine absurd (hi (fun j=>(y j:Rat)) (fun i t=>?_) j0 E) fun e=>H (A7f.1 (by rw[e];rfl));have e:=congrArg (fun z:Int=>(z:Rat)) (hy i t);simp only[Oy,A3c]at e;unfold Fy;have u:Bb n (fun j=>A i j*(y j:Rat))*(D:Rat)=0:=by
  rw[<-Jp,Ah (g:=fun j=>(y j:Rat)*(enZ (Iu n Z) i j:Rat)) fun j m=>by rw[Afx t m,<-J i j t m];grind,e];rfl
 rcases A40.1 u with h|h
 ·exact h
 exact absurd h hd
end
end
theorem Au4 {n D:Nat}{A:Nat->Nat->Rat}{Z:Nat->Nat->Int}(hi:Xu n A)(K:0<D)(H:∀ i k,i<n->k<n->A i k*(D:Rat)=Z i k) :
 (Fm n n 0 ⟨Iu n Z,[],1,false⟩).P.length=n/\E8 n (n+n) (Fm n n 0 ⟨Iu n Z,[],1,false⟩).X/\(Fm n n 0 ⟨Iu n Z,[],1,false⟩).v≠0 /\
  Fe n A (fun j k=>(enZ (Fm n n 0 ⟨Iu n Z,[],1,false⟩).X j (n+k):Rat)*(D:Rat)/((Fm n n 0 ⟨Iu n Z,[],1,false⟩).v:Rat)):=by
 have L:(D:Rat)≠0:=T4 K;rcases Za (Vu (n:=n) (Z:=Z)) with ⟨R,T,C,F⟩|⟨⟨y,⟨j0,u,E⟩,V⟩,_⟩
 ·refine⟨R,T,C,?_⟩;generalize Fm n n 0 ⟨Iu n Z,[],1,false⟩=s at C F;have U:(s.v:Rat)≠0:=fun e=>C (A7f.1 (by rw[e];rfl));intro i k hi Q;have e:=congrArg (fun z:Int=>(z:Rat)) (F i hi (n+k));simp only[Oy,A3c]at e;rw[Ao5 hi Q]at e;have J:(((if i=k then 1 else 0:Int)):Rat)=idN i k:=by unfold idN;split<;>rfl
  rw[J]at e;unfold Uj;rw[Ah (g:=fun j=>(1/(s.v:Rat))*((enZ s.X j (n+k):Rat)*(enZ (Iu n Z) i j:Rat))) fun j t=>by
   rw[Afx hi t,<-H i j hi t];grind,B4,e]
  grind
 refine absurd (hi (fun j=>(y j:Rat)) (fun i m=>?_) j0 u) fun e=>E (A7f.1 (by rw[e];rfl));have e:=congrArg (fun z:Int=>(z:Rat)) (V i m);simp only[Oy,A3c]at e;unfold Fy;have I:Bb n (fun j=>A i j*(y j:Rat))*(D:Rat)=0:=by
  rw[<-Jp,Ah (g:=fun j=>(y j:Rat)*(enZ (Iu n Z) i j:Rat)) fun j t=>by rw[Afx m t,<-H i j m t];grind,e];rfl
 rcases A40.1 I with h|h
 ·exact h
 exact absurd h L
def Att {T:zC}{F:List Al}{lab:Int}{ss:zW}(hF:Da T F lab)(t:Bw T ss):∀ x∈Dx F ss F.length,SmW x.2:=fun x u=>by
 obtain⟨j,f,C,m,h⟩:=F9.1 u;unfold Jf at h;split at h
 ·cases h;exact I7
 rename_i h2;split at h
 ·cases h
 rename_i h0;cases h;exact (S3 hF t (A1k m) h2 (fun e=>h0 (.inl e))).1
section
variable {x:Rat}
def Azu {q:Rat}{z:Int}(h:q*((4320:Nat):Rat)=(z:Rat))(m:z.natAbs<=1000000000000):Th q:=by
 obtain⟨e,j⟩:=Wy h oV;exact⟨De.tx (a:=13) (b:=4) ⟨z,4320,h,oV,oV,oV⟩ oV oV oV oV,A74 e fV,oV⟩
theorem Az2 {x t:Rat}{N:Nat}(h:Dn 2 N x)(K:N<=28873454400)(H:∃ p:Int,t*30=p/\p.natAbs<=180):Th (x+t):=by
 obtain⟨z,j,I⟩:=h;obtain⟨p,F,J⟩:=H;refine Azu (z:=z*30+p*144) ?_ oV;have e:((12^2:Nat):Rat)=144:=jV
 have m:((4320:Nat):Rat)=4320:=jV
 have u:((30:Int):Rat)=30:=jV
 have E:((144:Int):Rat)=144:=jV
 rw[e]at j;rw[A7d,A3c,A3c,<-j,<-F,m,u,E];grind
def Abz {N:Nat}(h:Dn 2 N x)(m:N<=28873454400):De 75 18 x:=by
 obtain⟨z,e,j⟩:=h;exact⟨z,144,by rw[<-e],oV,A22 j (A22 m jV),jV⟩
section
variable {P:List Par} {C:CF} {q:Rat} {N k:Nat}
def Azc (m:In N C)(E:N<=28873454400)(H:∃ p:Int,q*30=p/\p.natAbs<=180):∀ r∈Eh C P q,∀ x∈r,Th x:=by
 intro r I x J;have u:=Rx (P:=P) (C:=C) (q:=q);obtain⟨i,hi,rfl⟩:=A3d.1 I;obtain⟨j,F,rfl⟩:=A3d.1 J;have h:i<P.length+1:=by have:=u.1;omega
 have t:j<P.length+1:=by have:=u.2 i h;rw[Ch hi]at this;omega
 have e:=N8 (P:=P) (C:=C) (q:=q) h t;unfold en at e;rw[Ch hi,Cu F]at e;rw[e];refine Az2 (m.c _ _) E ?_;split
 ·exact H
 exact⟨0,jV,fV⟩
def Bf9 (j:In N C)(m:N<=28873454400):∀ x∈Yz C P,Th x:=by
 intro x u;obtain⟨e,_,rfl⟩:=A1b.1 u;have h:=Az2 (t:=0) (j.r e) m ⟨0,jV,fV⟩;rwa[Rat.add_zero]at h
def Avn (j:In N C)(m:N<=28873454400)(H:CFV C)(E:C.c=(k:Rat))(F:k<100):Ai6 C k:=by
 refine⟨E,F,fun p=>Abz (j.c none (some p)) m,fun p=>?_⟩;by_cases h:C.t p=0
 ·rw[h];exact Abz (Dn.zero 2 0) oV
 have u:=(H.t p h).2.2;have e:Ay p.1 p.2=p:=by unfold Ay;rw[if_neg u]
 have:=Abz (j.c (some p.1) (some p.2)) m;rw[show As C (some p.1) (some p.2)=C.t (Ay p.1 p.2) from rfl,e]at this;exact this
def Fd.sixty (h:Fd q):∃ p:Int,q*30=p/\p.natAbs<=180:=by
 obtain⟨p,e,j⟩:=h.thirty;exact⟨p,e,oV⟩
def Api {F:List Al}{lab:Int}(L:List Dm):∀ {e:List Dm},Cf F lab (L++e)=(Cf F lab L).add (Cf F lab e):=by
 intro e;induction e using Ig with
 |h0 =>
  rw[A1x];show _=CF.mk ((Cf F lab L).c+0) (fun p=>(Cf F lab L).s p+0) (fun p=>(Cf F lab L).t p+0);simp only[Rat.add_zero]
 |h1 e y ih =>
  rw[<-A2k,Eb,Eb,ih];simp only[CF.add,Rat.add_assoc]
end
end
section
theorem Ax5 (x:Rat):0<=x*x:=by
 rcases A9g (a:=0) (b:=x) with h|h
 ·exact A4o h h
 have:=A4o (a:=-x) (b:=-x) (by grind) (by grind);grind
section
variable {P:List Par} {C:CF} {b d:Option Par->Rat} {q:Rat} {N D:Nat}
theorem Ats {z:Option Par->Rat}(u:0<q)(F:0<C.c)(hp:∀ z,0<=Dh z P C)(h:Dh z P C+q*Vn P z<=0):∀ e∈An P,z e=0:=by
 have K:=hp z;have H:=Arq P z;have L:=A4o (Bat u) H;have I:Vn P z=0:=by
  have:q*Vn P z=0:=by grind
  rcases A40.1 this with e|e
  ·rw[e]at u;exact absurd u jV
  exact e
 have m:∀ p∈P,z (some p)=0:=fun p hp=>by
  have:=Ww (fun q _=>Ax5 (z (some q))) I p hp;rcases A40.1 this with e|e<;>exact e
 have J:z none=0:=by
  have E:Dh z P C=0:=by grind
  have t:B9 (fun f=>z none*As C none f*z f) (An P)=z none*C.c*z none:=by
   rw[S6,Fv fun p hp=>by rw[m p hp,Bau]];show z none*C.c*z none+0=_;grind
  unfold Dh at E;rw[S6,t,Fv fun p hp=>by
   refine Fv fun f _=>?_;rw[m p hp];grind]at E
  have e:z none*C.c*z none=0:=by grind
  rcases A40.1 e with e|e
  ·rcases A40.1 e with e|e
   ·exact e
   rw[e]at F;exact absurd F jV
  exact e
 intro e j;unfold An at j;rcases A1g.1 j with rfl|j
 ·exact J
 obtain⟨p,hp,rfl⟩:=A1b.1 j;exact m p hp
end
end
section
section
variable {P:List Par} {C:CF} {q:Rat} {N:Nat}
def Auy:∀ i k,i<P.length+1->k<P.length+1->en (Eh C P q) i k=en (Eh C P q) k i:=fun i k hi j=>by
 rw[N8 hi j,N8 j hi,Ajc];by_cases e:i=k
 ·subst e;rfl
 rw[if_neg (fun h=>e h.1),if_neg (fun h=>e h.1.symm)]
theorem Axs (Q:0<q)(K:0<C.c)(hp:∀ z,0<=Dh z P C)(F:P.Nodup)(x:Nat->Rat)(R:∃ i,i<P.length+1/\x i≠0):0<frm (P.length+1) (en (Eh C P q)) x:=by
 obtain⟨z,u⟩:∃ z:Option Par->Rat,∀ j,j<P.length+1->z ((An P).getD j none)=x j:=⟨cfE (x 0) (P.zip ((List.range P.length).map fun j=>x (j+1))),fun j t=>by
  rw[Ar2 F mV j t];cases j with
  |zero=>rfl
  |succ j=>exact Aep (by rw[A7r,A1a,A31 oV];rfl)⟩
 have m:∀ i,i<P.length+1->Bb (P.length+1) (fun k=>en (Eh C P q) i k*x k)=B9 (fun f=>As C ((An P).getD i none) f*z f) (An P)+P7 q z ((An P).getD i none):=fun i hi=>by
  rw[Ah (g:=fun j=>As C ((An P).getD i none) ((An P).getD j none)*z ((An P).getD j none)+(if i=j/\0<i then q else 0)*x j) (fun j t=>by rw[N8 hi t,u j t];grind),F7,Agy,Qa _ (An P) none,Cp];have h:P7 q z ((An P).getD i none)=if i<P.length+1/\0<i then q*x i else 0:=by
   cases i with
   |zero=>rw[if_neg oV];rfl
   |succ j =>
    rw[if_pos ⟨hi,oV⟩,<-u _ hi];unfold An;rw[A6b,A02,A1a,A01 oV];rfl
  rw[h]
 have L:frm (P.length+1) (en (Eh C P q)) x=Dh z P C+q*Vn P z:=by
  unfold frm;have J:Bb (P.length+1) (fun i=>x i*Bb (P.length+1) fun k=>en (Eh C P q) i k*x k)=B9 (fun e=>z e*B9 (fun f=>As C e f*z f) (An P)+z e*P7 q z e) (An P):=by
   rw[Qa (fun e=>z e*B9 (fun f=>As C e f*z f) (An P)+z e*P7 q z e) (An P) none,Cp];exact Ah fun i hi=>by rw[m i hi,u i hi];grind
  rw[J,L7,S6 (f:=fun e=>z e*P7 q z e),Zz];have I:B9 (fun p=>z (some p)*P7 q z (some p)) P=q*Vn P z:=by unfold Vn;rw[<-Ji];exact Dt fun p _=>by unfold P7;grind
  rw[I];unfold As4 P7;grind
 rw[L];refine Rat.not_le.1 fun E=>?_;have h0:=Ats Q K hp E;obtain⟨i,hi,H⟩:=R;exact H (by rw[<-u i hi];exact h0 _ (Alq hi))
end
end
section
variable {A B:Nat->Nat->Rat}{n:Nat}
section
variable {P:List Par} {C H:CF} {q w:Rat} {X:Nat->Nat->Rat}
def Fg (P:List Par)(s:Par->Rat)(i:Nat):Rat:=Zg s ((An P).getD i none)
theorem Agi (o:Qi H):∀ i k,i<P.length+1->k<P.length+1->en (Eh (C.add (H.scale w)) P q) i k=Vc (en (Eh C P q)) (Fg P H.s) w i k:=fun i k hi e=>by
 unfold Vc Fg;rw[N8 hi e,N8 hi e,T1,o.cell];grind
def Mn:Ac1 (P.length+1) (en (Eh C P q)):=Auy
def Xx (j:P.Nodup)(t:0<C.c)(u:0<q)(e:∀ z,0<=Dh z P C):Xu (P.length+1) (en (Eh C P q)):=fun y h=>by
 have m:=Rx (P:=P) (C:=C) (q:=q);have:=Aum j t u e y (by rw[m.1];exact h);rwa[m.1]at this
def Am3 (h:Fe n X A)(e:∀ i k,i<n->k<n->B i k=A i k):Fe n X B:=fun i k hi m=>by
 rw[<-h i k hi m];exact Ah fun j t=>by rw[e j k t m]
theorem Anu (h:Xu n A)(e:∀ i k,i<n->k<n->B i k=A i k):Xu n B:=fun y hy=>h y fun i hi=>by
 rw[<-hy i hi];exact Ah fun j hj=>by rw[e i j hi hj]
def Apz (o:Qi H)(j:P.Nodup)(t:0<(C.add (H.scale w)).c)(E:0<q)(e:∀ z,0<=Dh z P (C.add (H.scale w)))(h:Fe (P.length+1) X (en (Eh C P q))) :
 byN (P.length+1) X (Fg P H.s) w≠0/\Fe (P.length+1) (Vd (P.length+1) X (Fg P H.s) w) (en (Eh (C.add (H.scale w)) P q)):=by
 have m:byN (P.length+1) X (Fg P H.s) w≠0:=Az9 (Tg Mn h) (Anu (Xx j t E e) fun i k hi u=>(Agi o i k hi u).symm);exact⟨m,Am3 (Aqh h m) (Agi o)⟩
end
end
def Ap3 {A:zM}{L K:Nat}(h0:0<L)(F:0<K)(P:L<10^K)(Q:nl L<=1000000000)(h:∀ r∈A,∀ q∈r,∃ z:Int,q*(L:Rat)=z/\z.natAbs<10^K):Y5 A L K where
 den:=fun r u q t=>by
  obtain⟨z,j,_⟩:=h r u q t;exact (Wy j h0).1
 pos:=h0
 nl:=Q
 dig:=fun D I J=>by
  have e:D<=L:=A48 h0 I;refine⟨Cz F (A22 e P),fun r u q t R=>Cz F ?_⟩;obtain⟨z,j,C⟩:=h r u q t;have m:=(Wy j h0).1;have E:=Aem m;rw[j]at E;have H:q.num*((L/q.den:Nat):Int)=z:=A7f.1 E;refine A22 ?_ C;rw[<-H,A26,A26,A1s,A1s];exact A2h _ (Nat.div_le_div_right e)
section
variable {n:Nat}
def Aks {n w:Nat}{X Y:zM}(m:Rec n w X)(F:Rec n w Y)(h:∀ i k,i<n->k<w->en X i k=en Y i k):X=Y:=by
 refine A5l (by rw[m.1,F.1]) fun i j u=>?_;have hi:i<n:=by rw[<-m.1];exact j
 have e:=m.2 i hi;have t:=F.2 i hi;rw[Ch j]at e;rw[Ch u]at t;refine A5l (by rw[e,t]) fun k E H=>?_;have:=h i k hi (by rw[<-e];exact E);unfold en at this;rwa[Ch j,Ch u,Cu E,Cu H]at this
section
variable {P:List Par} {C:CF} {q:Rat} {N:Nat} {X Y:zM}
structure H6 (P:List Par)(C:CF)(q:Rat)(X:zM):Prop where
 rc:Rec (P.length+1) (P.length+1) X
 inv:Fe (P.length+1) (en X) (en (Eh C P q))
def H6.uniq (h:H6 P C q X)(e:H6 P C q Y):X=Y:=Aks h.rc e.rc (Aps Mn h.inv e.inv)
theorem Az3 (m:In N C)(L:Fd q):∃ Z:Nat->Nat->Int,∀ i k,i<P.length+1->k<P.length+1->en (Eh C P q) i k*((4320:Nat):Rat)=Z i k/\(Z i k).natAbs<=N*30+12960:=by
 obtain⟨p,hp,u⟩:=L.thirty;have e:((12^2:Nat):Rat)=144:=jV;have F:((4320:Nat):Rat)=4320:=jV;have H:((30:Int):Rat)=30:=jV;have I:((144:Int):Rat)=144:=jV;have E:∀ i k,∃ z:Int,As C ((An P).getD i none) ((An P).getD k none)*144=z/\z.natAbs<=N:=fun i k=>by
  obtain⟨z,h,t⟩:=m.c ((An P).getD i none) ((An P).getD k none);rw[e]at h;exact⟨z,h,t⟩
 obtain⟨Z,J⟩:∃ Z:Nat->Nat->Int,∀ i k,As C ((An P).getD i none) ((An P).getD k none)*144=Z i k/\(Z i k).natAbs<=N:=⟨fun i k=>(E i k).choose,fun i k=>(E i k).choose_spec⟩;refine⟨fun i k=>Z i k*30+(if i=k/\0<i then p*144 else 0),fun i k hi K=>?_⟩;obtain⟨h,t⟩:=J i k;constructor
 ·rw[N8 hi K,A7d,A3c,<-h,F,H];by_cases j:i=k/\0<i
  ·rw[if_pos j,if_pos j,A3c,<-hp,I];grind
  rw[if_neg j,if_neg j,show ((0:Int):Rat)=0 from rfl];grind
 show (Z i k*30+if i=k/\0<i then p*144 else 0).natAbs<=_;split<;>omega
def Ay9:∀ n:Nat,n<=12->N5 n<=10^9:=fV
def H6.dens (h:H6 P C q X)(m:In N C)(I:N<=33000000000)(F:Fd q)(u:P.Nodup)(H:0<C.c)(e:∀ z,0<=Dh z P C) :
 ∃ L:Nat,0<L/\L<=N5 (P.length+1)*(10^12)^(P.length+1)/\∀ j k,j<P.length+1->k<P.length+1->∃ z:Int,en X j k*(L:Rat)=z/\z.natAbs<=4320*(N5 (P.length+1)*(10^12)^(P.length+1)):=by
 obtain⟨Z,E⟩:=Az3 (P:=P) m F;exact Aqr Mn h.inv (Xx u H F.pos e) oV (fun i k hi t=>(E i k hi t).1) (fun i k hi t=>A04 (E i k hi t).2 oV) oV
def Al4 (e:n<=12):N5 n*(10^12)^n<10^(12*n+10):=by
 have h:=Ay9 n e;rw[<-Nat.pow_mul,show 12*n+10=12*n+1+9 by omega,A4k (m:=12*n+1) (n:=9),A2d,A19];have j:0<10^(12*n):=A66 oV;have t:=A2h (10^(12*n)) h;have u:10^(12*n)*10^9<10^(12*n)*10*10^9:=by
  refine A6w ?_ fV;omega
 omega
def H6.de (h:H6 P C q X)(t:In N C)(J:N<=33000000000)(V:Fd q)(u:P.Nodup)(K:0<C.c)(m:∀ z,0<=Dh z P C)(H:P.length<=11):∀ j k,j<P.length+1->k<P.length+1->De 158 154 (en X j k):=fun j k R U=>by
 obtain⟨L,h0,I,E⟩:=h.dens t J V u K m;have Q:=Al4 (n:=P.length+1) oV;have hp:(10:Nat)^(12*(P.length+1)+10)<=10^154:=A10 oV oV;generalize N5 (P.length+1)*(10^12)^(P.length+1)=B at I Q E;obtain⟨z,F,W⟩:=E j k R U;generalize hT:(10:Nat)^154=T at hp;refine⟨z,L,F,h0,?_,by rw[hT];omega⟩;have e:(10:Nat)^158=10000*T:=by rw[<-hT,show 158=4+154 by rfl,A4k]
 rw[e];omega
def H6.light (h:H6 P C q X)(E:In N C)(T:N<=33000000000)(W:Fd q)(H:P.Nodup)(U:0<C.c)(t:∀ z,0<=Dh z P C)(h5:P.length<=5):∃ L,Y5 X L 86:=by
 obtain⟨L,h0,R,K⟩:=h.dens E T W H U t;have V:=Al4 (n:=P.length+1) oV;have hp:(10:Nat)^(12*(P.length+1)+10)<=10^82:=A10 oV oV;generalize N5 (P.length+1)*(10^12)^(P.length+1)=B at R V K;have e:(10:Nat)^86=10000*10^82:=by rw[show 86=4+82 by rfl,A4k]
 have u:L<10^82:=oV
 refine⟨L,Ap3 h0 oV (by rw[e];omega) (A04 (Bd (A04 (Cz (k:=82) oV u) oV)) oV) fun r Z x hx=>?_⟩;obtain⟨j,F,rfl⟩:=A3d.1 Z;obtain⟨k,J,rfl⟩:=A3d.1 hx;have m:j<P.length+1:=by rw[<-h.rc.1];exact F
 have I:=h.rc.2 j m;rw[Ch F]at I;obtain⟨z,Q,h2⟩:=K j k m (by rw[<-I];exact J);refine⟨z,?_,by rw[e];omega⟩;rw[<-Q];unfold en;rw[Ch F,Cu J]
end
end
section
variable {f:Nat->Nat->Rat}{i n:Nat}
def sqL (n:Nat)(f:Nat->Nat->Rat):zM:=(List.range n).map fun i=>(List.range n).map fun k=>f i k
def Aj7 (hi:i<n):gM (sqL n f) i=(List.range n).map fun k=>f i k:=by
 unfold sqL gM;rw[A02,A1a,A31 hi];rfl
def Rh (n:Nat)(f:Nat->Nat->Rat):Rec n n (sqL n f):=⟨by simp[sqL],fun i hi=>by rw[Aj7 hi];simp⟩
def N6 {i k:Nat}(hi:i<n)(e:k<n):en (sqL n f) i k=f i k:=by
 unfold en gR;rw[Aj7 hi,A02,A1a,A31 e];rfl
def Aik {X Y A:Nat->Nat->Rat}(h:Fe n X A)(e:∀ i k,i<n->k<n->Y i k=X i k):Fe n Y A:=fun i k hi t=>by
 rw[<-h i k hi t];exact Ah fun j m=>by rw[e i j hi m]
def Nj (n:Nat)(X:zM)(x:Nat->Rat)(w:Rat):zM:=sqL n (Vd n (en X) x w)
section
variable {P:List Par} {C H:CF} {q w:Rat} {X:zM}
def H6.step (h:H6 P C q X)(o:Qi H)(j:P.Nodup)(u:0<(C.add (H.scale w)).c)(F:0<q)(e:∀ z,0<=Dh z P (C.add (H.scale w))) :
 byN (P.length+1) (en X) (Fg P H.s) w≠0/\H6 P (C.add (H.scale w)) q (Nj (P.length+1) X (Fg P H.s) w):=by
 obtain⟨m,t⟩:=Apz o j u F e h.inv;exact⟨m,Rh _ _,Aik t fun i k hi E=>N6 hi E⟩
def H6.of_right (e:Rec (P.length+1) (P.length+1) X)(h:Fe (P.length+1) (en (Eh C P q)) (en X)):H6 P C q X:=⟨e,Apf Mn h⟩
theorem Ah5 (o:Qi H):(An P).map (Bh (C.add (H.scale w)))=(An P).map fun e=>Bh C e+w*Zg H.s e*H.s B7 :=
 A41 fun e _=>by rw[Bde,o.right];grind
end
end
section
structure H9 (P:List Par)(C:CF)(q:Rat)(X:zM)(b:zR)(s c:Rat):Prop where
 inv:H6 P C q X
 rt:b=(An P).map (Bh C)
 sq:s=C.t (Ay B7 B7)
 ct:c=C.c
section
variable {P:List Par} {C H G:CF} {q w v s c s' c':Rat} {X X':zM} {b b':zR}
def H9.uniq (h:H9 P C q X b s c)(e:H9 P C q X' b' s' c'):X=X'/\b=b'/\s=s'/\c=c' :=
 ⟨h.inv.uniq e.inv,by rw[h.rt,e.rt],by rw[h.sq,e.sq],by rw[h.ct,e.ct]⟩
def Pq (P:List Par)(b:zR)(x:Par->Rat)(w y:Rat):zR:=(List.range (P.length+1)).map fun i=>gR b i+w*Fg P x i*y
def Aqv (o:Qi H):Pq P ((An P).map (Bh C)) H.s w (H.s B7)=(An P).map (Bh (C.add (H.scale w))):=by
 rw[Ah5 o];refine A4g fun i=>?_;unfold Pq;rw[A1a,A1a];by_cases hi:i<P.length+1
 ·have e:i<(An P).length:=by rw[Cp];exact hi
  rw[A31 hi,A01 e];unfold Fg;have h:(An P).getD i none=(An P)[i]:=by rw[A02,A01 e];rfl
  have j:gR ((An P).map (Bh C)) i=Bh C (An P)[i]:=by
   unfold gR;rw[A02,A1a,A01 e];rfl
  show some (gR ((An P).map (Bh C)) i+w*Zg H.s ((An P).getD i none)*H.s B7)=_;rw[h,j];rfl
 rw[A1v (by rw[List.length_range];omega),A1v (by rw[Cp];omega)];rfl
theorem H9.step (h:H9 P C q X b s c)(o:Qi H)(j:P.Nodup)(E:0<(C.add (H.scale w)).c)(F:0<q)(e:∀ z,0<=Dh z P (C.add (H.scale w))) :
 byN (P.length+1) (en X) (Fg P H.s) w≠0/\H9 P (C.add (H.scale w)) q (Nj (P.length+1) X (Fg P H.s) w) (Pq P b H.s w (H.s B7)) (s+w*H.s B7*H.s B7) (c+w):=by
 obtain⟨m,u⟩:=h.inv.step o j E F e;refine⟨m,u,by rw[h.rt,Aqv o],?_,?_⟩
 ·show s+w*H.s B7*H.s B7=C.t (Ay B7 B7)+H.t (Ay B7 B7)*w;rw[h.sq,o.t];grind
 show c+w=C.c+H.c*w;rw[h.ct,o.c];grind
end
end
section
variable {F:List Al}{T:zC}{i n:Nat}{lab:Int}{ss:zW}{x:Rat}
def Ko (P:List Par)(x:Par->Rat):zR:=(An P).map (Zg x)
def Ad6 (P:List Par)(x:Par->Rat):(Ko P x).length=P.length+1:=by unfold Ko;rw[A03,Cp]
def V1 {P:List Par}{x:Par->Rat}(hi:i<P.length+1):gR (Ko P x) i=Fg P x i:=by
 have e:i<(An P).length:=by rw[Cp];exact hi
 unfold Ko Fg gR;rw[A02,A1a,A02,A01 e];rfl
def Avy {P:List Par}(hF:Da T F lab)(t:Bw T ss)(h:-1<=lab)(j:∀ l:Nat,lab=(l:Int)->l<ss.length)(m:G4 F lab ss=true)(hp:∀ p∈P,0<=p.1) :
 F5 P (Dx F ss F.length)=(Ko P (cfT F lab ss).s).map Ae:=by
 unfold F5 Ko An;rw[A2u,A2u,A9h,A9h]
 congr 1
 ·exact Sv.symm
 exact A41 fun p e=>by
  show Ae (Fo p _)=Ae ((cfT F lab ss).s p);rw[Acn hF t h j m (hp p e)]
def Abm {P:List Par}(hF:Da T F lab)(t:Bw T ss)(H:-1<=lab)(I:∀ l:Nat,lab=(l:Int)->l<ss.length)(J:G4 F lab ss=true)(hp:∀ p∈P,0<=p.1):∀ x∈Ko P (cfT F lab ss).s,SmW x:=fun x u=>by
 unfold Ko at u;obtain⟨e,h,rfl⟩:=A1b.1 u;unfold An at h;rcases A1g.1 h with rfl|h
 ·exact I7
 obtain⟨p,j,rfl⟩:=A1b.1 h;show SmW ((cfT F lab ss).s p);rw[Acn hF t H I J (hp p j)];by_cases m:p∈(Dx F ss F.length).map (·.1)
 ·obtain⟨y,E,rfl⟩:=A1b.1 m;rw[Kh (a:=y.1) (q:=y.2) (Nb F ss F.length (A08 _)) E];exact Att hF t y E
 rw[Na m];exact Afe
section
variable {P:List Par} {C:CF} {q:Rat} {N:Nat} {X:zM} {b:zR} {s c:Rat}
def H6.cell (h:H6 P C q X){r:zR}(E:r∈X)(H:x∈r):∃ j k,j<P.length+1/\k<P.length+1/\x=en X j k:=by
 obtain⟨j,m,rfl⟩:=A3d.1 E;obtain⟨k,u,rfl⟩:=A3d.1 H;have e:j<P.length+1:=by rw[<-h.rc.1];exact m
 have t:=h.rc.2 j e;rw[Ch m]at t;refine⟨j,k,e,by rw[<-t];exact u,?_⟩;unfold en;rw[Ch m,Cu u]
def H6.sqr (h:H6 P C q X)(e:P.length<=11)(hT:∀ r∈X,∀ x∈r,Tx x):Sq X:=by
 refine⟨by rw[h.rc.1];omega,fun r j=>?_,hT⟩;obtain⟨i,hi,rfl⟩:=A3d.1 j;have:=h.rc.2 i (by have:=h.rc.1;omega);rw[Ch hi]at this;rw[this,h.rc.1]
def H6.txs (h:H6 P C q X)(t:In N C)(E:N<=33000000000)(K:Fd q)(u:P.Nodup)(H:0<C.c)(e:∀ z,0<=Dh z P C)(m:P.length<=11):∀ r∈X,∀ x∈r,Tx x:=fun r L x Q=>by
 obtain⟨j,k,I,J,rfl⟩:=h.cell L Q;exact (h.de t E K u H e m j k I J).tx oV oV oV oV
def Air {N:Nat}(h:Dn 2 N x)(e:N<=33000000000):De 11 3 x:=h.de oV fV
def Av6 (h:In N C)(j:N<=33000000000):∀ x∈Yz C P,De 11 3 x:=fun x m=>by
 obtain⟨e,_,rfl⟩:=A1b.1 m;exact Air (h.r e) j
structure Ah3 (P:List Par)(X:zM)(b:zR)(s c:Rat):Prop where
 n:X.length=P.length+1
 bn:b.length=P.length+1
 sq:Sq X
 bt:∀ x∈b,Tx x
 st:Tx s
 ct:Tx c
def H9.ok (h:H9 P C q X b s c)(e:In N C)(t:N<=33000000000)(I:Fd q)(u:P.Nodup)(H:0<C.c)(m:∀ z,0<=Dh z P C)(j:P.length<=11):Ah3 P X b s c where
 n:=h.inv.rc.1
 bn:=by rw[h.rt,A03,Cp]
 sq:=h.inv.sqr j (h.inv.txs e t I u H m j)
 bt:=fun x E=>by
  rw[h.rt]at E;exact (Av6 (P:=P) e t x E).tx oV oV oV oV
 st:=by rw[h.sq];exact (Air e.l t).tx oV oV oV oV
 ct:=by rw[h.ct];exact (Air (e.c none none) t).tx oV oV oV oV
def Be7 (n:Nat)(X:zM)(b:zR):zR:=(List.range n).map fun i=>Fy n (en X) (gR b) i
def Pw (n:Nat)(X:zM)(b:zR):(Be7 n X b).length=n:=by simp[Be7]
def Bfo {X:zM}{b:zR}(hi:i<n):gR (Be7 n X b) i=Fy n (en X) (gR b) i:=by
 unfold Be7 gR;rw[A02,A1a,A31 hi];rfl
def Bgb {X A:Nat->Nat->Rat}{b y:Nat->Rat}(h:Fe n X A)(E:∀ i,i<n->Fy n A y i=b i)(hi:i<n):y i=Fy n X b i:=by
 have m:=Ag9 hi y;rw[<-m];have t:Fy n X b i=Bb n fun j=>X i j*Fy n A y j:=Ah fun j e=>by rw[E j e]
 rw[t];have u:=Aid (n:=n) (X:=X) (A:=A) i 0 (fun j _=>y j);show _=Bb n fun j=>X i j*Uj n A (fun j _=>y j) j 0;rw[u];exact Ah fun j e=>by rw[h i j hi e,O1]
def Bdv {f:Nat->Int}{M:Nat}:(∀ i,i<n->(f i).natAbs<=M)->∃ z:Int,(Bb n fun i=>(f i:Rat))=z/\z.natAbs<=n*M:=by
 induction n with
 |zero=>exact fun _=>⟨0,rfl,mV⟩
 |succ n ih =>
  intro h;obtain⟨z,e,j⟩:=ih fun i hi=>h i oV;refine⟨z+f n,by rw[Ds,e,A7d],?_⟩;have:=h n oV;rw[Nat.succ_mul];omega
theorem H9.mod (h:H9 P C q X b s c)(t:In N C)(U:N<=33000000000)(hq:Fd q)(Q:P.Nodup)(hc:0<C.c)(E:∀ z,0<=Dh z P C)(Z:P.length<=11):∀ i,i<P.length+1->De 172 157 (Fy (P.length+1) (en X) (gR b) i):=fun i hi=>by
 obtain⟨L,h0,hL,V⟩:=h.inv.dens t U hq Q hc E;have hf:=Al4 (n:=P.length+1) oV;have hp:(10:Nat)^(12*(P.length+1)+10)<=10^154:=A10 oV oV;generalize N5 (P.length+1)*(10^12)^(P.length+1)=B at hL hf V;have I:((12^2:Nat):Rat)=144:=jV;have K:∀ k,k<P.length+1->∃ y:Int,gR b k*144=y/\y.natAbs<=33000000000:=fun k j=>by
  have e:gR b k=Bh C ((An P).getD k none):=by
   rw[h.rt];exact A0b j
  obtain⟨y,m,H⟩:=t.r ((An P).getD k none);exact⟨y,by rw[e,<-m,I],A04 H U⟩
 obtain⟨f,u⟩:∃ f:Nat->Int,∀ k,k<P.length+1->(en X i k*gR b k)*((L:Rat)*144)=f k/\(f k).natAbs<=4320*B*33000000000:=by
  have:∀ k,∃ z:Int,k<P.length+1->(en X i k*gR b k)*((L:Rat)*144)=z/\z.natAbs<=4320*B*33000000000:=fun k=>by
   by_cases j:k<P.length+1
   ·obtain⟨z,m,H⟩:=V i k hi j;obtain⟨y,J,R⟩:=K k j;refine⟨z*y,fun _=>⟨?_,by rw[A26];exact A25 H R⟩⟩;rw[A3c,<-m,<-J];grind
   exact⟨0,fun h=>absurd h j⟩
  exact⟨fun k=>(this k).choose,fun k j=>(this k).choose_spec j⟩
 obtain⟨z,m,H⟩:=Bdv (n:=P.length+1) fun k j=>(u k j).2;have J:Fy (P.length+1) (en X) (gR b) i*((L:Rat)*144)=z:=by
  unfold Fy;rw[<-Jp,<-m];exact Ah fun k j=>(u k j).1
 have R:(P.length+1)*(4320*B*33000000000)<=12*(4320*B*33000000000):=A13 _ oV;generalize hT:(10:Nat)^154=T at hp;have W:(10:Nat)^172=10^18*T:=by rw[<-hT,show 172=18+154 by rfl,A4k]
 have Y:(10:Nat)^157=1000*T:=by rw[<-hT,show 157=3+154 by rfl,A4k]
 refine⟨z,L*144,?_,oV,by rw[W];omega,by rw[Y];omega⟩;rw[<-J,A7e];rfl
end
end
def Xs {A:zM}(e:Sq A):Rec A.length A.length A:=⟨rfl,fun i hi=>by rw[Ch hi];exact e.len hi⟩
def Th.tq {q:Rat}(h:Th q):Tq q:=⟨h.tx,h.den,h.num⟩
def Af.split {m0 m:PH}{v:Value}{t:TypeId}{sz:Nat}{es:zV}(h:Af m0 m v t sz es):∃ sm,m=m0.or sm/\Hp m0 sm/\Af PH.mt sm v t sz es:=by
 obtain⟨C,h⟩:=h;rcases h with ⟨j,u,rfl⟩|⟨g,cap,rest,j,rfl,u,E,F,H⟩
 ·refine⟨PH.mt,?_,fun _=>.inr rfl,C,.inl ⟨j,u,rfl⟩⟩
  funext g;unfold PH.or;cases m g<;>rfl
 refine⟨PH.mt.upd g _,?_,fun k=>?_,C,.inr ⟨g,cap,rest,rfl,rfl,u,E,F,H⟩⟩
 ·funext k
  unfold PH.or;by_cases e:k=g
  ·subst e;rw[j,Ab,Ab]
  rw[Ad _ _ e,Ad _ _ e];cases m0 k<;>rfl
 by_cases e:k=g
 ·subst e;exact .inl j
 exact .inr (Ad _ _ e)
section
variable {a i m:Nat}
def Bc4 {F:List Al}{lab:Int}:∀ {L:List Dm},(Cf F lab L).c=B9 (fun y=>(cfT F lab y.1).c*(y.2.1:Rat)) L/\(∀ p,(Cf F lab L).s p=B9 (fun y=>(cfT F lab y.1).s p*(y.2.1:Rat)) L)/\∀ p,(Cf F lab L).t p=B9 (fun y=>(cfT F lab y.1).t p*(y.2.1:Rat)) L:=by
 intro L;induction L using Ig with
 |h0=>exact⟨rfl,fun _=>rfl,fun _=>rfl⟩
 |h1 L y ih =>
  obtain⟨e,h,j⟩:=ih;rw[Eb];refine⟨?_,fun p=>?_,fun p=>?_⟩<;>rw[Ang]
  ·rw[<-e];rfl
  ·rw[<-h];rfl
  rw[<-j];rfl
def Bc8 {q:Rat}(h:0<q):q≠0:=fun e=>by rw[e]at h;exact absurd h jV
theorem Bcx {α:Type}{f:α->Rat}{x:α}:∀ {l:List α},(∀ y∈l,0<=f y)->x∈l->0<f x->0<B9 f l
 |y::l,h,e,hp=>by
  have t:=h y (A4l ..);have C:=Acs fun y j=>h y (A2f _ j);show 0<f y+B9 f l;rcases A1g.1 e with rfl|e
  ·grind
  have:=Bcx (fun y j=>h y (A2f _ j)) e hp;grind
def Bc7 {α:Type}{f:α->Rat}{l:List α}(h:B9 f l≠0):∃ x∈l,f x≠0:=A3m fun j=>h (Fv fun x t=>A3m fun e=>j ⟨x,t,e⟩)
section
variable {u:PH} {T:zC} {R:List Br} {F:List Al} {lab:Int} {ss:zW} {L:List Dm} {P:List Par}
def A00 (ok:Bl u T R F lab)(I:Bw T ss)(J:G4 F lab ss=true)(hi:F[i]?=some (a,2,m))(c:zB):(cfT F lab ss).s ((i:Int),c)=if ss.getD a []=c then 1 else 0:=by
 have H:=I.len;rw[Acn ok.feat I ok.l1 (fun l e=>by have:=Iz ok l e;omega) J (by show (0:Int)<=(i:Int);omega)];have C:=(A05.1 hi).1;by_cases e:ss.getD a []=c
 ·rw[if_pos e];refine Kh (Nb F ss F.length (A08 _)) (F9.2 ⟨i,_,C,hi,?_⟩);unfold Jf;rw[if_pos rfl,e]
 rw[if_neg e];refine Na fun K=>?_;obtain⟨x,Q,h⟩:=A1b.1 K;obtain⟨k,f,_,E,j⟩:=F9.1 Q;have t:=Ow j;rw[h]at t;obtain rfl:k=i:=by have t:(i:Int)=(k:Int):=t;omega
 rw[hi]at E;cases E;unfold Jf at j;rw[if_pos rfl]at j;cases j;cases h;exact e rfl
def Awu (ok:Bl u T R F lab)(t:Bw T ss)(C:G4 F lab ss=false):Ag0 (cfT F lab ss):=by
 have j:=t.len;rcases Pf ok.feat t ok.l1 (fun l e=>by have:=Iz ok l e;omega) with ⟨h,_⟩|⟨_,h⟩
 ·rw[C]at h;cases h
 exact h
def Apr (ok:Bl u T R F lab)(t:Bw T ss)(C:G4 F lab ss=true):Qi (cfT F lab ss):=by
 have j:=t.len;rcases Pf ok.feat t ok.l1 (fun l e=>by have:=Iz ok l e;omega) with ⟨_,h⟩|⟨h,_⟩
 ·exact h
 rw[C]at h;cases h
theorem Be9 (ok:Bl u T R F lab)(hT:∀ y∈L,Bw T y.1/\1<=y.2.1)(hi:F[i]?=some (a,2,m))(c:zB):(Cf F lab L).s ((i:Int),c)≠0↔∃ y∈L,G4 F lab y.1=true/\y.1.getD a []=c:=by
 rw[Bc4.2.1];have E:∀ y∈L,(0:Rat)<(y.2.1:Rat):=fun y j=>by
  have:((0:Nat):Rat)<(y.2.1:Rat):=Rat.natCast_lt_natCast.2 (hT y j).2;exact this
 constructor
 ·intro h;obtain⟨y,j,C⟩:=Bc7 h;refine⟨y,j,?_⟩;cases hc:G4 F lab y.1 with
  |false=>exact absurd (by rw[(Awu ok (hT y j).1 hc).s,Ban]) C
  |true =>
   refine⟨rfl,A3m fun e=>C ?_⟩;rw[A00 ok (hT y j).1 hc hi,if_neg e,Ban]
 rintro⟨y,j,hc,e⟩;have:0<B9 (fun y:Dm=>(cfT F lab y.1).s ((i:Int),c)*(y.2.1:Rat)) L:=by
  refine Bcx (fun z t=>?_) j ?_
  ·cases hz':G4 F lab z.1 with
   |false=>rw[(Awu ok (hT z t).1 hz').s,Ban];exact Bcq
   |true =>
    rw[A00 ok (hT z t).1 hz' hi];have:=E z t;split<;>grind
  rw[A00 ok (hT y j).1 hc hi,if_pos e,Rat.one_mul];exact E y j
 exact Bc8 this
end
end
section
variable {H:CF}{X:zM}{b:zR}{c s:Rat}
section
variable {u:PH} {T:zC} {R:List Br} {F:List Al} {lab:Int} {L:List Dm} {xv cv:Value} {P:List Par} {K:Nat}
def Atw (ok:Bl u T R F lab)(J:T.length<=8)(hT:∀ y∈L,Bw T y.1/\y.2.1<=7)(h:L.length<=10):CFD 16 (10^75) (Cf F lab L):=by
 obtain⟨d,_⟩:=Alz ok hT;refine d.to oV ?_;have e:12^(16-2*T.length)=144^(8-T.length):=by
  rw[show 16-2*T.length=2*(8-T.length) by omega,Nat.pow_mul]
 have m:144^(8-T.length)<=1374926400^(8-T.length):=Nat.pow_le_pow_left oV _;have t:1374926400^T.length*1374926400^(8-T.length)=1374926400^8:=by rw[<-A4k];congr 1;omega
 have E:1374926400^8*70<=10^75:=jV
 rw[e];have j:L.length*(1374926400^T.length*7)*144^(8-T.length)<=10*(1374926400^T.length*7)*1374926400^(8-T.length):=A25 (A13 _ h) m;have I:10*(1374926400^T.length*7)*1374926400^(8-T.length)=(1374926400^T.length*1374926400^(8-T.length))*70:=by
  generalize 1374926400^T.length=a;generalize 1374926400^(8-T.length)=b;rw[A19 10,A17 a 7 10,A17 a b 70,A17 a (7*10) b,A19 (7*10) b]
 rw[I,t]at j;exact A04 j E
def Ajm (U:H5 u xv T R F lab)(ok:Bl u T R F lab)(t:T.length<=8)(hT:∀ y∈L,Bw T y.1/\y.2.1<=7)(h:L.length<=10)(I:No u cv (Cf F lab L) K)(J:K<=10000)(Q:Nn F (Cf F lab L) P)(m:P.length<=24)(e:0<=lab) :
 ∃ k,Te u xv cv T R F lab (Cf F lab L) K k P:=by
 obtain⟨k,V,W⟩:=Arb ok.feat ok.l1 (Iz ok) hT;obtain⟨Y,E⟩:=Aee ok t hT oV;have j:=L0 ok ok.l1 (Iz ok) hT;exact⟨k,U,ok,I,Y,E,J,Avj,Avn j oV E V oV,Q,m,e,Atw ok t hT h⟩
end
section
variable {u:PH} {v cv:Value} {T:zC} {R:List Br} {F:List Al} {lab:Int} {C:CF} {K k:Nat} {P:List Par}
def Te.w (h:Te u v cv T R F lab C K k P):Aam u v cv T R F lab C K k :=
 ⟨h.sch,h.ok,h.cof,h.sC,h.vC,h.K,h.bel,h.mom,fun j e=>by rw[<-h.prm.eq e];exact h.p24,h.lab0⟩
structure Ug (P:List Par)(C:CF):Prop where
 cd:∃ N,N<=33000000000/\In N C
 pos:0<C.c
 psd:∀ z,0<=Dh z P C
structure Td (F:List Al)(P:List Par)(q:Rat):Prop where
 srt:Hb Bk P
 le:P.length<=11
 par:∀ p∈P,0<=p.1
 pen:Fd q
def H9.okF {q:Rat}(h:H9 P C q X b s c)(hp:Td F P q)(e:Ug P C):Ah3 P X b s c:=by
 obtain⟨N,m,j⟩:=e.cd;exact h.ok j m hp.pen (hp.srt.nodup Et) e.pos e.psd hp.le
def H9.light {q:Rat}{X:zM}{b:zR}{s c:Rat}(h:H9 P C q X b s c)(hp:Td F P q)(e:Ug P C)(m:P.length<=5):∃ L,Y5 X L 86:=by
 obtain⟨N,t,j⟩:=e.cd;exact h.inv.light j t hp.pen (hp.srt.nodup Et) e.pos e.psd m
def H9.stepF {w q:Rat}(h:H9 P C q X b s c)(hp:Td F P q)(o:Qi H)(e:Ug P (C.add (H.scale w))) :
 byN (P.length+1) (en X) (Fg P H.s) w≠0/\H9 P (C.add (H.scale w)) q (Nj (P.length+1) X (Fg P H.s) w) (Pq P b H.s w (H.s B7)) (s+w*H.s B7*H.s B7) (c+w) :=
 h.step o (hp.srt.nodup Et) e.pos hp.pen.pos e.psd
def Axc:Value:=.agg #[zN,zN,zN,zE,zE,zE]
def Ma (u:PH)(v:Value)(P:List Par)(X:zM)(b:zR)(s c q:Rat):Prop :=
 ∃ (pa:zP) (pc:Nat) (xa:zP) (xc:Nat) (ra:zP) (rc:Nat),v=.agg #[.slice pa P.length pc,.slice xa X.length xc,.slice ra b.length rc,zS (Ae s),zS (Ae c),zS (Ae q)] /\
  Ac u (.slice pa P.length pc) 2 (P.map Ap)/\C7 u (.slice xa X.length xc) (Cv X)/\Cj u (.slice ra b.length rc) (b.map Ae)
def Ma.mono {u m:PH}{v:Value}{X:zM}{b:zR}{s c q:Rat}(h:Ma u v P X b s c q)(j:PH.le u m):Ma m v P X b s c q:=by
 obtain⟨pa,pc,xa,xc,ra,rc,e,t,E,I⟩:=h;exact⟨pa,pc,xa,xc,ra,rc,e,t.mono j,E.mono j,Ac.mono I j⟩
end
section
variable {u:PH} {T:zC} {R:List Br} {F:List Al} {lab:Int} {L:List Dm} {C:CF} {P:List Par} {q:Rat}
theorem Vx (ok:Bl u T R F lab)(hT:∀ y∈L,Bw T y.1/\y.2.1<=7)(h13:L.length<=13)(hc:0<(Cf F lab L).c):Ug P (Cf F lab L) :=
 ⟨⟨_,oV,L0 ok ok.l1 (Iz ok) hT⟩,hc,fun z=>Af3 ok.feat ok.l1 (Iz ok) z P fun y hy=>(hT y hy).1⟩
def Al6 (h:Nn F C P)(j:Fd q)(e:P.length<=11):Td F P q :=
 ⟨h.1,e,fun p hp=>by
  rcases (h.2 p).1 hp with ⟨i,f,rfl,_⟩|⟨_,i,f,m,_⟩
  ·show 0<=(i:Int);omega
  omega,j⟩
theorem Als (h:Ag0 H)(w:Rat):C.add (H.scale w)=C:=by
 cases C;simp only[CF.add,CF.scale,h.c]
 congr 1
 ·grind
 ·funext p;rw[h.s];grind
 funext p;rw[h.t];grind
end
end
section
variable {cs:Array Value}{k n:Nat}{ts:zW}{v:Value}
def K6 (ts:zW)(n k:Nat):zW:=ts.take k++List.replicate (n-k) []
def Aop {t:zB}(j:ts.length=n)(e:ts[k]?=some t):(K6 ts n k).set k t=K6 ts n (k+1):=by
 obtain⟨h,_⟩:=A05.1 e;unfold K6;rw[A4t _ _ (by rw[A1e];omega),A1e,show k-min k ts.length=0 by omega,show n-k=(n-(k+1))+1 by omega,A68,A2p,A1n,e,A2k];rfl
def An1 (h:ts.length=n)(e:k<=n):(K6 ts n k).length=n:=by unfold K6;rw[A1d,A1e,A3k];omega
def Acd {u:PH}{f n:Nat}{cap:zV}{X:zM}(ht:Hx u)(Q:Rec n n X)(hn:n<=1000)(hT:∀ r∈X,∀ x∈r,Tx x)(T:∀ args w,(callFunc f args).run prog w=.ok (.enter f args) w)
 (hf:∀ i k,i<n->k<n->∀ Z,PH.le u Z->zF f (zI i::zI k::cap) Z fun r ag=>Bg ag r (en X i k)) :
 zF 123 [zI n,zI n,.func (.func f) #[] cap.toArray] u fun r Z=>∃ lv,r=.tuple #[lv,zO]/\C7 Z lv (Cv X):=by
 have ae:∀ i k,i<n->k<n->Tx (en X i k):=fun i k hi hk=>by
  have K:i<X.length:=by rw[Q.1];exact hi
  have h2:=Q.2 i hi;rw[Ch K]at h2;have h3:k<X[i].length:=oV;unfold en;rw[Ch K,Cu h3];exact hT _ (A09 K) _ (A09 h3)
 have t:∀ i,i<n->((gM X i).map Ae).length=n:=fun i hi=>by rw[A03];exact Q.2 i hi
 have a1:∀ i k,i<n->k<n->((gM X i).map Ae)[k]?=some (Ae (en X i k)):=fun i k hi hk=>by
  have h3:k<(gM X i).length:=by rw[Q.2 i hi];exact hk
  rw[A1a,A01 h3];unfold en;rw[Cu h3];rfl
 refine Fn0.o func123<|G.make 46 1 24 zN n kV rfl rfl oV oV oV ?_;rintro v1 m1 L ⟨aO,rfl⟩;obtain⟨go,rfl,_⟩:=L.some';refine G.l (ι:=Nat×zV) (fun i=>[(1,iV n),(2,.v (.func (.func f) #[] cap.toArray)),(8,sV (zA go) n n),(16,iV n),(17,iV i.1)]) (fun _=>[])
  (fun i Z m'=>i.1<=n/\i.2.length=n/\(∀ j,j<i.1->∃ a c,i.2[j]?=some (.slice a n c)/\Cj Z (.slice a n c) ((gM X j).map Ae))/\Bag m' [⟨zG go n n,46,1,i.2⟩]) (fun i=>n-i.1) (0,List.replicate n zN)
  ⟨oV,mV,fun j hj=>absurd hj (Nat.not_lt_zero _),PH.mt,L,trivial⟩ ?_
 clear L;rintro J ⟨i,es⟩ hJ u2 m2 l2 ⟨hi,U,V,hA⟩;simp only at hi U V hA hJ;by_cases h:i<n
 ·refine G.lT i n<|G.make 34 1 16 zE n kV rfl rfl oV oV oV ?_;rintro v3 m3 P ⟨aR,rfl⟩;obtain⟨m,rfl,_⟩:=P.some';have a0:Bag m3 [⟨zG m n n,34,1,Cc (K6 ((gM X i).map Ae) n 0)⟩,⟨zG go n n,46,1,es⟩]:=⟨m2,by
   have:Cc (K6 ((gM X i).map Ae) n 0)=List.replicate n zE:=by unfold K6 Cc;simp
   rw[this];exact P,hA⟩
  obtain⟨mo,H,E⟩:=a0.focus 1 rfl;refine G.a go 0 n n i 1 h<|G.storeA 1 mo es go n n i (zG m n n) kV H oV rfl rfl ?_;intro m4 a8;have F:=E ⟨zG go n n,46,1,es.set i (zG m n n)⟩ m4 a8;rw[A2j,A2p]at F;have a5:(es.set i (zG m n n))[i]?=some (zG m n n):=by rw[A1z,if_pos rfl,if_pos oV]
  have a4:∀ {m':PH} {rs:zV},Bag m' [⟨zG m n n,34,1,rs⟩,⟨zG go n n,46,1,es.set i (zG m n n)⟩]->ElP m' go (0+i*1) (zG m n n):=fun hb=>hb.el 1 rfl rfl a5;refine G.O n n h (a4 F) ?_;clear E H a8 a0 P;refine G.l (ι:=Nat) (fun k=>[(1,iV n),(2,.v (.func (.func f) #[] cap.toArray)),(8,sV (zA go) n n),(9,iV i),(16,iV n),(17,iV i),(29,iV n),(30,iV k)]) (fun _=>[])
   (fun k Z m'=>k<=n/\Bag m' [⟨zG m n n,34,1,Cc (K6 ((gM X i).map Ae) n k)⟩,⟨zG go n n,46,1,es.set i (zG m n n)⟩]) (fun k=>n-k) 0 ⟨oV,F⟩ ?_
  clear F;rintro J2 k a9 u5 m5 l5 ⟨hk,R⟩;by_cases C:k<n
  ·refine G.lT k n<|G.call0 f (zI i::zI k::cap) kV T (hf i k h C u5 (l2.trans l5)) ?_;intro v6 u6 l6 k6;obtain⟨b6,a6,n6,c6,ai,ah,al,aj,rfl⟩:=k6.opn;refine G.c call71 (Uf (ht.mono ((l2.trans l5).trans l6)) k6 (ae i k h C)) ?_;rintro v7 u7 l7 rfl;refine G.nF 0 0<|G.O n n h (a4 R)<|G.a m 0 n n k 1 C ?_;obtain⟨mr,I,Y⟩:=R.focus 0 rfl;refine G.storeA 1 mr _ m n n k (zS (Ae (en X i k))) kV I (by rw[Cb,An1 (t i h) hk];exact C) rfl rfl ?_;intro m8 af;have e8:(Cc (K6 ((gM X i).map Ae) n k)).set k (zS (Ae (en X i k)))=Cc (K6 ((gM X i).map Ae) n (k+1)):=by
    rw[<-Aop (t i h) (a1 i k h C)];unfold Cc;rw[A2g]
   have ac:=Y ⟨zG m n n,34,1,Cc (K6 ((gM X i).map Ae) n (k+1))⟩ m8 (by rw[<-e8];exact af);exact G.i k<|G.b (a9 (k+1) _ _ _ cV ((l5.trans l6).trans l7) ⟨oV,ac⟩ oV)
  obtain rfl:k=n:=oV;refine G.lF k k ?_;obtain⟨mo,I,mq,H,ak⟩:=R;have e9:K6 ((gM X i).map Ae) k k=(gM X i).map Ae:=by unfold K6;rw[A4i,A42,A1x,A1j (by rw[t i h];omega)]
  rw[e9]at I;refine G.give mo _ _ kV I (fun _=>.inl rfl) ?_;intro u6 l6 ab;refine G.i i<|G.b (hJ (i+1,es.set i (zG m k k)) _ _ _ cV ((l2.trans l5).trans l6) ⟨dV,by dsimp only;rw[A21];exact U,?_,mq,H,trivial⟩ dV);intro j hj;dsimp only;by_cases a2:i=j
  ·subst a2;exact⟨_,_,a5,ab⟩
  obtain⟨a,c,K,h2⟩:=V j oV;exact⟨a,c,by rw[A1z,if_neg a2];exact K,Ac.mono h2 (l5.trans l6)⟩
 obtain rfl:i=n:=oV;refine G.lF i i ?_;obtain⟨mb,hA,_⟩:=hA;refine G.give mb es _ kV hA (fun _=>.inl rfl) ?_;intro u3 l3 aa;refine G.drop PH.mt kV (PH.mt_le _)<|G.r (.tuple #[zG go i i,zO]) ⟨rfl,_,rfl,es,aa,by rw[U,A3,Q.1],fun j r hj=>?_⟩;obtain⟨a3,e⟩:=A05.1 hj;have W:j<i:=by rw[A3,Q.1]at a3;exact a3
 obtain⟨a,c,K,h2⟩:=V j W;have hr:r=(gM X j).map Ae:=by
  rw[<-e];have ad:j<X.length:=by rw[Q.1];exact W
  simp only[Cv,A3v];rw[Ch ad]
 have a7:r.length=i:=by rw[hr,t j W]
 exact⟨a,c,by rw[a7];exact K,by rw[a7,hr];exact Ac.mono h2 l3⟩
def Po {u:PH}{g off:Nat}{t:TypeId}{fr:Nat×Nat}(h:u g=some (.cells cs t fr))(e:∀ i y,v.cells[i]?=some y->cs[off+i]?=some y):ElP u g off v:=fun i y j=>⟨cs,t,fr,h,e i y j⟩
def G2 (h:v.cells = #[v])(j:cs[k]?=some v):∀ i y,v.cells[i]?=some y->cs[k+i]?=some y:=fun i y e=>by
 rw[h]at e
 match i,e with
 |0,e=>simp at e;subst e;exact j
def Awo {u:PH}{C Z W n c0 h pn pc on oc i k D:Nat}{I a0 pa ao:Option Addr}{fv H:N3}{a5:Bool}{S:List (List Int)}{z:Int}
 (hr:u C=some (.cells #[.slice I n h,.slice pa pn pc,.bool fv.b,.slice fv.a fv.n fv.c,.bool a5] 192 (0,0))) (ha:u Z=some (.cells #[.slice a0 n c0] 45 (0,0)))
 (hg:u W=some (.cells #[.bool H.b,.slice H.a H.n H.c,.slice ao on oc] 187 (0,0))) (hS:Nl u (.slice I n h) S) (P:E8 n (n+n) S) (hV:Bi u (nv fv) z) (hD:Bi u (nv H) (D:Int))
 (h1:nl (enZ S i (n+k)).natAbs<=1000000000) (h2:nl z.natAbs<=1000000000) (h3:nl D<=2) (hz:z≠0) (hi:i<n) (hk:k<n) (hn:n<=1000) :
 Fn0 prog 124 [.int .i64 i,.int .i64 k,.pointer (some ⟨C,0,none⟩),.pointer (some ⟨Z,0,none⟩),.pointer (some ⟨W,0,none⟩)] u fun r u'=>Bg u' r (Rat.divInt (enZ S i (n+k)*(D:Int)) z):=by
 have E:i<S.length:=by rw[P.1];exact hi
 have a3:S[i]?=some S[i]:=A01 E;have a2:S[i].length=n+n:=by have:=P.2 i hi;rwa[Xj E]at this
 obtain⟨m,F,a7,rfl,L,t⟩:=LP.at hS a3;obtain⟨a6,X,rfl⟩:=LP.opn t;rw[a2]at t L;obtain⟨J,V,a8,rfl,a1,K⟩:=LP.at t (j:=n+k) (x:=enZ S i (n+k)) (by
  unfold enZ;rw[Xj E,Ol oV];exact A01 oV)
 obtain⟨Y,rfl⟩:=K.opN;have R:nl ((D:Int)).natAbs<=2:=h3;refine Fn0.o func124<|G.f 192 C 0 0 0<|G.lU none C (0+0) (.slice (some ⟨m,F,none⟩) n h) (Po hr (G2 rfl rfl))<|G.a m F n h i 1 hi<|G.lU none m (F+i*1) _ L<|G.lU none Z 0 (.slice a0 n c0) (Po ha (G2 rfl rfl))<|G.p n k (n+k:Nat)<|G.a J V (n+n) X (n+k) 2 oV<|G.lU (some 2) J (V+(n+k)*2) (nv Y) a1<|G.f 187 W 0 0 0<|G.lU (some 2) W (0+0) (nv H) (Po hg fun j y e=>by
  match j,e with
  |0,e=>simpa[nv,Value.cells] using e
  |1,e=>simpa[nv,Value.cells] using e) ?_
 refine G.f 192 C 0 2 2<|G.lU (some 2) C (0+2) (nv fv) ((Po hr fun j y e=>by
  match j,e with
  |0,e=>simpa[nv,Value.cells] using e
  |1,e=>simpa[nv,Value.cells] using e:ElP u C (0+2) (nv fv))) ?_
 refine G.c call126 (Ea K hD (A04 h1 oV) (A04 R oV)) ?_;intro ad ab a4 T;obtain⟨a9,rfl⟩:=T.opN;have Q:nl (enZ S i (n+k)*(D:Int)).natAbs<=2*1000000000:=Bx h1 (A04 R oV);refine G.c call125 (Q6 T (hV.mono a4) (A04 Q oV) (A04 h2 oV) hz) ?_;intro ae ac aa U;obtain⟨x1,x2,x3,x4,x5,x6,x7,x8,rfl⟩:=U.opn;exact G.r (.agg #[.bool x1,.slice x2 x3 x4,.bool x5,.slice x6 x7 x8]) ⟨rfl,U⟩
end
section
variable {A:zM}{D i:Nat}
def P3 (k i:Nat):List Int:=(List.range k).map fun t=>if i=t then 1 else 0
def Ahb (k i:Nat):P3 (k+1) i=P3 k i++[if i=k then 1 else 0]:=by unfold P3;rw[A5d,A1i];rfl
def Oq (D:Nat)(A:zM)(i k:Nat):Int:=gZ (Bp D (gM A i)) k
def Axn {l:List Int}{n:Nat}(h:l.length=n):(List.range n).map (gZ l)=l:=by
 refine A5l (by simp[h]) fun i j e=>?_;rw[A3v,List.getElem_range,Ol e]
def Aud (h:Sq A)(D:Nat)(hi:i<A.length):gMZ (Iu A.length (Oq D A)) i=Bp D (gM A i)++P3 A.length i:=by
 rw[Sm hi,List.range_add,A1i]
 congr 1
 ·rw[A41 (g:=gZ (Bp D (gM A i))) fun k e=>by rw[if_pos (A6q.1 e)];rfl];exact Axn (by unfold Bp;rw[A03,Ch hi,h.len hi])
 unfold P3;rw[A9h];refine A41 fun k e=>?_;show (if A.length+k<A.length then _ else _)=_;rw[if_neg oV,show A.length+k-A.length=k by omega]
def Ak4 (m:Sq A)(h:∀ r∈A,∀ q∈r,q.den ∣ D){i k:Nat}(hi:i<A.length)(j:k<A.length):en A i k*(D:Rat)=Oq D A i k:=by
 have e:k<(gM A i).length:=by rw[Ch hi,m.len hi];exact j
 unfold Oq;rw[Wf e];unfold en;exact (Aem (h _ (Abw hi) _ (Xr e))).symm
def Avg (E:Sq A)(hT:∀ r∈A,∀ q∈r,Th q)(u:D ∣ 21600):SzZ (Iu A.length (Oq D A)) 2:=fun i j=>by
 refine nlM ?_;have key:∀ a b,a<A.length->b<A.length->(Oq D A a b).natAbs<=3000000000000*21600:=fun a b h C=>by
  have m:b<(gM A a).length:=by rw[Ch h,E.len h];exact C
  unfold Oq;rw[Wf m,A26,A1s];have t:D/(gR (gM A a) b).den<=21600:=A04 (A3u _ _) (A48 oV u);exact A25 (hT _ (Abw h) _ (Xr m)).num t
 by_cases hi:i<A.length
 ·have:=Ald (n:=A.length) (Z:=Oq D A) (M:=3000000000000*21600) key oV i hi j;omega
 have:enZ (Iu A.length (Oq D A)) i j=0:=by
  unfold enZ;have e:gMZ (Iu A.length (Oq D A)) i = []:=by unfold gMZ;rw[A02,A1v (by simp[Iu];omega)];rfl
  rw[e];rfl
 rw[this];omega
def Auu (n D:Nat)(s:BZ):zM:=sqL n fun j k=>Rat.divInt (enZ s.X j (n+k)*(D:Int)) s.v
def Atl {u:PH}{v:Value}{A:List (List Rat)}(ht:Hx u)(h:C7 u v (Cv A))(hs:Sq A)(h0:0<A.length)(hT:∀ r∈A,∀ q∈r,Th q)(hk:Xu A.length (en A))
 (hX:∀ X,Rec A.length A.length X->Fe A.length (en A) (en X)->∀ r∈X,∀ x∈r,Tx x) :
 Fn0 prog 53 [v] u fun r u'=>∃ X lv,r=.tuple #[lv,.int .i64 0]/\Rec A.length A.length X/\Fe A.length (en A) (en X)/\C7 u' lv (Cv X):=by
 have bz:=fun (v:Value) (hv:C7 u v (Cv A))=>Awb hv hs;have b4:∀ r∈A,∀ q∈r,Tx q:=fun r hr q hq=>(hT r hr q hq).tx;have W:=Asd hT;have a4:=hs.le;have az:∀ r∈A,r.length<=12:=fun r hr=>by rw[hs.row r hr];exact a4
 obtain⟨a0,c0,rfl⟩:=h.opn;rw[A3]at h⊢;refine Fn0.o func53<|G.c call118 (bz _ h) ?_;rintro v1 u1 l1 rfl;refine G.nF 0 0<|G.c call119 (Aie (N:=12) (K:=17) (ht.mono l1) (h.mono l1) b4 a4 az oV oV oV W.den W.pos W.nl W.dig) ?_;rintro v3 u3 l3 rfl;have bf:=l1.trans l3;refine G.callO _ _ kV call120 (Akc (h.mono bf) b4 oV (fun r hr=>by have:=az r hr;omega) W.den W.pos W.nl) ?_;rintro v6 u6 m6 l6 ⟨D,F,a6,c6,ad,bj,b1,bk,rfl,bl,ar,Y⟩ _;rw[By];have c4:=bf.trans l6;have au:=Vu (n:=A.length) (Z:=Oq D A);have U:ad.length=A.length:=by rw[ar.1];simp
 obtain⟨go,co,eo⟩:=Y.ptr 0 rfl (by intro e;simp only[oN,A6c]at e;rw[e]at U;simp at U;omega);simp only[oN,A03,U,Value.slice.injEq,true_and]at eo;obtain⟨rfl,rfl⟩:=eo;have bq:∀ i,i<A.length->gMZ (A.map (Bp D)) i=Bp D (gM A i):=fun i hi=>by rw[Xj (by simpa using hi),A3v,Ch hi]
 have br:∀ i,i<A.length->(Bp D (gM A i)).length=A.length:=fun i hi=>by unfold Bp;rw[A03,Ch hi,hs.len hi]
 have b0:∀ (m:List (Value×List Value)) (i:Nat) (r:Value×List Value) (u' m':PH) (k:Nat),m.length=A.length->m[i]?=some r->Bag m' (oN (.slice (some ⟨go,0,none⟩) A.length c6) m::m.map C3)->AtP Bi u' r.2 (Bp D (gM A i)++P3 k i)->i<A.length ->
  ∃ gi ci I,r=(.slice (some ⟨gi,0,none⟩) (A.length+k) ci,I)/\I.length=A.length+k:=by
  rintro m i ⟨vi,I⟩ u' m' k az a5 t a9 hi;have aa:I.length=A.length+k:=by rw[a9.1,A1d,br i hi];simp[P3]
  obtain⟨gi,ci,e⟩:=t.ptr (i+1) (x:=C3 (vi,I)) (by simp[a5]) (by intro e;simp only[C3]at e;rw[e]at aa;simp at aa;omega);simp only[C3]at e;rw[aa]at e;subst e;exact⟨gi,ci,I,rfl,aa⟩
 refine G.l (ι:=Nat×List (Value×List Value)) (fun i=>[(1,.p 0 0),(5,.p 6002 0),(21,iV A.length),(22,iV i.1)])
  (fun _=>[(0,⟨45,[sV a0 A.length c0]⟩),(6002,⟨187,[bV F.b,sV F.a F.n F.c,sV (some ⟨go,0,none⟩) A.length c6]⟩)])
  (fun i u' m'=>i.1<=A.length/\i.2.length=A.length/\(∀ j r,i.2[j]?=some r->AtP Bi u' r.2 (Bp D (gM A j)++if j<i.1 then P3 A.length j else []))/\Bag m' (oN (.slice (some ⟨go,0,none⟩) A.length c6) i.2::i.2.map C3)) (fun i=>A.length-i.1) (0,ad)
  ⟨oV,U,fun j r H=>by
   dsimp only at H;have ae:j<A.length:=by
    obtain⟨q1,_⟩:=A05.1 H;omega
   rw[if_neg oV,A1x,<-bq j ae];exact ar.2 j r H,Y⟩ ?_
 clear Y ar U;rintro J ⟨i,m⟩ hJ u7 m7 l7 ⟨hi,a2,hQ,t⟩;simp only at hi a2 hQ t hJ;by_cases aw:i<A.length
 ·refine G.lT i A.length<|G.l (ι:=Nat×List (Value×List Value)) (fun k=>[(1,.p 0 0),(5,.p 6002 0),(6,iV i),(21,iV A.length),(22,iV i),(26,iV A.length),(27,iV k.1)])
   (fun _=>[(0,⟨45,[sV a0 A.length c0]⟩),(6002,⟨187,[bV F.b,sV F.a F.n F.c,sV (some ⟨go,0,none⟩) A.length c6]⟩)])
   (fun k u' m'=>k.1<=A.length/\k.2.length=A.length/\(∀ j r,k.2[j]?=some r->AtP Bi u' r.2 (Bp D (gM A j)++if j<i then P3 A.length j else if j=i then P3 k.1 j else []))/\Bag m' (oN (.slice (some ⟨go,0,none⟩) A.length c6) k.2::k.2.map C3)) (fun k=>A.length-k.1) (0,m)
   ⟨oV,a2,fun j r H=>by
    have:=hQ j r H;dsimp only;by_cases e:j<i
    ·rw[if_pos e]at this⊢;exact this
    rw[if_neg e]at this⊢;split
    ·exact this
    exact this,t⟩ ?_
  clear hQ t a2;rintro J2 ⟨k,m⟩ b2 u8 m8 l8 ⟨bs,a3,hQ,t⟩;simp only at bs a3 hQ t b2;by_cases cg:k<A.length
  ·refine G.lT k A.length ?_;obtain⟨r,a5⟩:∃ r,m[i]?=some r:=⟨_,A01 oV⟩;have a9:=hQ i r a5;rw[if_neg (Nat.lt_irrefl _),if_pos rfl]at a9;obtain⟨gi,ci,I,rfl,aa⟩:=b0 m i r u8 m8 k a3 a5 t a9 aw;have bw:(oN (.slice (some ⟨go,0,none⟩) A.length c6) m::m.map C3)[i+1]?=some (C3 (.slice (some ⟨gi,0,none⟩) (A.length+k) ci,I)):=by simp[a5]
   have bu:ElP m8 go (0+i*1) (.slice (some ⟨gi,0,none⟩) (A.length+k) ci):=t.el 0 (x:=oN _ _) rfl rfl (by show (m.map (·.1))[i]?=_;rw[A1a,a5];rfl);refine G.c call121 (Kf (z:=0) oV oV) ?_;intro v9 u9 l9 k9;obtain⟨f9,rfl⟩:=k9.opN;refine G.join (ι:=N3) (.bool false) (fun f=>[(1,.p 0 0),(5,.p 6002 0),(6,iV i),(8,.p 13001 0),(21,iV A.length),(22,iV i),(26,iV A.length),(27,iV k)])
    (fun f=>[(0,⟨45,[sV a0 A.length c0]⟩),(6002,⟨187,[bV F.b,sV F.a F.n F.c,sV (some ⟨go,0,none⟩) A.length c6]⟩),(13001,⟨141,[bV f.b,sV f.a f.n f.c]⟩)])
    (fun f u' m'=>m'=m8/\Bi u' (nv f) (if i=k then 1 else 0)) (fun _=>kV) kV ?tail ?way
   case way =>
    intro ac;by_cases b5:i=k
    ·refine G.eT i k<|G.c call121 (Kf (z:=1) oV oV) ?_;intro cm bg V a7;obtain⟨C,rfl⟩:=a7.opN;exact ac C _ _ _ kV cV V ⟨rfl,by rw[if_pos b5];exact a7⟩
    refine G.eF i k ?_;exact ac f9 _ _ _ kV cV (PH.le_refl _) ⟨rfl,by rw[if_neg b5];exact k9⟩
   rintro C bg cj V ⟨rfl,a7⟩;refine G.a go 0 A.length c6 i 1 aw<|G.lM none go (0+i*1) _ bu<|G.B 141 2 32 (.agg #[.bool false,.slice none 0 0]) [nv C] (a7.ok) ?_;intro bi c8 a8 bh;obtain⟨mm,ba,b7⟩:=t.focus (i+1) bw;rw[Ack]at ba;refine G.append 141 2 32 (.agg #[.bool false,.slice none 0 0]) mm I [nv C] (.slice (some ⟨gi,0,none⟩) (A.length+k) ci) bi 0 1 1 kV rfl rfl oV ba bh (a7.ok) rfl oV oV oV ?_;intro ca c5 am;have ai:=b7 (C3 (ca,I++[nv C])) c5 am;obtain⟨L,Q,rfl⟩:=am.shape;rw[A2j]at ai;obtain⟨mo,bb,ax⟩:=ai.focus 0 rfl;rw[Akm]at bb;refine G.a go 0 A.length c6 i 1 aw<|G.storeA 1 mo _ go A.length c6 i (.slice L (I++[nv C]).length Q) kV bb gV rfl rfl ?_;intro c7 an;rw[show (m.map (·.1)).set i (Value.slice L (I++[nv C]).length Q)=(m.set i (Value.slice L (I++[nv C]).length Q,I++[nv C])).map (·.1) by rw[A2g]]at an;have aj:=ax (oN (.slice (some ⟨go,0,none⟩) A.length c6) (m.set i (Value.slice L (I++[nv C]).length Q,I++[nv C]))) c7 an;rw[A2p,<-A2g]at aj;refine G.i k<|G.b (b2 (k+1,m.set i (Value.slice L (I++[nv C]).length Q,I++[nv C])) _ _ _ cV (((l8.trans l9).trans V).trans a8) ⟨dV,by dsimp only;rw[A21];exact a3,?_,aj⟩ dV);have ap:=(l9.trans V).trans a8;intro j r H;dsimp only at H⊢;rw[A1z]at H;by_cases av:i=j
   ·subst av;rw[if_pos rfl,if_pos oV]at H;cases H;rw[if_neg (Nat.lt_irrefl _),if_pos rfl,Ahb,<-A2k];exact (a9.mono (fun _ _ k=>k.mono ap)).snoc (a7.mono a8)
   rw[if_neg av]at H;have R:=(hQ j r H).mono (fun _ _ k=>k.mono ap);by_cases ab:j<i
   ·rw[if_pos ab]at R⊢;exact R
   rw[if_neg ab,if_neg (Ne.symm av)]at R⊢;exact R
  obtain rfl:k=A.length:=oV;refine G.lF A.length A.length<|G.i i<|G.b (hJ (i+1,m) _ _ _ cV (l7.trans l8) ⟨dV,a3,?_,t⟩ dV);intro j r H;have R:=hQ j r H;dsimp only;by_cases ab:j<i
  ·rw[if_pos ab]at R;rw[if_pos oV];exact R
  rw[if_neg ab]at R;by_cases e:j=i
  ·rw[if_pos e]at R;rw[if_pos oV];exact R
  rw[if_neg e]at R;rw[if_neg oV];exact R
 clear hJ;obtain rfl:i=A.length:=oV;refine G.lF A.length A.length ?_;have bn:NAt u7 m (Iu A.length (Oq D A)):=⟨by rw[a2,au.1],fun j r H=>by
  have ae:j<A.length:=by
   obtain⟨q1,_⟩:=A05.1 H;omega
  have R:=hQ j r H;rw[if_pos ae]at R;rw[Aud hs D ae];exact R⟩
 clear hQ b0;refine G.giveP (ma:=m7) (sm:=PH.mt) kV (by funext g;unfold PH.or;cases m7 g<;>rfl) (fun g=>.inr rfl) (fun g=>.inl rfl) ?_
 intro bg V b6;have b3:=Am1 t (bn.mono V) b6;have b9:=Avg (D:=D) hs hT b1;refine G.c call122 (Avp b3 au oV oV h0 oV b9 oV (Az1 a4)) ?_;rintro cn c8 a8 ⟨L,Q,pa,pc,fv,rfl,hS,hV⟩;obtain⟨bm,bo,c3,bp⟩:=Au4 (Z:=Oq D A) hk bj fun i k hi hk=>Ak4 hs bk hi hk;obtain⟨bd,be⟩:=Aow (n:=A.length) (w:=A.length+A.length) (E:=2) A.length 0 ⟨Iu A.length (Oq D A),[],1,false⟩ b9 (A04 (nl1 (n:=1) oV) (by show 1<=2;omega)) au (A1t _);rw[A2w]at bd be;clear a4;have a4:=hs.le;generalize Fm A.length A.length 0 ⟨Iu A.length (Oq D A),[],1,false⟩=s at *
 refine G.lF' s.P.length A.length (by rw[bm];omega) ?_;have ao:=Az1 a4;have bt:nl D<=2:=nlM (by have:=A48 oV b1;omega);have aq:=(bl.mono l7).mono (V.trans a8);refine G.pub 0 45 [.slice a0 A.length c0] kV kV ?_;intro ga cb cc;refine G.pub 6002 187 [.bool F.b,.slice F.a F.n F.c,.slice (some ⟨go,0,none⟩) A.length c6] kV kV ?_;intro gt ce ak;refine G.pub 19005 192 [.slice L A.length Q,.slice pa s.P.length pc,.bool fv.b,.slice fv.a fv.n fv.c,.bool s.odd] kV kV ?_;intro gr cd a1;generalize af:((PH.mt.upd ga _).upd gt _).upd gr _=mm;have c1:gt≠ga:=fun e=>by subst e;rw[Ab]at ak;cases ak
 have b8:gr≠gt:=fun e=>by subst e;rw[Ab]at a1;cases a1
 have bx:gr≠ga:=fun e=>by subst e;rw[Ad _ _ b8,Ab]at a1;cases a1
 have e1:mm gr=some (.cells #[.slice L A.length Q,.slice pa s.P.length pc,.bool fv.b,.slice fv.a fv.n fv.c,.bool s.odd] 192 (0,0)):=by rw[<-af,Ab]
 have e2:mm gt=some (.cells #[.bool F.b,.slice F.a F.n F.c,.slice (some ⟨go,0,none⟩) A.length c6] 187 (0,0)):=by rw[<-af,Ad _ _ (Ne.symm b8),Ab]
 have e3:mm ga=some (.cells #[.slice a0 A.length c0] 45 (0,0)):=by rw[<-af,Ad _ _ (Ne.symm bx),Ad _ _ (Ne.symm c1),Ab]
 clear af;refine G.giveP (ma:=mm) (sm:=PH.mt) kV (by funext g;unfold PH.or;cases mm g<;>rfl) (fun g=>.inr rfl) (fun g=>.inl rfl) ?_
 intro ck ag T;have al:Fe A.length (en A) (en (Auu A.length D s)):=fun i k hi hk=>by
  rw[<-bp i k hi hk];exact Ah fun j H=>by
   unfold Auu;rw[N6 H hk,A37,A3c,A2r]
 have ay:=Rh A.length fun j k=>Rat.divInt (enZ s.X j (A.length+k)*(D:Int)) s.v;have c2:=(((ht.mono c4).mono l7).mono (V.trans a8)).mono ag;refine G.lU none ga 0 (.slice a0 A.length c0) (Po (T _ _ e3) (G2 rfl rfl))<|G.lU none ga 0 (.slice a0 A.length c0) (Po (T _ _ e3) (G2 rfl rfl))<|G.c call123 (Acd (f:=124) (cap:=[.pointer (some ⟨gr,0,none⟩),.pointer (some ⟨ga,0,none⟩),.pointer (some ⟨gt,0,none⟩)]) (X:=Auu A.length D s) c2 ay oV (hX _ ay al) call124 (fun i k hi hk u' hl=>by
  have R:=Awo (u:=u') (i:=i) (k:=k) (hl _ _ (T _ _ e1)) (hl _ _ (T _ _ e3)) (hl _ _ (T _ _ e2)) (Nl.mono hS (ag.trans hl)) bo (hV.mono (ag.trans hl)) (aq.mono (ag.trans hl)) (A04 (bd i (A.length+k)) ao) (A04 be ao) bt c3 hi hk oV;have e9:en (Auu A.length D s) i k=Rat.divInt (enZ s.X i (A.length+k)*(D:Int)) s.v:=N6 hi hk;rw[e9];exact R)) ?_
 rintro cp cl ch ⟨lv,rfl,ah⟩;obtain⟨la,lc,rfl⟩:=ah.opn;exact G.r (.tuple #[_,.int .i64 0]) ⟨rfl,_,_,rfl,ay,al,ah⟩
end
section
section
variable {u:PH} {v:Value} {P:List Par} {C:CF} {q:Rat} {N:Nat}
def Aa5 (j:In N C)(Q:N<=28873454400)(H:Fd q)(m:P.Nodup)(J:0<C.c)(e:∀ z,0<=Dh z P C)(h:P.length<=11):Sq (Eh C P q)/\(Eh C P q).length=P.length+1/\(∀ r∈Eh C P q,∀ x∈r,Th x)/\Xu (Eh C P q).length (en (Eh C P q)) /\
 ∀ X,Rec (Eh C P q).length (Eh C P q).length X->Fe (Eh C P q).length (en (Eh C P q)) (en X)->H6 P C q X/\∀ r∈X,∀ x∈r,Tx x:=by
 have E:=Rx (P:=P) (C:=C) (q:=q);have t:=Azc (P:=P) j Q H.sixty;refine⟨At1 t h,E.1,t,by rw[E.1];exact Xx m J H.pos e,fun X L hi=>?_⟩;rw[E.1]at L hi;have I:=H6.of_right L hi;exact⟨I,I.txs j oV H m J e h⟩
def Avf (ht:Hx u)(h:C7 u v (Cv (Eh C P q)))(t:In N C)(W:N<=28873454400)(Z:Fd q)(E:P.Nodup)(Y:0<C.c)(e:∀ z,0<=Dh z P C)(m:P.length<=11) :
 zF 53 [v] u fun r J=>∃ X j,r=.tuple #[j,zO]/\H6 P C q X/\C7 J j (Cv X):=by
 obtain⟨L,h2,Q,U,I⟩:=Aa5 t W Z E Y e m;refine Fn0.weak (Atl ht h L oV Q U fun X H hi=>(I X H hi).2) ?_;rintro r J ⟨X,j,rfl,H,hi,V⟩;exact⟨X,j,rfl,(I X H hi).1,V⟩
end
section
variable {u:PH} {v cv:Value} {T:zC} {R:List Br} {F:List Al} {lab:Int} {C:CF} {K k N:Nat} {P:List Par} {q:Rat}
def Afc (P:List Par)(C:CF)(k:Nat)(q:Rat)(r:Value)(u:PH):Prop :=
 (∃ e:Int,(k=0/\e=12\/e=3/\k≠0/\11<P.length)/\r=.tuple #[Axc,zI e]) \/
  (k≠0/\P.length<=11/\∃ sv X b s c,r=.tuple #[sv,zO]/\Ma u sv P X b s c q/\H9 P C q X b s c)
def Aaz (ht:Hx u)(h:Te u v cv T R F lab C K k P)(hq:Fd q)(a0:In N C)(hN:N<=28873454400)(W:∀ z,0<=Dh z P C) :
 zF 13 [v,cv,zS (Ae q)] u fun r u'=>Afc P C k q r u':=by
 have a7:=(Ahm ht h.w hq.w).giveAll;have V:=h.mom;have hK:=h.K;have a6:=fun (u':PH) (l:PH.le u u')=>Afd B7 B7 (h.cof.mono l) oV;obtain⟨xa,xc,xb,xd,xe,xf,rfl,_⟩:=id h.sch;obtain⟨a1,n1,c1,a2,n2,c2,rfl⟩:=id h.cof.opn;refine Fn0.o func13<|G.c call52 a7 ?_;rintro v1 u1 l1 ⟨u0,a9,a4,Q,⟨e,rfl,he⟩|⟨hk,P',pa,pc,ya,yc,ra,rc,a8,J,j,rfl,hL,E,m⟩⟩
 ·refine G.nT' e 0 (by rcases he with ⟨h,_⟩|⟨h,_⟩<;>omega) ?_
  exact G.r (.tuple #[Axc,zI e]) ⟨rfl,.inl ⟨e,by
   rcases he with ⟨Z,h2⟩|⟨Z,h2,P',h3,h4⟩
   ·exact .inl ⟨h2,Z⟩
   refine .inr ⟨Z,h2,?_⟩;rw[h.prm.eq h3];exact h4,rfl⟩⟩
 cases h.prm.eq J;refine G.nF 0 0 ?_;have hM:C7 u1 (.slice ya (P.length+1) yc) (Cv (Eh C P q)):=V9 (v:=zT) m E Q;obtain⟨m0,Y,_⟩:=m.focus 0 rfl;rw[D6]at Y;have hR:Cj u1 (.slice ra (P.length+1) rc) ((Yz C P).map Ae):=by
  unfold Cj Yz;rw[<-J7];exact Y.list Q
 have a3:=V.cpos hk;have a5:=J.1.nodup Et;refine G.c call53 (Avf (ht.mono l1) hM a0 hN hq a5 a3 W j) ?_;rintro v2 u2 l2 ⟨X,lv,rfl,hS,I⟩;obtain⟨la,lc,U⟩:=id I.opn;rw[A3]at U;subst U;refine G.nF 0 0<|G.c call55 Aq2 ?_;rintro v3 u3 l3 rfl;refine G.c call55 Aq2 ?_;rintro v4 u4 l4 rfl;refine G.c call54 (a6 u4 (((l1.trans l2).trans l3).trans l4)) ?_;rintro v5 u5 l5 rfl;have H:=(l3.trans l4).trans l5;have L:(Yz C P).length=P.length+1:=Ag3;exact G.r (.tuple #[.agg #[.slice pa P.length pc,.slice la X.length lc,.slice ra (P.length+1) rc,zS (Ae (C.t (Ay B7 B7))),zS (Ae C.c),zS (Ae q)],zO])
  ⟨rfl,.inr ⟨hk,j,_,X,Yz C P,C.t (Ay B7 B7),C.c,rfl,⟨pa,pc,la,lc,ra,rc,by rw[L],hL.mono (a4.trans (l2.trans H)),I.mono H,by rw[L];exact Ac.mono hR (l2.trans H)⟩,⟨hS,rfl,rfl,rfl⟩⟩⟩
end
end
end Go.Proofs.YtemmheaocgmebaaGreatDoor
