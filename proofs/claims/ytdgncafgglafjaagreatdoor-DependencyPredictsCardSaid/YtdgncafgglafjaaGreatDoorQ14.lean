/- Parts of one proof, joined by a program. -/
import Derived.Test.YtdgncafgglafjaaGreatDoorQ13
set_option linter.defProp false
set_option linter.unusedVariables false
set_option linter.unusedSimpArgs false
set_option linter.unusedSectionVars false
set_option maxHeartbeats 16000000
namespace Go.Proofs.YtdgncafgglafjaaGreatDoor
open Go.Proofs.Tryz
open Go.RowKit Go.MapKept
section
def Td (F:List Ao)(lab:Int)(L:List Cr)(d:Nat×Nat):Prop:=d.1≠d.2/\∃ a m a' m',F[d.1]?=some (a,2,m)/\F[d.2]?=some (a',2,m')/\Fw F lab L a a'
def N4 (d:Nat×Nat):Value:=.agg #[.int .i64 d.1,.int .i64 d.2]
def Ajc (d:Nat×Nat):Bm 2 [N4 d]:=fun e g=>by
 obtain rfl:=A07.1 g;exact⟨rfl,A06.1 rfl⟩
section
variable {u:PH} {v cv:Value} {T:List (List UInt8×Nat)} {R:List Bw} {F:List Ao} {lab:Int} {L:List Cr} {K k:Nat} {a b:Nat}
def Ao1 (h:Mx u v cv T R F lab (Ax F lab L) K k)(E:∀ y∈L,Bp T y.1/\1<=y.2.1)(ha:a<F.length)(H:b<F.length) :
 Fn0 prog 92 [v,cv,.agg #[.int .i64 a,.int .i64 b]] u fun r _=>∃ pa n c e,r=.tuple #[.slice pa n c,.int .i64 e]/\(e=0->Td F lab L (a,b)):=by
 have C:=Wb h.sch h.ok h.cof h.sC h.vC h.K h.bel;have z:=h.p24;have a3:=h.ok.f2;have hh:=fun (I:PH) (l:PH.le u I) (b:Nat) (H:b<F.length)=>Aoq (h.sch.mono l) H oV;have V:=fun (I:PH) (l:PH.le u I) (P:List Par) (pv:Value) (hP:Ab I pv 2 (P.map An)) (hl:P.length<=100)=>Agy (f:=(a:Int)) (g:=(b:Int)) (h.cof.mono l) (A0l h.K oV) hP hl;have U:=fun (P:List Par) (d:Dk F (Ax F lab L) P) (Y m1 Z m2:Nat) (hi:F[a]?=some (Y,2,m1)) (hj:F[b]?=some (Z,2,m2))=>U6 h.ok E d hi hj;obtain⟨xa,xc,xb,xd,xe,xf,rfl,_⟩:=id h.sch;obtain⟨Y,n1,c1,Z,n2,c2,rfl⟩:=id h.cof.opn;refine Fn0.o func92<|G.c call20 C ?_;intro v1 u1 W hp;obtain⟨ps,P,rfl,J,_,d⟩:=hp.resolve_left fun⟨_,L,h1,d⟩=>by have:=z L d;omega
 have a0:=z P d;obtain⟨pa,pc,rfl⟩:=J.opn;rw[A0k]at J⊢;refine G.nF 0 0<|G.lF a 0<|G.hF a F.length<|G.lF b 0<|G.hF b F.length ?_;by_cases N:a=b
 ·exact G.eT a b<|G.r (.tuple #[.slice none 0 0,.int .i64 2]) ⟨rfl,_,_,_,2,rfl,fun h=>absurd h fV⟩
 refine G.eF a b<|G.c call168 (hh u1 W a ha) ?_;rintro v2 u2 l2 rfl;by_cases j:(F.getD a (0,0,0)).2.1=2
 rotate_left
 ·rw[decide_eq_false j];exact G.r (.tuple #[.slice none 0 0,.int .i64 7]) ⟨rfl,_,_,_,7,rfl,fun h=>absurd h fV⟩
 rw[decide_eq_true j];refine G.c call168 (hh u2 (W.trans l2) b H) ?_;rintro v3 u3 l3 rfl;by_cases m:(F.getD b (0,0,0)).2.1=2
 rotate_left
 ·rw[decide_eq_false m];exact G.r (.tuple #[.slice none 0 0,.int .i64 7]) ⟨rfl,_,_,_,7,rfl,fun h=>absurd h fV⟩
 rw[decide_eq_true m];have X:=(W.trans l2).trans l3;refine G.c call169 (V u3 X P _ (J.mono (l2.trans l3)) oV) ?_;rintro v4 u4 l4 ⟨qa,qn,qc,bb,rfl,t⟩;cases bb with
 |false=>exact G.r (.tuple #[.slice none 0 0,.int .i64 16]) ⟨rfl,_,_,_,16,rfl,fun h=>absurd h fV⟩
 |true =>
  refine G.r (.tuple #[.slice qa qn qc,.int .i64 0]) ⟨rfl,_,_,_,0,rfl,fun _=>⟨N,?_⟩⟩;obtain⟨⟨f1,f2,f3⟩,Q⟩:∃ f,F[a]?=some f:=⟨_,A0i ha⟩;obtain⟨⟨e1,e2,e3⟩,O⟩:∃ f,F[b]?=some f:=⟨_,A0i H⟩;rw[A0j,Q,A3s]at j;rw[A0j,O,A3s]at m;simp only at j m;subst j;subst m;exact⟨f1,f3,e1,e3,Q,O,(U P d f1 f3 e1 e3 Q O).1 (t rfl)⟩
def Ahe (h:Mx u v cv T R F lab (Ax F lab L) K k)(d:∀ y∈L,Bp T y.1/\1<=y.2.1)(m:a<F.length)(t:b<F.length) :
 Fn0 prog 40 [v,cv,.agg #[.int .i64 a,.int .i64 b]] u fun r _=>∃ j:Bool,r=.bool j/\(j=true->Td F lab L (a,b)):=by
 have C:=Ao1 h d m t;obtain⟨W,Y,X,Z,xe,xf,rfl,_⟩:=id h.sch;obtain⟨E,O,I,H,P,J,rfl⟩:=id h.cof.opn;refine Fn0.o func40<|G.c call92 C ?_;rintro V U N ⟨Q,n,c,e,rfl,z⟩;by_cases g:e=0
 ·exact G.eT' e 0 g<|G.r (.bool true) ⟨rfl,true,rfl,fun _=>z g⟩
 exact G.eF' e 0 g<|G.r (.bool false) ⟨rfl,false,rfl,fun h=>by cases h⟩
def Ans (h:Mx u v cv T R F lab (Ax F lab L) K k)(N:∀ y∈L,Bp T y.1/\1<=y.2.1) :
 Fn0 prog 15 [v,cv] u fun r O=>∃ D:List (Nat×Nat),D.length<=64/\Ab O r 2 (D.map N4)/\∀ d∈D,Td F lab L d:=by
 have a0:=h.ok.f2;have hh:=fun (O:PH) (l:PH.le u O) (a b:Nat) (ha:a<F.length) (hb:b<F.length)=>Ahe (h.mono l) N ha hb;obtain⟨xa,xc,xb,xd,xe,xf,rfl,_⟩:=id h.sch;obtain⟨Y,n1,c1,Z,n2,c2,rfl⟩:=id h.cof.opn;clear h;refine Fn0.o func15<|G.l (ι:=Nat×(Option Addr×Nat)×List (Nat×Nat)) (fun n=>[(2,.p 0 0),(3,.p 1 0),(5,sV n.2.1.1 n.2.2.length n.2.1.2),(10,iV F.length),(11,iV n.1)])
  (fun _=>[(0,⟨28,[sV xa T.length xc,sV xb R.length xd,sV xe F.length xf,iV lab]⟩),(1,⟨34,[tV (Ag (Ax F lab L).c),sV Y n1 c1,sV Z n2 c2]⟩)])
  (fun n O X=>n.1<=F.length/\n.2.2.length<=n.1*8/\Af PH.mt X (.slice n.2.1.1 n.2.2.length n.2.1.2) 40 2 (n.2.2.map N4)/\∀ d∈n.2.2,Td F lab L d) (fun n=>F.length-n.1) (0,(none,0),[]) ⟨oV,mV,Af.nil _ _ _,fun d C=>by cases C⟩ ?_
 rintro J ⟨n,⟨oa,oc⟩,D⟩ hJ u1 m1 l1 ⟨hn,P,j,z⟩;simp only at hn P j z hJ;by_cases V:n<F.length
 ·refine G.lT n F.length<|G.l (ι:=Nat×(Option Addr×Nat)×List (Nat×Nat)) (fun r=>[(2,.p 0 0),(3,.p 1 0),(5,sV r.2.1.1 r.2.2.length r.2.1.2),(6,iV n),(10,iV F.length),(11,iV n),(16,iV F.length),(17,iV r.1)])
   (fun _=>[(0,⟨28,[sV xa T.length xc,sV xb R.length xd,sV xe F.length xf,iV lab]⟩),(1,⟨34,[tV (Ag (Ax F lab L).c),sV Y n1 c1,sV Z n2 c2]⟩)])
   (fun r O X=>r.1<=F.length/\r.2.2.length<=n*8+r.1/\Af PH.mt X (.slice r.2.1.1 r.2.2.length r.2.1.2) 40 2 (r.2.2.map N4)/\∀ d∈r.2.2,Td F lab L d) (fun r=>F.length-r.1) (0,(oa,oc),D) ⟨oV,dV,j,z⟩ ?_
  clear j P z;rintro J2 ⟨r,⟨E,H⟩,e⟩ t u2 m2 l2 ⟨hr,P,j,z⟩;simp only at hr P j z t;by_cases U:r<F.length
  ·refine G.lT r F.length<|G.c call40 (hh u2 (l1.trans l2) n r V U) ?_;rintro v3 u3 W ⟨bb,rfl,Q⟩;cases bb with
   |false =>
    exact G.i r<|G.b (t (r+1,(E,H),e) _ _ _ cV (l2.trans W) ⟨dV,dV,j,z⟩ dV)
   |true =>
    refine G.B 40 2 16 (.agg #[.int .i64 0,.int .i64 0]) [N4 (n,r)] (Ajc _) ?_;intro g4 u4 l4 e4;have I:(e.map N4).length=e.length:=A0k ..;refine G.append 40 2 16 (.agg #[.int .i64 0,.int .i64 0]) PH.mt (e.map N4) [N4 (n,r)] (.slice E e.length H) g4 0 1 1 kV rfl rfl oV j e4 (Ajc _) rfl oV (by rw[I];omega) (by rw[I];omega) ?_;intro v5 m5 m;rw[show e.map N4++[N4 (n,r)]=(e++[(n,r)]).map N4 by rw[A02];rfl]at m;obtain⟨a5,c5,rfl⟩:=m.shape;rw[A0k]at m⊢;refine G.i r ?_;exact G.b (t (r+1,(a5,c5),e++[(n,r)]) _ _ _ cV ((l2.trans W).trans l4) ⟨dV,by dsimp only;rw[A03];simp;omega,m,fun d C=>by
     rcases A04.1 C with C|C
     ·exact z d C
     rw[A07.1 C];exact Q rfl⟩ dV)
  obtain rfl:r=F.length:=oV;refine G.lF F.length F.length ?_;clear t;exact G.i n<|G.b (hJ (n+1,(E,H),e) _ _ _ cV (l1.trans l2) ⟨dV,dV,j,z⟩ dV)
 obtain rfl:n=F.length:=oV;refine G.lF F.length F.length<|G.give _ _ _ kV j (fun g=>.inl rfl) ?_;intro u3 W hF;exact G.r (.slice oa D.length oc) ⟨rfl,D,oV,hF,z⟩
end
end
section
section
variable [Cj] {P:Program} [A6 P] {fn:Func} {Post:Ca} {st:List KI×S} {u m:PH}
def G.buildArrD (t e:TypeId)(p q:Nat×Nat)(h:Ak P (adv P st)=.build t [(0,N4 p),(1,N4 q)])(I:P.underlying t=some (.array 2 e))(H:szB P e=some 2)(J:Pn P t=some (.agg #[.int .i64 0,.int .i64 0,.int .i64 0,.int .i64 0]))
 (k:G P fn Post (nx (adv P st) (.agg #[.int .i64 p.1,.int .i64 p.2,.int .i64 q.1,.int .i64 q.2])) u m):G P fn Post st u m:=by
 refine G.ask h mV (fun j o d w hp=>?_) k;obtain⟨L,z,N⟩:=Qj d;obtain⟨E,K,C,pos,g,n⟩:=o;simp only at z;subst z;have F:(L.map fun x=>(x.1,j x.2)).toList = [(0,N4 p),(1,N4 q)]:=by simp_all
 simp only[execOp,Instr.build,Sem.run_bind,K5 J,Result.andThen_ok,run_underlying I,Bg H,F];rfl
def G.idxA (e:TypeId)(n sz i:Nat)(cs:Array Value)(v:Value)(h:Ak P (adv P st)=.index (some (.array n e)) (.agg cs) (.int .i64 i))(O:i<n)(N:M2 P e=some true)(C:szB P e=some sz)(Q:.agg (cs.extract (i*sz) (i*sz+sz))=v)
 (k:G P fn Post (nx (adv P st) v) u m):G P fn Post st u m:=by
 refine G.ask h mV (fun L o d w _=>?_) k;obtain⟨t,X,I,z,H,J,K⟩:=Yr d;obtain⟨F,R,E,pos,g,j⟩:=o;simp only at z;subst z;have h0:(0:Int)<=(i:Int):=oV
 have T:(i:Int)<(n:Int):=oV
 subst Q;simp[execOp,H,J,Instr.index,run_underlying K,asIntOf,h0,O,Bg C,Ff N C]
end
section
variable {P:Program}
def Agp (a b:List UInt8):Array Value:=#[.string (mkS a),.string (mkS b)]
def Ad0 {t e:TypeId}(C:P.underlying t=some (.array 2 e))(h:(P.info? e).isSome=true)(z:P.cellsOf e=1)(g:P.underlying e=some .string)(d:Nat)(a b c f:List UInt8)(w:World) :
 (Op.equalIn (d+2) t (.agg (Agp a b)) (.agg (Agp c f))).run P w=.ok (decide (a=c/\b=f)) w:=by
 obtain⟨i,h⟩:=A55.1 h;unfold Agp;rw[run_equalIn_array w (d+1) _ _ C h,z];rw[show List.range 2 = [0,1] from rfl];simp only[Op.eqItems,Sem.run_bind,A42,A27];rw[Dp (Eo g) (v:=.string (mkS a)) rfl,Result.andThen_ok,Dp (Eo g) (v:=.string (mkS c)) rfl,Result.andThen_ok,run_equalIn_string w d _ _ _ g,Result.andThen_ok,Qy];by_cases j:a=c
 ·subst j;simp only[decide_true,A5m,A3z,if_false,Sem.run_bind];rw[Dp (Eo g) (v:=.string (mkS b)) rfl,Result.andThen_ok,Dp (Eo g) (v:=.string (mkS f)) rfl,Result.andThen_ok,run_equalIn_string w d _ _ _ g,Result.andThen_ok,Qy];by_cases n:b=f
  ·simp[n]
  simp[n]
 simp[j]
end
def Ax3 (a b c f:List UInt8)(w:World):(Op.equal 51 (.agg (Agp a b)) (.agg (Agp c f))).run prog w=.ok (decide (a=c/\b=f)) w :=
 Ad0 (P:=prog) (t:=51) (e:=9) kV kV kV kV 9998 a b c f w
end
section
variable {M m:PH}{c0 c1 y:List UInt8}{g:Nat}{o:Obj}
structure O6 (u:PH)(b:Bool)(m:Nat)(R:List Bw)(L:List Cr)(xv lv cv:Value):Prop where
 m1:m<=1
 sch:Ic u xv (t18 b) R (f18 m b) 2
 ok:B2 u (t18 b) R (f18 m b) 2
 rows:Ab u lv 2 (L.map Fy)
 wok:WOK u (t18 b) L
 n18:N18 L
 l6:L.length<=6
 cof:J0 u cv (Ax (f18 m b) 2 L) (255*L.length)
def ofL (t1 t2:List UInt8):List (List UInt8):=[[120],[120],[122],t1,t2]
def St:∀ c∈Fp,M4 3 c:=fun c d=>by
 simp only[Fp,A0v,A1q,or_false]at d;rcases d with rfl|rfl|rfl|rfl|rfl
 ·exact .inr (.inl ⟨rfl,jV⟩)
 ·exact .inr (.inl ⟨rfl,jV⟩)
 ·exact .inr (.inl ⟨rfl,jV⟩)
 ·exact .inr (.inl ⟨rfl,jV⟩)
 exact .inl rfl
def So:∀ c∈Gq,M4 3 c:=fun c d=>by
 simp only[Gq,A0v,A1q,or_false]at d;rcases d with rfl|rfl|rfl|rfl
 ·exact .inr (.inl ⟨rfl,jV⟩)
 ·exact .inr (.inl ⟨rfl,jV⟩)
 ·exact .inl rfl
 exact .inr (.inl ⟨rfl,jV⟩)
def Aw7 (h0:c0∈Fp)(h:c1∈Gq)(j:Zc 2 y):Bp (t18 false) [c0,c1,y]:=⟨rfl,fun i x t d e=>by
 match i,d,e with
 |0,d,e=>cases d;cases e;exact St _ h0
 |1,d,e=>cases d;cases e;exact So _ h
 |2,d,e=>cases d;cases e;exact j.ok
 |i+3,d,e=>simp[t18]at d⟩
def Axs {c0 c1 y v:List UInt8}(h0:c0∈Fp)(h:c1∈Gq)(n:Zc 2 y)(j:Zc 2 v):Bp (t18 true) [c0,c1,y,v]:=⟨rfl,fun i x t d e=>by
 match i,d,e with
 |0,d,e=>cases d;cases e;exact St _ h0
 |1,d,e=>cases d;cases e;exact So _ h
 |2,d,e=>cases d;cases e;exact n.ok
 |3,d,e=>cases d;cases e;exact j.ok
 |i+4,d,e=>simp[t18]at d⟩
def Ajs {g g2:Nat}{d:Nat}{j:Nat}(h:Af PH.mt m (.slice (some ⟨g,0,none⟩) 1 1) 96 2 [.agg #[.string (mkS [114]),.slice (some ⟨g2,0,none⟩) j d]]):m=Kv g (.cells [Value.string (mkS [114]),.slice (some ⟨g2,0,none⟩) j d].toArray 96 (0,0)):=by
 rcases h.2 with ⟨h,_⟩|⟨z,cap,rest,E,n,t,F,u,H⟩
 ·cases h
 have e:g=z/\1=cap:=by
  simp only[Value.slice.injEq,A0u,Addr.mk.injEq]at t;exact⟨t.1.1,t.2.2⟩
 obtain⟨rfl,rfl⟩:=e;have C:Bb [Value.agg #[.string (mkS [114]),.slice (some ⟨g2,0,none⟩) j d]] = [Value.string (mkS [114]),.slice (some ⟨g2,0,none⟩) j d]:=rfl;rw[C]at n u;have:rest = []:=by
  cases rest with
  |nil=>rfl
  |cons a l=>simp at u
 subst this;rw[A1i]at n;exact n
def Asi {o o':Obj}:((Kv g o).or M).upd g o'=(Kv g o').or M:=by
 funext k
 by_cases e:k=g
 ·subst e;rw[Ac,PH.or_l (By k o')]
 rw[Ad _ _ e,PH.or_r (Kk o e),PH.or_r (Kk o' e)]
def Pa (h:M g=none):G1 (Kv g o) M:=fun k=>by
 by_cases e:k=g
 ·subst e;exact .inr h
 exact .inl (Kk o e)
def Asz {x y:PH}(h:G1 x y):y.or x=x.or y:=by
 funext k
 rcases h k with e|e
 ·rw[PH.or_r e];cases hy:y k with
  |none=>rw[PH.or_r hy,e]
  |some o=>rw[PH.or_l hy]
 rw[PH.or_r e];cases hx:x k with
 |none=>rw[PH.or_r hx,e]
 |some o=>rw[PH.or_l hx]
def Afc (a:Option Addr)(c:Nat)(S:List (List UInt8)):Arr:=⟨.slice a S.length c,9,1,S.map nmV⟩
def Ako {a:Option Addr}{c:Nat}{S:List (List UInt8)}{m0 m:PH}:(Afc a c S).At m0 m=Af m0 m (.slice a S.length c) 9 1 (S.map nmV):=rfl
def Alr (b:Bool):(t18 b).length<=4:=by cases b<;>decide
def Aj6 {u:PH}{s:Src}{ts:List Int}{k:Nat}(h:Po u s ts)(hk:k<=s.n) :
 Ah prog 8 [s.ptr] u (s.M k) fun r u' m'=>∃ (b:Bool) (mm:Nat) (R:List Bw) (L:List Cr) (xv lv cv:Value) (k':Nat),r=.tuple #[xv,lv,cv]/\O6 u' b mm R L xv lv cv/\k'<=s.n/\m'=s.M k':=by
 letI:Pu:=⟨true⟩
 refine Ah.o func8<|G.callO _ _ kV call30 Afr ?_;rintro v1 u1 m1 l1 ⟨g1,g2,g3,g4,rfl,hT,hI,hF,hA⟩ ap;obtain rfl:=Ajs hA;clear hA;have af:∀ k',s.M k' g3=none:=fun k'=>by
  have h1:=ap g3 (by rw[By];simp);by_cases e:g3=s.g
  ·rw[e]at h1;unfold Src.M at h1;rw[Ac]at h1;cases h1
  unfold Src.M;rw[Ad _ _ e];rfl
 rw[Asz (Pa (af k))];refine G.D call31 (Pa (af k)) (Ud (n:=2) (h.mono l1) hk oV oV) ?_;rintro v2 u2 m2 l2 ⟨r,k2,rfl,hr,bo,rfl⟩ _;refine G.join (ι:=(Bool×Nat×Nat)×(Option Addr×Nat)×(Option Addr×Nat)) (.bool false) (fun i=>[(0,.v s.ptr),(2,.p 0 0),(4,.p 2 0),(5,.p 1001 0)])
  (fun i=>[(0,⟨28,[sV none 0 0,sV none 0 0,sV none 0 0,iV 0]⟩),(2,⟨34,[tV [],sV none 0 0,sV none 0 0]⟩),(1001,⟨28,[sV i.2.1.1 (t18 i.1.1).length i.2.1.2,sV (some ⟨g3,0,none⟩) 1 1,sV i.2.2.1 (f18 i.1.2.1 i.1.1).length i.2.2.2,iV 2]⟩)])
  (fun i u' m'=>i.1.2.1<=1/\i.1.2.2<=s.n/\Ab u' (.slice i.2.1.1 (t18 i.1.1).length i.2.1.2) 2 ((t18 i.1.1).map Ia)/\Ab u' (.slice i.2.2.1 (f18 i.1.2.1 i.1.1).length i.2.2.2) 3 ((f18 i.1.2.1 i.1.1).map C4) /\
   ∃ gi ci,Ab u' (.slice (some ⟨gi,0,none⟩) (i18 i.1.1).length ci) 1 (Ai (i18 i.1.1))/\m'=(Kv g3 (.cells [Value.string (mkS [114]),.slice (some ⟨gi,0,none⟩) (i18 i.1.1).length ci].toArray 96 (0,0))).or (s.M i.1.2.2)) (fun _=>kV) kV ?tail ?way
 case way =>
  intro d;by_cases dl:r=1
  rotate_left
  ·refine G.eF r 1 ?_;exact d ((false,0,k2),(_,3),(_,2)) _ _ _ kV cV (PH.le_refl _) ⟨dV,bo,hT.mono l2,hF.mono l2,_,_,hI.mono l2,rfl⟩
  refine G.eT r 1<|G.buildU 94 2 24 (.agg #[.string (mkS []),.int .i64 0]) [Ia ([118],2)] kV (fun x T=>by
   obtain rfl:=A07.1 T;exact⟨rfl,A06.1 rfl⟩) rfl oV mV mV ?_
  intro g5 u5 l5 e5;refine G.appendU 94 2 24 (.agg #[.string (mkS []),.int .i64 0]) ((t18 false).map Ia) [Ia ([118],2)] (some ⟨g1,0,none⟩) 3 g5 0 1 1 kV oV (hT.mono (l2.trans l5)) (fun x T=>by
   simp only[t18,A1t,A38,A0v,A1q,or_false]at T;rcases T with rfl|rfl|rfl<;>exact⟨rfl,A06.1 rfl⟩) e5 (fun x T=>by
   obtain rfl:=A07.1 T;exact⟨rfl,A06.1 rfl⟩) rfl oV (by simp[t18]) (by simp[t18]) ?_
  intro v6 u6 l6 ay;rw[show (t18 false).map Ia++[Ia ([118],2)]=(t18 true).map Ia from rfl]at ay;obtain⟨a6,c6,rfl⟩:=ay.opn;refine G.buildU 3 1 8 (.int .i64 0) (Ai [0,1,2,3]) kV (A4 [0,1,2,3]) rfl oV (by simp[Ai]) (by simp[Ai]) ?_;intro g7 u7 l7 e7;refine G.a g3 0 1 1 0 2 oV<|G.f 96 g3 (0+0*2) 1 1<|G.storeM 1 g3 1 96 [Value.string (mkS [114]),.slice (some ⟨g2,0,none⟩) 3 3] (.slice (some ⟨g7,0,none⟩) 4 4) kV (PH.or_l (By _ _)) (fun x T=>by
   simp only[A0v,A1q,or_false]at T;rcases T with rfl|rfl<;>rfl) mV rfl rfl ?_
  rw[Asi];refine G.D call31 (Pa (af k2)) (Ud (n:=2) (h.mono ((((l1.trans l2).trans l5).trans l6).trans l7)) bo oV oV) ?_;rintro v8 u8 m8 l8 ⟨r8,k8,rfl,dm,cy,rfl⟩ _;refine G.buildU 98 3 24 (.agg #[.int .i64 0,.int .i64 0,.int .i64 0]) [C4 (3,1,r8)] kV (fun x T=>by
   obtain rfl:=A07.1 T;exact⟨rfl,A06.1 rfl⟩) rfl oV mV mV ?_
  intro g9 u9 l9 e9;refine G.appendU 98 3 24 (.agg #[.int .i64 0,.int .i64 0,.int .i64 0]) ((f18 0 false).map C4) [C4 (3,1,r8)] (some ⟨g4,0,none⟩) 2 g9 0 1 1 kV oV (hF.mono (((((l2.trans l5).trans l6).trans l7).trans l8).trans l9)) (fun x T=>by
   simp only[f18,A1t,A38,A0v,A1q,or_false]at T;rcases T with rfl|rfl<;>exact⟨rfl,A06.1 rfl⟩) e9 (fun x T=>by
   obtain rfl:=A07.1 T;exact⟨rfl,A06.1 rfl⟩) rfl oV (by simp[f18]) (by simp[f18]) ?_
  intro em d9 O a8;rw[show (f18 0 false).map C4++[C4 (3,1,r8)]=(f18 r8 true).map C4 from rfl]at a8;obtain⟨cg,ch,rfl⟩:=a8.opn;have dd:=(((((l2.trans l5).trans l6).trans l7).trans l8).trans l9).trans O;exact d ((true,r8,k8),(a6,c6),(cg,ch)) _ _ _ kV cV ((((((l5.trans l6).trans l7).trans l8).trans l9).trans O)) ⟨dV,cy,ay.mono ((((l7.trans l8).trans l9).trans O)),a8,g7,4,(e7.listP).mono ((l8.trans l9).trans O),rfl⟩
 case tail =>
 rintro⟨⟨b,mm,k3⟩,⟨ta,tc⟩,fa,fc⟩ u3 m3 l3 ⟨hm1,hk3,hT,hF,gi,ci,hI,rfl⟩;simp only at hm1 hk3 hT hF hI⊢;refine G.giveP (ma:=Kv g3 (.cells [Value.string (mkS [114]),.slice (some ⟨gi,0,none⟩) (i18 b).length ci].toArray 96 (0,0))) (sm:=s.M k3) kV rfl (Pa (af k3)) (s.h0 k k3) ?_;intro u4 l4 d4;have eR:ElP u4 g3 0 (.agg #[.string (mkS [114]),.slice (some ⟨gi,0,none⟩) (i18 b).length ci]):=Jg (xs:=[Value.string (mkS [114]),.slice (some ⟨gi,0,none⟩) (i18 b).length ci]) (d4 _ _ (By _ _)) rfl;have hR:Ab u4 (.slice (some ⟨g3,0,none⟩) 1 1) 2 ((r18 b gi ci).map Ai6):=⟨_,1,rfl,A0s _,fun j e hj=>by
  have:j=0:=by have:=(A0o.1 hj).1;simp[r18]at this;omega
  subst this;cases hj;exact⟨g3,0,rfl,eR⟩⟩
 have bg:=hT.mono l4;have cs:=hF.mono l4;have ok4:=Ay5 (m:=mm) b hm1 (hI.mono l4);have br:=hm1;clear hT hF hI hm1 ap;have c5:=((l1.trans l2).trans l3).trans l4;refine G.buildU 9 1 16 (.string (mkS [])) (Fp.map nmV) kV (D8 Fp) rfl oV (by simp[Fp]) (by simp[Fp]) ?_;intro g5 u5 l5 e5;refine G.B 9 1 16 (.string (mkS [])) ([[120],[122],[]].map nmV) (D8 [[120],[122],[]]) ?_;intro g6 u6 l6 e6;refine G.A call32 (Yh (L:=[[120],[122],[]]) (h.mono ((c5.trans l5).trans l6)) hk3 e6.listP mV mV) ?_;rintro v7 u7 m7 l7 ⟨t1,bt,k7,rfl,cx,rfl⟩ _;rw[Cm];refine G.B 9 1 16 (.string (mkS [])) ([[122],[],[119]].map nmV) (D8 [[122],[],[119]]) ?_;intro g8 u8 l8 e8;have c7:=(((c5.trans l5).trans l6).trans l7).trans l8;refine G.A call32 (Yh (L:=[[122],[],[119]]) (h.mono c7) cx e8.listP mV mV) ?_;rintro v9 u9 m9 l9 ⟨t2,ad,k9,rfl,cz,rfl⟩ _;rw[Cm];refine G.buildU 9 1 16 (.string (mkS [])) ((ofL t1 t2).map nmV) kV (D8 (ofL t1 t2)) rfl oV (by simp[ofL]) (by simp[ofL]) ?_;intro a3 d9 O cj;have d0:∀ c∈ofL t1 t2,c∈Gq:=fun c hc=>by
  simp only[ofL,A0v,A1q,or_false]at hc bt ad;unfold Gq;rcases hc with rfl|rfl|rfl|rfl|rfl
  ·simp
  ·simp
  ·simp
  ·rcases bt with rfl|rfl|rfl<;>simp
  rcases ad with rfl|rfl|rfl<;>simp
 have au:=(c7.trans l9).trans O;refine G.A call31 (Ud (n:=7) (h.mono au) cz oV oV) ?_;rintro eo ce ds ah ⟨cd,bz,rfl,db,bl,rfl⟩ _;rw[Cm];have av:=((((((l5.trans l6).trans l7).trans l8).trans l9).trans O).trans ah);have al:=bg.mono av;have cu:Ab ce (.slice (some ⟨g5,0,none⟩) 5 5) 1 (Fp.map nmV):=(e5.listP).mono (((((l6.trans l7).trans l8).trans l9).trans O).trans ah);have cw:Ab ce (.slice (some ⟨a3,0,none⟩) 5 5) 1 ((ofL t1 t2).map nmV):=(cj.listP).mono ah;have c4:=au.trans ah;have dq:=Alr b;refine G.l (ι:=Nat×Nat×List Cr×(Option Addr×Nat)) (fun i=>[(0,.v s.ptr),(2,.p 0 0),(4,.p 2 0),(5,.p 1001 0),(6,sV (some ⟨g5,0,none⟩) 5 5),(7,sV (some ⟨a3,0,none⟩) 5 5),(8,sV i.2.2.2.1 i.2.2.1.length i.2.2.2.2),(9,iV i.1)])
  (fun _=>[(0,⟨28,[sV none 0 0,sV none 0 0,sV none 0 0,iV 0]⟩),(2,⟨34,[tV [],sV none 0 0,sV none 0 0]⟩),(1001,⟨28,[sV ta (t18 b).length tc,sV (some ⟨g3,0,none⟩) 1 1,sV fa (f18 mm b).length fc,iV 2]⟩)])
  (fun i u' m'=>i.1+i.2.2.1.length=cd/\i.2.1<=s.n/\WOK u' (t18 b) i.2.2.1/\N18 i.2.2.1/\Bag m' [s.arr i.2.1,Acr i.2.2.2.1 i.2.2.2.2 i.2.2.1])
  (fun i=>i.1) (cd,bz,[],(none,0))
  ⟨rfl,bl,fun y N=>by simp at N,fun y N=>by simp at N,s.bag0 bz ⟨PH.mt,Af.nil _ _ _,trivial⟩⟩ ?_
 rintro J ⟨i,b1,L,⟨na,nc⟩⟩ hJ eb du ai ⟨hi,ac,hW,a9,ao⟩;simp only at hi ac hW a9 ao hJ;have ae:=c4.trans ai;obtain⟨m0,t,hL⟩:=ao;obtain⟨rfl,ab⟩:=Src.split t;clear t;by_cases dk:0<i
 rotate_left
 ·obtain rfl:i=0:=oV;refine G.gF (0:Nat) 0<|G.giveP (ma:=m0) (sm:=s.M b1) kV rfl (Src.apart ab) (s.h0 k b1) ?_;intro b9 V bs;have P:=(av.trans ai).trans V;have hX:Ic b9 (.agg #[.slice ta (t18 b).length tc,.slice (some ⟨g3,0,none⟩) 1 1,.slice fa (f18 mm b).length fc,.int .i64 2]) (t18 b) (r18 b gi ci) (f18 mm b) 2:=⟨_,_,_,_,_,_,rfl,bg.mono P,hR.mono P,cs.mono P⟩;have bf:Ab b9 (.slice na L.length nc) 2 (L.map Fy):=hL.list bs 0 rfl;have am:=hW.mono V;refine G.c call29 (Pi hX (ok4.mono P) oV bf am oV) ?_;rintro er ec a1 ⟨f0,rfl,c2⟩;obtain⟨e1,f1,h1,e2,f2,h2,rfl⟩:=c2.opn;exact G.r (.tuple #[.agg #[.slice ta (t18 b).length tc,.slice (some ⟨g3,0,none⟩) 1 1,.slice fa (f18 mm b).length fc,.int .i64 2],.slice na L.length nc,.agg #[.string (mkS (Ag (Ax (f18 mm b) 2 L).c)),.slice e1 f1 h1,.slice e2 f2 h2]])
   ⟨b,mm,_,L,_,_,_,b1,rfl,⟨br,hX.mono a1,(ok4.mono P).mono a1,bf.mono a1,am.mono a1,a9,oV,c2⟩,ac,rfl⟩
 refine G.gT i 0<|G.D call31 (Src.apart ab) (Ud (n:=5) (h.mono ae) ac oV oV) ?_;rintro ep b9 dv V ⟨Q,dr,rfl,Z,bm,rfl⟩ _;obtain⟨c0,bj⟩:∃ c,Fp[Q]?=some c:=⟨_,A0i (by simpa[Fp] using Z)⟩;obtain⟨c1,az⟩:∃ c,(ofL t1 t2)[Q]?=some c:=⟨_,A0i (by simpa[ofL] using Z)⟩;have W:=A0w bj;have C:=d0 c1 (A0w az);have H:=ai.trans V;obtain⟨df,e3,e0,ck⟩:=Ab.at' (cu.mono H) (j:=Q) (e:=nmV c0) (by rw[A0n,bj];rfl);cases e0;refine G.a g5 0 5 5 Q 1 Z<|G.lU none g5 (0+Q*1) (.string (mkS c0)) ck ?_;obtain⟨dg,e4,e0,bd⟩:=Ab.at' (cw.mono H) (j:=Q) (e:=nmV c1) (by rw[A0n,az];rfl);cases e0;refine G.a a3 0 5 5 Q 1 Z<|G.lU none a3 (0+Q*1) (.string (mkS c1)) bd ?_;have ad:(t18 b)[2]?=some ([121],2):=by cases b<;>rfl
 have bu:2<(t18 b).length:=(A0o.1 ad).1;obtain⟨a2,a5,e0,cl⟩:=Ab.at' (al.mono H) (j:=2) (e:=Ia ([121],2)) (by rw[A0n,ad];rfl);subst e0;refine G.a a2 a5 (t18 b).length tc 2 2 bu<|G.lU (some 2) a2 (a5+2*2) (.agg #[.string (mkS [121]),.int .i64 (2:Nat)]) cl<|G.callP _ _ kV rfl call33 rfl (Src.apart ab) (Aak (x:=([121],2)) (h.mono (ae.trans V)) bm oV oV) ?_;rintro et ed dw b4 ⟨yv,c3,rfl,b0,bn,rfl⟩ _;simp only at b0;refine G.buildM 9 1 16 (.string (mkS [])) ([c0,c1,yv].map nmV) kV (D8 [c0,c1,yv]) rfl oV mV mV ?_;intro E d5 ak;have I:Bag d5 [s.arr c3,Afc (some ⟨E,0,none⟩) 3 [c0,c1,yv],Acr na nc L]:=Bag.perm (List.Perm.swap _ _ _) ⟨m0.or (s.M c3),ak,m0,Src.at ab,hL⟩;clear ak hL;obtain⟨n0,t,I⟩:=I;obtain⟨rfl,X⟩:=Src.split t;clear t ab;have aw:=(ae.trans V).trans b4;refine G.D call31 (Src.apart X) (Ud (n:=12) (h.mono aw) bn oV oV) ?_;rintro eu ee dx b5 ⟨b8,ag,rfl,dc,ar,rfl⟩ _;refine G.join (ι:=List UInt8) (.bool false) (fun _=>[(0,.v s.ptr),(2,.p 0 0),(4,.p 2 0),(5,.p 1001 0),(6,sV (some ⟨g5,0,none⟩) 5 5),(7,sV (some ⟨a3,0,none⟩) 5 5),(8,sV na L.length nc),(9,iV i),(11,sV (some ⟨E,0,none⟩) 3 3)])
  (fun _=>[(0,⟨28,[sV none 0 0,sV none 0 0,sV none 0 0,iV 0]⟩),(2,⟨34,[tV [],sV none 0 0,sV none 0 0]⟩),(1001,⟨28,[sV (some ⟨a2,a5,none⟩) (t18 b).length tc,sV (some ⟨g3,0,none⟩) 1 1,sV fa (f18 mm b).length fc,iV 2]⟩)])
  (fun c u' m'=>c∈Gq/\Bag m' [s.arr ag,Afc (some ⟨E,0,none⟩) 3 [c0,c,yv],Acr na nc L]) (fun _=>kV) kV ?tail1 ?way1
 case way1 =>
  intro d;by_cases dj:b8=11
  ·refine G.eT b8 11<|G.a E 0 3 3 1 1 oV ?_;obtain⟨mx,U,K⟩:=(show Bag (n0.or (s.M ag)) [s.arr ag,Afc (some ⟨E,0,none⟩) 3 [c0,c1,yv],Acr na nc L] from⟨n0,Src.at X,I⟩).focus 1 rfl;refine G.storeA 1 mx ([c0,c1,yv].map nmV) E 3 3 1 (.string (mkS [119])) kV U mV rfl rfl ?_;intro cc be;have F:=K (Afc (some ⟨E,0,none⟩) 3 [c0,[119],yv]) cc be;simp only[A2s,A2y]at F;exact d [119] _ _ _ kV cV (PH.le_refl _) ⟨by simp[Gq],F⟩
  refine G.eF b8 11 ?_;exact d c1 _ _ _ kV cV (PH.le_refl _) ⟨C,n0,Src.at X,I⟩
 case tail1 =>
 clear X I az C bd;rintro c1 ef cc b6 ⟨C,F⟩;have ax:=(aw.trans b5).trans b6;refine G.join (ι:=List (List UInt8)×(Option Addr×Nat)×Nat) (.bool false) (fun j=>[(0,.v s.ptr),(2,.p 0 0),(4,.p 2 0),(5,.p 1001 0),(6,sV (some ⟨g5,0,none⟩) 5 5),(7,sV (some ⟨a3,0,none⟩) 5 5),(8,sV na L.length nc),(9,iV i),(11,sV j.2.1.1 j.1.length j.2.1.2)])
  (fun _=>[(0,⟨28,[sV none 0 0,sV none 0 0,sV none 0 0,iV 0]⟩),(2,⟨34,[tV [],sV none 0 0,sV none 0 0]⟩),(1001,⟨28,[sV (some ⟨a2,a5,none⟩) (t18 b).length tc,sV (some ⟨g3,0,none⟩) 1 1,sV fa (f18 mm b).length fc,iV 2]⟩)])
  (fun i u' m'=>Bp (t18 b) i.1/\i.1.getD 0 []∈Fp/\i.1.getD 1 []∈Gq/\i.2.2<=s.n/\Bag m' [s.arr i.2.2,Afc i.2.1.1 i.2.1.2 i.1,Acr na nc L]) (fun _=>kV) kV ?tail2 ?way2
 case way2 =>
  intro d;cases hb:b with
  |true =>
   subst hb;refine G.gT 4 3 ?_;have dp:(t18 true)[3]?=some ([118],2):=rfl;obtain⟨dh,ea,e0,cm⟩:=Ab.at' (al.mono (((H.trans b4).trans b5).trans b6)) (j:=3) (e:=Ia ([118],2)) rfl;cases e0;refine G.a a2 a5 4 tc 3 2 oV<|G.lU (some 2) a2 (a5+3*2) (.agg #[.string (mkS [118]),.int .i64 (2:Nat)]) cm ?_;obtain⟨n1,t,bh⟩:=F;obtain⟨rfl,bk⟩:=Src.split t;clear t;refine G.D call33 (Src.apart bk) (Aak (x:=([118],2)) (h.mono ax) ar oV oV) ?_;rintro ew da d6 aj ⟨vv,a4,rfl,bw,Y,rfl⟩ _;simp only at bw;refine G.B 9 1 16 (.string (mkS [])) ([vv].map nmV) (D8 [vv]) ?_;intro cq eg d3 cn;obtain⟨mx,U,K⟩:=(show Bag (n1.or (s.M a4)) [s.arr a4,Afc (some ⟨E,0,none⟩) 3 [c0,c1,yv],Acr na nc L] from⟨n1,Src.at bk,bh⟩).focus 1 rfl;rw[Ako]at U;refine G.append 9 1 16 (.string (mkS [])) mx ([c0,c1,yv].map nmV) ([vv].map nmV) (.slice (some ⟨E,0,none⟩) 3 3) cq 0 1 1 kV rfl rfl oV U cn (D8 [vv]) rfl oV mV mV ?_;intro ex d7 a7;rw[show [c0,c1,yv].map nmV++[vv].map nmV = [c0,c1,yv,vv].map nmV from rfl]at a7;obtain⟨ya,yc,rfl⟩:=a7.shape;have an:=K (Afc ya yc [c0,c1,yv,vv]) d7 a7;simp only[A2s,A2y]at an;exact d ([c0,c1,yv,vv],(ya,yc),a4) _ _ _ kV cV (aj.trans d3) ⟨Axs W C b0 bw,W,C,Y,an⟩
  |false =>
   subst hb;refine G.gF 3 3 ?_;exact d ([c0,c1,yv],(some ⟨E,0,none⟩,3),ag) _ _ _ kV cV (PH.le_refl _) ⟨Aw7 W C b0,W,C,ar,F⟩
 case tail2 =>
 rintro⟨S,⟨ya,yc⟩,a4⟩ da d6 aj ⟨hS,hS0,hS1,Y,hb22⟩;simp only at hS hS0 hS1 Y hb22⊢;clear F;have aa:=Bag.perm (List.Perm.swap _ _ _) hb22;obtain⟨dy,bx,aa⟩:=aa;obtain⟨n2,t,ct⟩:=aa;obtain⟨rfl,aq⟩:=Src.split t;rw[Ako]at bx;refine G.give (n2.or (s.M a4)) _ _ kV bx (s.h0or k a4 n2) ?_;intro eh c8 hY;have cb:=(ax.trans aj).trans c8;refine G.buildU 3 1 8 (.int .i64 0) (Er [1,1,2,3]) kV (Yv _) rfl oV (by simp[Er]) (by simp[Er]) ?_;intro di ei b7 co;refine G.D call34 (Src.apart aq) (Aop (L:=[1,1,2,3]) (h.mono (cb.trans b7)) Y co.listP mV mV) ?_;rintro ey ej dz c9 ⟨z,hz,b2,rfl,bp,rfl⟩ _;obtain⟨w,rfl,d1,d2⟩:∃ w:Nat,z=(w:Int)/\1<=w/\w<=7:=by
  simp at hz;rcases hz with rfl|rfl|rfl
  ·exact⟨1,rfl,oV,oV⟩
  ·exact⟨2,rfl,oV,oV⟩
  exact⟨3,rfl,oV,oV⟩
 refine G.B 44 2 32 (.agg #[.slice none 0 0,.int .i64 0]) [.agg #[.slice ya S.length yc,.int .i64 w]] (Aea (S,w,ya,yc)) ?_;intro cr ek ca cp;obtain⟨mx,U,K⟩:=(show Bag (n2.or (s.M b2)) [s.arr b2,Acr na nc L] from⟨n2,Src.at aq,ct⟩).focus 1 rfl;rw[Atx]at U;refine G.k 44 2 32 (.agg #[.slice none 0 0,.int .i64 0]) mx (L.map Fy) [Fy (S,w,ya,yc)] (.slice na L.length nc) cr 0 1 1 U cp (Aea (S,w,ya,yc)) ?_;intro ez d8 a0;rw[show L.map Fy++[Fy (S,w,ya,yc)]=(L++[(S,w,ya,yc)]).map Fy by rw[A02];rfl]at a0;obtain⟨ba,bb,rfl⟩:=a0.shape;have bq:((L++[(S,w,ya,yc)]).map Fy).length=(L++[(S,w,ya,yc)]).length:=A0k ..;rw[bq]at a0⊢;have bi:=K (Acr ba bb (L++[(S,w,ya,yc)])) d8 a0;have b3:=((V.trans b4).trans b5).trans b6;have lx:=(((b3.trans aj).trans c8).trans b7).trans (c9.trans ca);refine G.s i 1 (i-1:Nat)<|G.b (hJ (i-1,b2,L++[(S,w,ya,yc)],(ba,bb)) _ _ _ cV (ai.trans lx) ⟨by dsimp only;simp;omega,bp,?_,?_,bi⟩ dV)
 ·intro y N;rcases A04.1 N with N|N
  ·exact hW.mono lx y N
  simp only[A07]at N;subst N;refine⟨?_,hS,d1,d2⟩;exact hY.mono ((b7.trans c9).trans ca)
 intro y N;rcases A04.1 N with N|N
 ·exact a9 y N
 simp only[A07]at N;subst N;exact⟨hS0,hS1⟩
end
def Axa (n:Nat)(X:List (List Rat))(y:Nat->Rat):Prop:=∀ i,i<n->Bx n (fun j=>en X i j*y j)=0
theorem Anx {n r c p:Nat}{X:List (List Rat)}{y:Nat->Rat}(h:Rec n (n+1) X)(m:r<n)(hp:p<n)(P:c<n)(h0:en X p c≠0)(L:Axa n (I7 X r c p) y):Axa n X y:=by
 have E:Rec n (n+1) (if p=r then X else Hr X p r):=by
  split
  ·exact h
  exact Lw h hp m
 have d:∀ i j,en (if p=r then X else Hr X p r) i j=if i=r then en X p j else if i=p then en X r j else en X i j:=fun i j=>by
  split
  ·rename_i e;subst e;split
   ·rename_i e;rw[e]
   rfl
  rw[Qz h hp m]
 have C:∀ k j,k<n->j<n+1->en (I7 X r c p) k j=if k=r then en X p j*(1/en X p c) else (if k=p then en X r j else en X k j)-(if k=p then en X r c else en X k c)*(en X p j*(1/en X p c)):=by
  intro k j J I;unfold I7;rw[h.1,Ac2 m oV n 0 _ oV (Rj E m) k j I,Im E m k j,Im E m k c,Im E m r j,if_pos rfl,d k j,d k c,d r j,d r c,if_pos rfl,if_pos rfl];by_cases e:k=r
  ·rw[if_neg oV,if_pos e,if_pos e,if_pos e]
  rw[if_pos ⟨oV,oV,e⟩,if_neg e,if_neg e,if_neg e,if_neg e,if_neg e]
 have O:en X p c*(1/en X p c)=1:=by grind
 generalize 1/en X p c=q at *
 have z:Bx n (fun j=>en X p j*y j)=0:=by
  have t:=L r m;rw[A3 (g:=fun j=>(en X p j*q)*y j) fun j I=>by rw[C r j m oV,if_pos rfl],Aey]at t;generalize Bx n (fun j=>en X p j*y j)=S at *
  have:en X p c*(q*S)=en X p c*0:=by rw[t]
  grind
 have u:∀ k,k<n->k≠r->Bx n (fun j=>(if k=p then en X r j else en X k j)*y j)=0:=by
  intro k J K;have t:=L k J;rw[A3 (g:=fun j=>((if k=p then en X r j else en X k j)-((if k=p then en X r c else en X k c)*q)*en X p j)*y j) fun j I=>by rw[C k j J oV,if_neg K];grind,Agk,z]at t;grind
 intro i N;by_cases F:i=p
 ·rw[F];exact z
 by_cases H:i=r
 ·have t:=u p hp (fun e=>F (by rw[H,e]));rw[H];simpa using t
 have t:=u i N H;simpa[F] using t
def Aac (n i:Nat)(f:Nat->Rat)(d:i<n):Bx n (fun k=>if k=i then f k else 0)=f i:=by
 unfold Bx;exact Nb (f:=f) List.nodup_range (A5x.2 d)
theorem Aes {n:Nat}:∀ f c P X d,c+f=n->P.length=c->Rec n (n+1) X->(∀ i j,i<n->j<c->en X i j=if i=j then 1 else 0) ->
 (B9 f c P X d).1.length<n->∃ y,Axa n X y/\∃ j,j<n/\y j≠0
 |0,c,P,X,d,hc,hP,h,hu,t=>by
  have K:B9 0 c P X d=(P,X,d):=rfl;rw[K]at t;simp only at t;omega
 |f+1,c,P,X,d,hc,hP,h,hu,t=>by
  revert t
  unfold B9;rw[if_pos (show P.length<X.length by rw[h.1];omega)];obtain⟨T,U⟩:=R9 X c (X.length-P.length) P.length;have N:=Vp X c (X.length-P.length) P.length;have O:=V1 X c (X.length-P.length) P.length;generalize Eh X c (X.length-P.length) P.length=p at *
  have R:=h.1;split
  ·rename_i hpx;intro _;have L:∀ i,c<=i->i<n->en X i c=0:=fun i H I=>N i oV oV;obtain⟨y,J⟩:∃ y:Nat->Rat,y=fun j=>if j<c then -(en X j c) else if j=c then 1 else 0:=⟨_,rfl⟩
   refine⟨y,fun i E=>?_,c,oV,?_⟩
   ·rw[A3 (g:=fun j=>(if j=c then en X i c else 0)+if j=i then (if i<c then -(en X i c) else 0) else 0) fun j Q=>by
     rw[J];dsimp only;by_cases C:j<c
     ·rw[if_pos C,hu i j E C,if_neg (show ¬ j=c by omega)];by_cases m:i=j
      ·rw[if_pos m,if_pos m.symm,if_pos oV,m];grind
      rw[if_neg m,if_neg (Ne.symm m)];grind
     rw[if_neg C];by_cases m:j=c
     ·rw[if_pos m,if_pos m,m];by_cases z:c=i
      ·rw[if_pos z,if_neg oV];grind
      rw[if_neg z];grind
     rw[if_neg m,if_neg m];by_cases z:j=i
     ·rw[if_pos z,if_neg oV];grind
     rw[if_neg z];grind,Ju,Aac n c (fun _=>en X i c) oV,Aac n i (fun _=>if i<c then -(en X i c) else 0) E]
    by_cases e:i<c
    ·rw[if_pos e];grind
    rw[if_neg e,L i oV E];decide +kernel
   rw[J];dsimp only;rw[if_neg (Nat.lt_irrefl _),if_pos rfl];decide +kernel
  rename_i hpx;intro t;have u:p<n:=oV;have h0:=O oV;rw[hP]at t;have F:=Wx h oV (show c<n by omega) u oV h0 hu;obtain⟨y,H,I⟩:=Aes f (c+1) (P++[c]) (I7 X c c p) _ oV (by simp[hP]) (We h oV u) F t;exact⟨y,Anx h oV u oV h0 H,I⟩
def Al8 {A:List (List Rat)}{b:List Rat}(h:Sq A)(n:∀ y:Nat->Rat,(∀ i,i<A.length->Bx A.length (fun j=>en A i j*y j)=0)->∀ j,j<A.length->y j=0):¬ (B9 A.length 0 [] (Ie A b) 1).1.length<A.length:=fun e=>by
 obtain⟨y,m,j,d,t⟩:=Aes A.length 0 [] (Ie A b) 1 oV rfl (Acg (b:=b) h) (fun i j _ d=>absurd d (Nat.not_lt_zero _)) e;exact t (n y (fun i g=>(A3 fun j d=>by rw[Vm h g d]).trans (m i g)) j d)
def Yt {u:PH}{v cv:Value}{T:List (List UInt8×Nat)}{R:List Bw}{F:List Ao}{lab:Int}{C:CF}{K k N:Nat}{P:List Par}{q:Rat}(h:Y3 u v cv T R F lab C K k P)(L:Gw q)(g:Ib N C)(O:N<=14436727200)(m:∀ z,0<=Cp z P C)(V:∀ z,0<=sqC z P C) :
 Fn0 prog 14 [v,cv,.string (mkS (Ag q))] u fun r u'=>(∃ e:Int,e≠0/\(k=0/\e=12\/k≠0/\11<P.length)/\r=.tuple #[.agg #[.string (mkS []),.slice none 0 0],.int .i64 e]) \/
  (k≠0/\P.length<=11/\∃ Z m0 qs,qs.length=P.length/\r=.tuple #[Z,.int .i64 0]/\Of u' Z m0 (P.zip qs)/\Q6 P m0 (P.zip qs)/\Fq P C q (cfE m0 (P.zip qs))/\∀ e∈Ae P,De 172 157 (cfE m0 (P.zip qs) e)):=by
 have Y:=Aez h L;have J:=h.prm.1;have n:=h.mom;obtain⟨xa,xc,xb,xd,xe,xf,rfl,_⟩:=id h.sch;obtain⟨a1,n1,c1,a2,n2,c2,rfl⟩:=id h.cof.opn;refine Fn0.o func14<|G.c call37 Y ?_;rintro v1 u1 l1 (⟨e,he,hwhy,rfl⟩|⟨hk,hP11,pa,pc,ya,yc,ra,rc,rfl,hPL,hM,hR⟩)
 ·exact G.nT' e 0 he<|G.r (.tuple #[.agg #[.string (mkS []),.slice none 0 0],.int .i64 e]) ⟨rfl,.inl ⟨e,he,hwhy,rfl⟩⟩
 refine G.nF 0 0 ?_;have Q:1<=C.c:=by
  rw[n.c];have:((1:Nat):Rat)<=(k:Rat):=A4t.2 oV;simpa using this
 have W:=O4 (P:=P) (C:=C) (q:=q);have E:=J.nodup Dl;have I:=Aqz g O L hP11;refine G.c call38 (Al4 (A:=Nx C P q) (b:=Wy C P) hM hR I (by rw[Ars,W.1]) (by rw[W.1];omega) (Aq8 g O L) (Aux g O) (Ayo E g O L hP11 Q m V)) ?_;rintro v2 u2 l2 (⟨e,he,hsh,rfl⟩|⟨qs,lv,rfl,hql,hsol,hS⟩)
 ·exact absurd hsh (Al8 I (At4 E (n.cpos hk) L.pos m))
 rw[W.1]at hql;cases qs with
 |nil=>simp at hql
 |cons m0 qs =>
  have d:qs.length=P.length:=by simpa using hql
  have hn:=Uf I hsol (P9 E d);have hd:=Ali g O L hP11 Q m V hn;have H:=Ax4 J d hd;have hT:∀ x∈qs,Tx x:=fun x hx=>by
   obtain⟨j,hj,rfl⟩:=A2b.1 hx;exact H.t (P[j],qs[j]) (A2b.2 ⟨j,gV,mV⟩)
  obtain⟨la,lc,X⟩:=Ab.opn hS;subst X;refine G.nF 0 0<|G.c call39 (Agq (hPL.mono l2) hS J d oV H.c hT) ?_;rintro v3 u3 l3 ⟨Z,rfl,U⟩;obtain⟨ma,mc,rfl,_⟩:=id U.val;exact G.r (.tuple #[.agg #[.string (mkS (Ag m0)),.slice ma (P.zip qs).length mc],.int .i64 0]) ⟨rfl,.inr ⟨hk,hP11,_,m0,qs,d,rfl,U,H,hn,hd⟩⟩
section
def Aia {κ:Type}(c:κ->κ->Int)(a:κ):List κ->List κ
 |[]=>[a]
 |b::l=>if c a b<0 then a::b::l else b::Aia c a l
def W6 {κ:Type}{c:κ->κ->Int}{a x:κ}:∀ {l:List κ},x∈Aia c a l↔x=a\/x∈l
 |[]=>by simp[Aia]
 |b::l=>by
  unfold Aia;split
  ·simp
  rw[A0v,W6,A0v];constructor
  ·rintro (h|h|h)
   ·exact .inr (.inl h)
   ·exact .inl h
   exact .inr (.inr h)
  rintro (h|h|h)
  ·exact .inr (.inl h)
  ·exact .inl h
  exact .inr (.inr h)
def Abd {κ:Type}{c:κ->κ->Int}(h:Ord c){a:κ}:∀ {l:List κ},D5 c l->a∉l->D5 c (Aia c a l)
 |[],_,_=>A85 _ _
 |b::l,hs,hn=>by
  obtain⟨m,n⟩:=A5j.1 hs;unfold Aia;split
  ·rename_i hab;refine A5j.2 ⟨fun x d=>?_,hs⟩;rcases A0v.1 d with rfl|d
   ·exact hab
   exact h.trans _ _ _ hab (m x d)
  rename_i hab;have j:a≠b:=fun e=>hn (by rw[e];simp);have g:c b a<0:=by
   rw[h.sym];have:c a b≠0:=fun e=>j (h.eq _ _ e);omega
  refine A5j.2 ⟨fun x d=>?_,Abd h n fun e=>hn (A01 _ e)⟩;rcases W6.1 d with rfl|d
  ·exact g
  exact m x d
def T7 {κ:Type}{c:κ->κ->Int}(h:Ord c):∀ l:List κ,l.Nodup->∃ L,D5 c L/\∀ a,a∈L↔a∈l
 |[],_=>⟨[],List.Pairwise.nil,fun _=>Iff.rfl⟩
 |a::l,hn=>by
  obtain⟨g,j⟩:=A3a.1 hn;obtain⟨L,m,d⟩:=T7 h l j;exact⟨Aia c a L,Abd h m fun e=>g ((d a).1 e),fun x=>by rw[W6,d,A0v]⟩
def Ayw {u:PH}{cv:Value}{F:List Ao}{C:CF}{K:Nat}(h:J0 u cv C K):∃ P,Dk F C P:=by
 obtain⟨A,Q,j,n,m,t,rfl,E,H,d,z,I,J⟩:=h;obtain⟨L,e,g⟩:=T7 Dl (Ka F++Iu F A A.length) (Ty (d.srt.nodup Dl));exact⟨L,e,fun p=>(g p).trans (Z6 d)⟩
section
variable {u:PH} {b:Bool} {mm:Nat} {R:List Bw} {L:List Cr} {xv lv cv:Value}
def O6.tup (w:O6 u b mm R L xv lv cv):∀ y∈L,Bp (t18 b) y.1/\1<=y.2.1:=fun y d=>by
 obtain⟨_,e,g,_⟩:=w.wok y d;exact⟨e,g⟩
structure F3 (u:PH)(b:Bool)(mm:Nat)(R:List Bw)(L:List Cr)(xv cv:Value)(k N:Nat)(P:List Par):Prop where
 w:Mx u xv cv (t18 b) R (f18 mm b) 2 (Ax (f18 mm b) 2 L) (255*L.length) k
 tup:∀ y∈L,Bp (t18 b) y.1/\1<=y.2.1
 n0:Amc (f18 mm b) 2 L 0 N
 n1:Amc (f18 mm b) 2 L 1 N
 prm:Dk (f18 mm b) (Ax (f18 mm b) 2 L) P
 d:CFD 16 (10^75) (Ax (f18 mm b) 2 L)
def F3.mono {k N:Nat}{P:List Par}{u':PH}(w:F3 u b mm R L xv cv k N P)(l:PH.le u u'):F3 u' b mm R L xv cv k N P:=⟨w.w.mono l,w.tup,w.n0,w.n1,w.prm,w.d⟩
def O6.deps (w:O6 u b mm R L xv lv cv):∃ k N P,F3 u b mm R L xv cv k N P:=by
 have hT:=w.wok.tup;have h:=w.tup;have C:=w.l6;have H:=Alr b;have d:=fun (P:List Par) (e:Dk (f18 mm b) (Ax (f18 mm b) 2 L) P)=>Asp w.ok h e w.n18;obtain⟨k,E⟩:=Avm w.sch w.ok oV hT oV (fun P e=>by have:=(d P e).2.2;omega) oV w.cof oV;obtain⟨P,e⟩:=Ayw (F:=f18 mm b) w.cof;have j:=Z0 w.ok w.ok.l1 (M9 w.ok) hT;have g:=fun (P:List Par) z=>Ara w.ok.feat w.ok.l1 (M9 w.ok) z P fun y n=>(hT y n).1;have m:=fun (P:List Par) z=>Ayx w.ok.feat w.ok.l1 (M9 w.ok) z P fun y n=>(hT y n).1;have t:L.length*2406121200<=14436727200:=oV
 exact⟨k,L.length*2406121200,P,E,h,⟨fun P e=>⟨(d P e).2.2,(d P e).1⟩,j,t,g,m⟩,⟨fun P e=>⟨(d P e).2.2,A0l (d P e).2.1 oV⟩,j,t,g,m⟩,e,Azj w.ok oV hT C⟩
variable {k N:Nat} {P:List Par}
def F3.m01 (w:F3 u b mm R L xv cv k N P):Ii u xv cv (t18 b) R (f18 mm b) 2 L (255*L.length) k 0 1 0 1 0 0:=⟨w.w,w.tup,T0 mm b,Yc mm b,oV⟩
def F3.m10 (w:F3 u b mm R L xv cv k N P):Ii u xv cv (t18 b) R (f18 mm b) 2 L (255*L.length) k 1 0 1 0 0 0:=⟨w.w,w.tup,Yc mm b,T0 mm b,oV⟩
def F3.meas (w:F3 u b mm R L xv cv k N P):Y3 u xv cv (t18 b) R (f18 mm b) 2 (Ax (f18 mm b) 2 L) (255*L.length) k P:=⟨w.w.sch,w.w.ok,w.w.cof,w.w.sC,w.w.vC,w.w.K,w.w.bel,w.w.mom,w.prm,w.w.p24 P w.prm,oV,w.d⟩
def F3.p10 (w:F3 u b mm R L xv cv k N P):P.length<=10:=(w.n0.p10 P w.prm).1
end
def Ays {lab:Int}{L:List Cr}{d:Nat×Nat}{b:Bool}{mm:Nat}(h:Td (f18 mm b) lab L d):(d=(0,1)/\Fw (f18 mm b) lab L 0 1)\/(d=(1,0)/\Fw (f18 mm b) lab L 1 0):=by
 obtain⟨z,C⟩:=d;obtain⟨e,a,m,t,E,g,j,n⟩:=h;simp only at e g j;have key:∀ (i a m:Nat),(f18 mm b)[i]?=some (a,2,m)->(i=0/\a=0)\/(i=1/\a=1):=fun i a m h=>by
  cases b
  ·match i,h with
   |0,h=>cases h;exact .inl ⟨rfl,rfl⟩
   |1,h=>cases h;exact .inr ⟨rfl,rfl⟩
   |i+2,h=>simp[f18]at h
  match i,h with
  |0,h=>cases h;exact .inl ⟨rfl,rfl⟩
  |1,h=>cases h;exact .inr ⟨rfl,rfl⟩
  |2,h=>simp[f18]at h
  |i+3,h=>simp[f18]at h
 rcases key z a m g with ⟨rfl,rfl⟩|⟨rfl,rfl⟩<;>rcases key C t E j with ⟨rfl,rfl⟩|⟨rfl,rfl⟩
 ·exact absurd rfl e
 ·exact .inl ⟨rfl,n⟩
 ·exact .inr ⟨rfl,n⟩
 exact absurd rfl e
end
def Aaa {u:PH}{v e:Value}{m0:Rat}{M:List (Par×Rat)}(h:Of u v m0 M)(g:Of u e m0 M)(m:M.length<=1000000) :
 Fn0 prog 17 [v,e] u fun r _=>r=.bool true:=by
 obtain⟨a,c,rfl,j⟩:=h.val;obtain⟨n,t,rfl,d⟩:=g.val;refine Fn0.o func17<|G.q (Ag m0) (Ag m0) rfl<|G.c call41 (Anc j d m) ?_;rintro E C z rfl;exact G.r (.bool true) ⟨rfl,rfl⟩
def Ah0:Gw 1:=⟨jV,⟨30,jV,fV⟩,O3.tx⟩
section
variable {P:List Par}{R:List Bw}{g1 g2 g3:Nat}{u:PH}
def Om :Fn0 prog 30 [] u fun r d=>∃ g c,Ic d r (t18 false) (r18 false g c) (f18 0 false) 2/\B2 d (t18 false) (r18 false g c) (f18 0 false) 2:=by
 refine Fn0.weak (Afr (u:=u)).giveAll ?_;rintro v d ⟨H,F,h,l2,g1,g2,g3,E,rfl,hT,z,hF,t⟩;obtain rfl:=Ajs t;have n:ElP d g3 0 (.agg #[.string (mkS [114]),.slice (some ⟨g2,0,none⟩) 3 3]):=Jg (xs:=[Value.string (mkS [114]),.slice (some ⟨g2,0,none⟩) 3 3]) (l2 _ _ (By _ _)) rfl;have C:Ab d (.slice (some ⟨g3,0,none⟩) 1 1) 2 ((r18 false g2 3).map Ai6):=⟨_,1,rfl,A0s _,fun j e m=>by
  have:j=0:=by have:=(A0o.1 m).1;simp[r18]at this;omega
  subst this;cases m;exact⟨g3,0,rfl,n⟩⟩
 exact⟨g2,3,⟨_,_,_,_,_,_,rfl,hT.mono h,C,hF.mono h⟩,Ay5 false oV (z.mono h)⟩
def F3.re {g:Nat}{b:Bool}{R h:List Bw}{L:List Cr}{n e j:Value}{k N:Nat}(w:F3 u b g R L n j k N P)(m:Ic u e (t18 b) h (f18 g b) 2)(ok:B2 u (t18 b) h (f18 g b) 2):F3 u b g h L e j k N P :=
 ⟨⟨m,ok,w.w.cof,w.w.sC,w.w.vC,w.w.K,w.w.bel,w.w.mom,w.w.p24,w.w.lab0⟩,w.tup,w.n0,w.n1,w.prm,w.d⟩
def Ha (g1 g2 g3:Nat):List Cr:=[([[97],[120],[49]],1,(some ⟨g1,0,none⟩,3)),([[98],[120],[52]],1,(some ⟨g2,0,none⟩,3)),([[99],[122],[57]],1,(some ⟨g3,0,none⟩,3))]
def Abq:List Par:=[(0,[97]),(0,[98]),(0,[99]),(1,[120]),(1,[122])]
def Ah3 {c0 g y:List UInt8}(h0:c0∈Fp)(h:g∈Gq)(j:M4 2 y):Bp (t18 false) [c0,g,y]:=⟨rfl,fun i x t d e=>by
 match i,d,e with
 |0,d,e=>cases d;cases e;exact St _ h0
 |1,d,e=>cases d;cases e;exact So _ h
 |2,d,e=>cases d;cases e;exact j
 |i+3,d,e=>simp[t18]at d⟩
def S4 (g1 g2 g3:Nat):∀ y∈Ha g1 g2 g3,Bp (t18 false) y.1/\y.2.1=1/\Df (f18 0 false) 2 y.1=true/\y.1.getD 0 []∈Fp/\y.1.getD 1 []∈Gq:=fun y d=>by
 simp only[Ha,A0v,A1q,or_false]at d;rcases d with rfl|rfl|rfl
 ·exact⟨Ah3 (by simp[Fp]) (by simp[Gq]) (.inr (.inr (.inr ⟨rfl,1,⟨jV,jV⟩,jV⟩))),rfl,(by decide +kernel:Df (f18 0 false) 2 [[97],[120],[49]]=true),(by decide +kernel : [97]∈Fp),(by decide +kernel : [120]∈Gq)⟩
 ·exact⟨Ah3 (by simp[Fp]) (by simp[Gq]) (.inr (.inr (.inr ⟨rfl,4,⟨jV,jV⟩,jV⟩))),rfl,(by decide +kernel:Df (f18 0 false) 2 [[98],[120],[52]]=true),(by decide +kernel : [98]∈Fp),(by decide +kernel : [120]∈Gq)⟩
 exact⟨Ah3 (by simp[Fp]) (by simp[Gq]) (.inr (.inr (.inr ⟨rfl,9,⟨jV,jV⟩,jV⟩))),rfl,(by decide +kernel:Df (f18 0 false) 2 [[99],[122],[57]]=true),(by decide +kernel : [99]∈Fp),(by decide +kernel : [122]∈Gq)⟩
def Aye (g1 g2 g3:Nat):Fw (f18 0 false) 2 (Ha g1 g2 g3) 0 1:=fun y d z e _ _ h=>by
 simp only[Ha,A0v,A1q,or_false]at d e;rcases d with rfl|rfl|rfl<;>rcases e with rfl|rfl|rfl<;>first|rfl|(exfalso;simp at h)
def Asr (g1 g2 g3:Nat):¬ Fw (f18 0 false) 2 (Ha g1 g2 g3) 1 0:=fun h=>by
 have d:=h ([[97],[120],[49]],1,(some ⟨g1,0,none⟩,3)) (by simp[Ha]) ([[98],[120],[52]],1,(some ⟨g2,0,none⟩,3)) (by simp[Ha]) (by decide +kernel:Df (f18 0 false) 2 [[97],[120],[49]]=true) (by decide +kernel:Df (f18 0 false) 2 [[98],[120],[52]]=true) rfl;simp at d
def Ayd (ok:B2 u (t18 false) R (f18 0 false) 2):Dk (f18 0 false) (Ax (f18 0 false) 2 (Ha g1 g2 g3)) Abq:=by
 have hT:∀ y∈Ha g1 g2 g3,Bp (t18 false) y.1/\1<=y.2.1:=fun y d=>⟨(S4 g1 g2 g3 y d).1,by rw[(S4 g1 g2 g3 y d).2.1];omega⟩;have g:=fun y d=>(S4 g1 g2 g3 y d).2.2.1;have h0:=fun c=>Me ok hT (T0 0 false) c;have h:=fun c=>Me ok hT (Yc 0 false) c;refine⟨by unfold D5 Abq;decide +kernel,fun p=>?_⟩;constructor
 ·intro hp;right;simp only[Abq,A0v,A1q,or_false]at hp;rcases hp with rfl|rfl|rfl|rfl|rfl
  ·exact⟨(h0 [97]).2 ⟨_,A1g ..,g _ (A1g ..),rfl⟩,0,_,rfl,T0 0 false,rfl⟩
  ·exact⟨(h0 [98]).2 ⟨_,A01 _ (A1g ..),g _ (A01 _ (A1g ..)),rfl⟩,0,_,rfl,T0 0 false,rfl⟩
  ·exact⟨(h0 [99]).2 ⟨_,A01 _ (A01 _ (A1g ..)),g _ (A01 _ (A01 _ (A1g ..))),rfl⟩,0,_,rfl,T0 0 false,rfl⟩
  ·exact⟨(h [120]).2 ⟨_,A1g ..,g _ (A1g ..),rfl⟩,1,_,rfl,Yc 0 false,rfl⟩
  exact⟨(h [122]).2 ⟨_,A01 _ (A01 _ (A1g ..)),g _ (A01 _ (A01 _ (A1g ..))),rfl⟩,1,_,rfl,Yc 0 false,rfl⟩
 rintro (⟨i,f,rfl,hf,hk⟩|⟨hne,i,f,hi,hf,hk⟩)
 ·match i,hf with
  |0,hf=>cases hf;cases hk
  |1,hf=>cases hf;cases hk
  |i+2,hf=>simp[f18]at hf
 obtain⟨m,j⟩:=p;simp only at hi;subst hi
 match i,hf with
 |0,hf =>
  obtain⟨y,d,_,e⟩:=(h0 j).1 hne;simp only[Ha,A0v,A1q,or_false]at d;rcases d with rfl|rfl|rfl<;>(rw[<-e];simp[Abq])
 |1,hf =>
  obtain⟨y,d,_,e⟩:=(h j).1 hne;simp only[Ha,A0v,A1q,or_false]at d;rcases d with rfl|rfl|rfl<;>(rw[<-e];simp[Abq])
 |i+2,hf=>simp[f18]at hf
def Az6 (ok:B2 u (t18 false) R (f18 0 false) 2):(Ax (f18 0 false) 2 (Ha g1 g2 g3)).c=3:=by
 rw[(Lf (F:=f18 0 false) (lab:=2) (L:=Ha g1 g2 g3)).1,Aj (g:=fun _=>(1:Rat)) fun y j=>by
  obtain⟨d,e,h,_⟩:=S4 g1 g2 g3 y j;rw[(Aot ok d h).c,e];decide +kernel]
 show (1:Rat)+(1+(1+0))=3;decide +kernel
def An4 {C:CF}{q c0 m0:Rat}{qs d:List Rat}(g:P.Nodup)(t:0<q)(m:0<C.c)(hp:∀ z,0<=Cp z P C)(n:qs.length=P.length)(e:d.length=P.length)(h:Fq P C q (cfE c0 (P.zip qs)))(j:Fq P C q (cfE m0 (P.zip d))):c0=m0/\qs=d :=
 Ank g n e (Amj h j t m hp)
def Ac9 (ht:Ls u):Fn0 prog 7 [] u fun r _=>r=.bool true:=by
 refine Fn0.o func7<|G.c call30 Om ?_;rintro v1 u1 l1 ⟨gi,ci,O,z⟩;obtain⟨xa,xc,xb,xd,xe,xf,rfl,_⟩:=id O;refine G.B 9 1 16 (.string (mkS [])) ([[97],[120],[49]].map nmV) (D8 [[97],[120],[49]]) ?_;intro g2 u2 l2 e2;refine G.B 9 1 16 (.string (mkS [])) ([[98],[120],[52]].map nmV) (D8 [[98],[120],[52]]) ?_;intro g3 u3 l3 e3;refine G.B 9 1 16 (.string (mkS [])) ([[99],[122],[57]].map nmV) (D8 [[99],[122],[57]]) ?_;intro h u4 l4 e4;refine G.buildU 44 2 32 (.agg #[.slice none 0 0,.int .i64 0]) ((Ha g2 g3 h).map Fy) kV (fun x hx=>by
  simp only[Ha,A1t,A38,A0v,A1q,or_false]at hx;rcases hx with rfl|rfl|rfl<;>exact⟨rfl,A06.1 rfl⟩) rfl oV (by simp[Ha]) (by simp[Ha]) ?_
 intro g5 u5 l5 e5;have d:Ab u5 (.slice (some ⟨g5,0,none⟩) (Ha g2 g3 h).length 3) 2 ((Ha g2 g3 h).map Fy):=e5.listP;have hW:WOK u5 (t18 false) (Ha g2 g3 h):=fun y hy=>by
  obtain⟨q1,q2,_⟩:=S4 g2 g3 h y hy;refine⟨?_,q1,oV,oV⟩;simp only[Ha,A0v,A1q,or_false]at hy;rcases hy with rfl|rfl|rfl
  ·exact e2.listP.mono ((l3.trans l4).trans l5)
  ·exact e3.listP.mono (l4.trans l5)
  exact e4.listP.mono l5
 have W:=((l2.trans l3).trans l4).trans l5;refine G.c call29 (Pi (O.mono W) (z.mono W) fV d hW (by simp[Ha])) ?_;rintro v6 u6 l6 ⟨x,rfl,k6⟩;have m:=W.trans l6;have w6:O6 u6 false 0 _ (Ha g2 g3 h) _ _ x:=⟨oV,O.mono m,z.mono m,d.mono l6,hW.mono l6,fun y hy=>(S4 g2 g3 h y hy).2.2.2,by simp[Ha],k6⟩;obtain⟨k,N,P,w⟩:=w6.deps;obtain rfl:=w.prm.eq (Ayd (z.mono m));have a0:=Az6 (g1:=g2) (g2:=g3) (g3:=h) (z.mono m);have g:=Aye g2 g3 h;have Q:=Asr g2 g3 h;have a6:=Adx w.w.ok w.tup w.prm (T0 0 false) (Yc 0 false) g;have T:tgL (Ax (f18 0 false) 2 (Ha g2 g3 h)) Abq ((0:Nat):Int) ((1:Nat):Int) [98] = [120]:=a6 ([[98],[120],[52]],1,(some ⟨g3,0,none⟩,3)) (by simp[Ha]) (by decide +kernel:Df (f18 0 false) 2 [[98],[120],[52]]=true);clear a6 d hW w6;generalize Ha g2 g3 h=L at *
 have h0:k≠0:=by
  rintro rfl;have:=w.w.mom.c;rw[a0]at this;exact absurd this jV
 have ae:0<(Ax (f18 0 false) 2 L).c:=by rw[a0];decide +kernel
 have a5:=ht.mono (l1.trans m);obtain⟨a1,n1,c1,a2,n2,c2,rfl⟩:=w.w.cof.opn;refine G.c call30 Om ?_;rintro v7 u7 l7 ⟨g7,c7,Y,ai⟩;obtain⟨ya,yc,yb,yd,ye,yf,rfl,_⟩:=id Y;have w7:=(w.mono l7).re Y ai;have a4:=Ue (a5.mono l7) w7.m01 w7.n0 Ah0;rw[Vs]at a4;refine G.c call18 a4 ?_;rintro v8 u8 l8 (⟨hd,rfl⟩|⟨hd,h00,rfl⟩|⟨hd,_,P1,mv,d0,qs,hPL,hlen,rfl,hmv,hok,hrs⟩)
 ·exact absurd g hd
 ·exact absurd h00 h0
 obtain rfl:=hPL.eq w.prm;obtain⟨ma,mc,K,au⟩:=id hmv.val;subst K;have X:=l7.trans l8;refine G.c call30 Om ?_;rintro v9 u9 l9 ⟨g9,c9,Z,aj⟩;obtain⟨za,zc,zb,zd,ze,zf,rfl,_⟩:=id Z;have w9:=(w.mono (X.trans l9)).re Z aj;refine G.c call19 (Uk (a5.mono (X.trans l9)) w9.m01 w9.n0 g h0 w9.prm hlen (hmv.mono l9) hok fun p hp=>(hrs.full _ (Nr hp)).tx oV oV oV oV) ?_;rintro b5 ax ag ⟨aw,rfl,H⟩;obtain⟨na,nc,K,_⟩:=id H.val;subst K;have af:=T1 hrs.norm (Alq (c0:=d0) (w.prm.1.nodup Dl) rfl);have I:=(X.trans l9).trans ag;refine G.c call30 Om ?_;rintro b6 ay U ⟨ap,am,C,ab⟩;obtain⟨wa,wc,wb,wd,we,wf,rfl,_⟩:=id C;have n:=(w.mono (I.trans U)).re C ab;have a7:=Yt n.meas Ah0 n.n0.cd n.n0.N (n.n0.psd _) (n.n0.sq _);rw[Vs]at a7;refine G.c call14 a7 ?_;rintro b7 az a8 (⟨e,_,⟨hk,_⟩|⟨_,hP11⟩,rfl⟩|⟨_,_,mv3,m0,qs3,hq3,rfl,hmv3,hm3,hn3,_⟩)
 ·exact absurd hk h0
 ·exact absurd hP11 fV
 obtain⟨ta,tc,K,_⟩:=id hmv3.val;subst K;obtain⟨rfl,rfl⟩:=An4 (w.prm.1.nodup Dl) Ah0.pos ae (w.n0.psd _) mV hq3 af hn3;have J:=(I.trans U).trans a8;refine G.c call30 Om ?_;rintro b8 b0 t ⟨aq,an,E,ac⟩;obtain⟨va,vc,vb,vd,ve,vf,rfl,_⟩:=id E;have ak:=(w.mono (J.trans t)).re E ac;refine G.c call11 (Akp ak.m01) ?_;rintro b9 b1 V (⟨_,P2,qa,qc,hPL2,rfl,hpr⟩|⟨hd,rfl⟩)
 rotate_left
 ·exact absurd g hd
 obtain rfl:=hPL2.eq w.prm;refine G.eT' 0 0 rfl<|G.eT' 0 0 rfl<|G.eT' 0 0 rfl ?_;have a3:((Au Abq ((1:Nat):Int)).zip qs).length=3:=by rw[A6j,hlen];decide
 rw[a3];refine G.eT' 3 3 rfl ?_;have aa:=(J.trans t).trans V;refine G.c call17 (Aaa (H.mono (((U.trans a8).trans t).trans V)) (hmv3.mono (t.trans V)) (by simp[Abq])) ?_;rintro ba b2 a9 rfl;refine G.eT' 0 0 rfl<|G.eT' 3 3 rfl ?_;obtain⟨bq,oq,K,eq⟩:=Ab.at' (hpr.mono a9) (j:=1) (e:=Ix ([98],[120])) (by
  rw[A0n,show (A2 Abq ((0:Nat):Int))[1]?=some [98] from rfl,A3g,T])
 subst K;refine G.a bq oq 3 qc 1 2 oV<|G.lU (some 2) bq (oq+1*2) (.agg #[.string (mkS [98]),.string (mkS [120])]) eq<|G.buildArr1 51 9 [98] [120] kV kV kV kV<|G.eqAgg 51 (Agp [98] [120]) (Agp [98] [120]) true kV kV kV (fun w=>by
  have:=Ax3 [98] [120] [98] [120] w;rwa[decide_eq_true ⟨rfl,rfl⟩]at this) ?_
 refine G.c call30 Om ?_;rintro bb b3 ah ⟨ar,ao,F,ad⟩;obtain⟨sa,sc,sb,sd,se,sf,rfl,_⟩:=id F;have al:=(w.mono ((aa.trans a9).trans ah)).re F ad;refine G.c call12 (Ti al.m10) ?_;rintro bd b4 av (⟨hd,rfl⟩|⟨hd,rfl⟩)
 ·exact absurd hd Q
 exact G.r (.bool true) ⟨rfl,rfl⟩
end
def Akt {u:PH}{v:Value}{ts:List Int}(ht:Ls u)(hv:Ab u v 1 (Er ts))(a6:∀ t∈ts,-9223372036854775808<=t)(a4:∀ t∈ts,t<=9223372036854775807) :
 Fn0 prog 4 [v] u fun v' _=>v'=.bool true:=by
 obtain⟨a,c,rfl⟩:=hv.opn;rw[Ch]at hv⊢;refine Fn0.o func4 ?_;by_cases aa:400<ts.length
 ·refine G.gT ts.length 400<|G.c call7 (Ac9 ht) ?_;rintro v1 u1 l1 rfl;exact G.r (.bool true) ⟨rfl,rfl⟩
 refine G.gF ts.length 400<|G.callO _ _ kV call9 (Ajf hv oV a6 a4) ?_;rintro v1 u1 m1 l1 ⟨s,rfl,rfl,hs⟩ _;rw[Cm];refine G.A call8 (Aj6 hs (A1c _)) ?_;rintro v2 u2 m2 l2 ⟨b,U,R,L,xv,lv,cv,k2,rfl,w,a5,rfl⟩ _;rw[Cm];obtain⟨k,N,P,z⟩:=w.deps;have a8:=ht.mono (l1.trans l2);obtain⟨la,lc,rfl⟩:=w.rows.opn;clear w;obtain⟨xa,xc,xb,xd,xe,xf,rfl,_⟩:=id z.w.sch;obtain⟨a1,n1,c1,a2,n2,c2,rfl⟩:=id z.w.cof.opn;refine G.A call13 (Aef (hs.mono l2) a5) ?_;rintro v3 u3 m3 l3 ⟨q,k3,rfl,hq,ae,rfl⟩ _;rw[Cm];refine G.drop PH.mt kV (PH.mt_le _) ?_;have Y:=z.mono l3;refine G.c call14 (Yt Y.meas hq z.n0.cd z.n0.N (z.n0.psd _) (z.n0.sq _)) ?_;intro v4 u4 l4 E;have ad:=z.p10;have a7:=z.prm.1.nodup Dl;obtain⟨e,mb,ma,mn,mc,rfl,W⟩:∃ (e:Int) (mb:List UInt8) (ma:Option Addr) (mn mc:Nat),v4=.tuple #[.agg #[.string (mkS mb),.slice ma mn mc],.int .i64 e]/\(k=0/\e=12\/k≠0/\e=0/\∃ m0 qs,qs.length=P.length/\Of u4 (.agg #[.string (mkS mb),.slice ma mn mc]) m0 (P.zip qs)/\Fq P (Ax (f18 U b) 2 L) q (cfE m0 (P.zip qs))):=by
  rcases E with ⟨e,_,⟨hk,rfl⟩|⟨_,ac⟩,rfl⟩|⟨hk,_,ag,m0,Z,K,rfl,m,af,I,_⟩
  ·exact⟨12,[],none,0,0,rfl,.inl ⟨hk,rfl⟩⟩
  ·omega
  obtain⟨ma,mc,rfl,_⟩:=id m.val;exact⟨0,_,_,_,_,rfl,.inr ⟨hk,rfl,m0,Z,K,m,I⟩⟩
 clear E;have T:=Y.mono l4;refine G.c call15 (Ans T.w T.tup) ?_;rintro v5 u5 l5 ⟨D,ab,F,H⟩;obtain⟨da,dc,rfl⟩:=F.opn;have a3:(D.map N4).length=D.length:=A0k ..;rw[a3]at F⊢;have a9:=a8.mono ((l3.trans l4).trans l5);refine G.l (ι:=Nat) (fun n=>[(4,.p 4006 0),(6,.p 4007 0),(7,tV (Ag q)),(8,.p 6007 0),(9,iV e),(37,sV da D.length dc),(38,iV D.length),(39,iV n)])
  (fun _=>[(4006,⟨28,[sV xa (t18 b).length xc,sV xb R.length xd,sV xe (f18 U b).length xf,iV 2]⟩),(4007,⟨34,[tV (Ag (Ax (f18 U b) 2 L).c),sV a1 n1 c1,sV a2 n2 c2]⟩),(6007,⟨55,[tV mb,sV ma mn mc]⟩)])
  (fun n u' m'=>n<=D.length/\m'=PH.mt) (fun n=>D.length-n) 0 ⟨oV,rfl⟩ ?_
 rintro J n hJ u6 m6 V ⟨hn,rfl⟩;have C:=T.mono (l5.trans V);have O:=a9.mono V;by_cases X:n<D.length
 ·refine G.lT n D.length ?_;obtain⟨d,hd⟩:∃ d,D[n]?=some d:=⟨_,A0i X⟩;obtain⟨bd,od,rfl,ed⟩:=Ab.at' (F.mono V) (j:=n) (e:=N4 d) (by simp[hd]);have hg:=Ays (H d (A0w hd));have Q:∃ a a',Fw (f18 U b) 2 L a a'/\Fn0 prog 16 [.agg #[.slice xa (t18 b).length xc,.slice xb R.length xd,.slice xe (f18 U b).length xf,.int .i64 2],.agg #[.string (mkS (Ag (Ax (f18 U b) 2 L).c)),.slice a1 n1 c1,.slice a2 n2 c2],.agg #[.int .i64 d.1,.int .i64 d.2],.string (mkS (Ag q))] u6 fun r u'=>Aj0 (f18 U b) 2 L k a a' q r u':=by
   rcases hg with ⟨rfl,g⟩|⟨rfl,g⟩
   ·exact⟨0,1,g,Aaj O C.m01 C.n0 hq⟩
   exact⟨1,0,g,Aaj O C.m10 C.n1 hq⟩
  obtain⟨a,a',g,Q⟩:=Q;obtain⟨d1,d2⟩:=d;refine G.a bd od D.length dc n 2 X<|G.lU (some 2) bd (od+n*2) (.agg #[.int .i64 d1,.int .i64 d2]) ed<|G.c call16 Q ?_;rintro v7 u7 l7 (⟨hd',rfl⟩|⟨_,hk0,rfl⟩|⟨_,hk0,P',mv,c0,qs,hPL,hlen,rfl,hmv,hno⟩)
  ·exact absurd g hd'
  ·unfold Xl;obtain⟨_,rfl⟩:=W.resolve_right fun h=>h.1 hk0;exact G.eF 12 0<|G.eT' 12 12 rfl<|G.nF 12 12<|G.i n<|G.b (hJ (n+1) _ _ _ cV (V.trans l7) ⟨oV,rfl⟩ oV)
  obtain⟨_,rfl,m0,Z,K,m,I⟩:=W.resolve_left fun h=>hk0 h.1;obtain rfl:=hPL.eq z.prm;have a0:=z.w.mom.cpos hk0;obtain⟨rfl,rfl⟩:=An4 a7 hq.pos a0 (z.n0.psd _) hlen K hno I;obtain⟨na,nc,e0,_⟩:=id hmv.val;subst e0;refine G.eT' 0 0 rfl<|G.nF 0 0<|G.c call17 (Aaa (m.mono ((l5.trans V).trans l7)) hmv (by rw[A6j];omega)) ?_;rintro v8 u8 l8 rfl;exact G.eF 0 12<|G.i n<|G.b (hJ (n+1) _ _ _ cV ((V.trans l7).trans l8) ⟨oV,rfl⟩ oV)
 obtain rfl:n=D.length:=oV;refine G.lF D.length D.length<|G.c call7 (Ac9 O) ?_;rintro v7 u7 l7 rfl;exact G.r (.bool true) ⟨rfl,rfl⟩
section
variable {u:PH}
def OkP (F:List Ao)(lab:Int)(a a':Nat)(y z:Cr):Prop:=Df F lab y.1=true->Df F lab z.1=true->y.1.getD a []=z.1.getD a []->y.1.getD a' []=z.1.getD a' []
def Au4 {F:List Ao}{lab:Int}{L:List Cr}{a g:Nat}:Fw F lab L a g↔∀ y∈L,∀ z∈L,OkP F lab a g y z:=⟨fun h y d z e=>h y d z e,fun h y d z e=>h y d z e⟩
def Aet {α:Type}{p:α->Prop}{l:List α}{n:Nat}{x:α}(h:l[n]?=some x):(∀ y∈l.take (n+1),p y)↔(∀ y∈l.take n,p y)/\p x:=by
 rw[A0t,h];constructor
 ·exact fun h=>⟨fun y d=>h y (A3d _ d),h x (A9n _ mV)⟩
 rintro⟨h1,h2⟩ y d;rcases A04.1 d with d|d
 ·exact h1 y d
 obtain rfl:y=x:=by simpa using d
 exact h2
def Yw {a:Option Addr}{c:Nat}{ss:List (List UInt8)}(h:Ab u (.slice a ss.length c) 1 (ss.map nmV)){i:Nat}(d:i<ss.length):∃ b o,a=some ⟨b,o,none⟩/\ElP u b (o+i*1) (.string (mkS (ss.getD i []))) :=
 Ab.at' h (by rw[A0n,A0i d,A0j,A0i d];rfl)
def Am1 {v:Value}{ts:List Int}(ht:Ls u)(hv:Ab u v 1 (Er ts))(bd:∀ t∈ts,-9223372036854775808<=t)(bb:∀ t∈ts,t<=9223372036854775807) :
 Fn0 prog 3 [v] u fun v' _=>v'=.bool true:=by
 obtain⟨a,c,rfl⟩:=hv.opn;rw[Ch]at hv⊢;refine Fn0.o func3 ?_;by_cases bo:400<ts.length
 ·refine G.gT ts.length 400<|G.c call7 (Ac9 ht) ?_;rintro v1 u1 l1 rfl;exact G.r (.bool true) ⟨rfl,rfl⟩
 refine G.gF ts.length 400<|G.callO _ _ kV call9 (Ajf hv oV bd bb) ?_;rintro v1 u1 m1 l1 ⟨s,rfl,rfl,hs⟩ _;rw[Cm];refine G.A call8 (Aj6 hs (A1c _)) ?_;rintro v2 u2 m2 l2 ⟨b,d,R,L,xv,lv,cv,k2,rfl,w,c3,rfl⟩ _;rw[Cm];obtain⟨k,N,P,hw⟩:=w.deps;have bg:=ht.mono (l1.trans l2);obtain⟨la,U,e0⟩:=w.rows.opn;have ba:=w.rows;have b9:(L.map Fy).length=L.length:=A0k ..;rw[b9]at e0;subst e0;have hW:=w.wok;have h6:=w.l6;have a5:∀ y∈L,y.1.length=(t18 b).length:=fun y hy=>(w.tup y hy).1.len;have br:3<=(t18 b).length:=by cases b<;>decide
 clear w;obtain⟨xa,xc,xb,xd,xe,xf,rfl,_⟩:=id hw.w.sch;obtain⟨a1,n1,c1,a2,n2,c2,rfl⟩:=id hw.w.cof.opn;refine G.drop PH.mt kV (PH.mt_le _)<|G.buildArrD 41 40 (0,1) (1,0) kV kV kV kV<|G.l (ι:=Nat) (fun n=>[(3,.p 3007 0),(4,sV la L.length U),(5,.p 3008 0),(33,.v (.agg #[.int .i64 0,.int .i64 1,.int .i64 1,.int .i64 0])),(34,iV n)])
  (fun _=>[(3007,⟨28,[sV xa (t18 b).length xc,sV xb R.length xd,sV xe (f18 d b).length xf,iV 2]⟩),(3008,⟨34,[tV (Ag (Ax (f18 d b) 2 L).c),sV a1 n1 c1,sV a2 n2 c2]⟩)])
  (fun n I m'=>n<=2/\m'=PH.mt) (fun n=>2-n) 0 ⟨oV,rfl⟩ ?_
 rintro J n hJ u3 m3 l3 ⟨hn,rfl⟩;by_cases be:n<2
 rotate_left
 ·obtain rfl:n=2:=oV;refine G.lF (2:Nat) 2<|G.c call7 (Ac9 (bg.mono l3)) ?_;rintro v7 u7 Z rfl;exact G.r (.bool true) ⟨rfl,rfl⟩
 refine G.lT n 2 ?_;have ab:=hw.mono l3;obtain⟨i,j,bx,c0,ai,hd⟩:∃ i j:Nat,i<=1/\j<=1/\Value.agg ((#[.int .i64 0,.int .i64 1,.int .i64 1,.int .i64 0]:Array Value).extract (n*2) (n*2+2))=.agg #[.int .i64 i,.int .i64 j]/\Ii u3 (.agg #[.slice xa (t18 b).length xc,.slice xb R.length xd,.slice xe (f18 d b).length xf,.int .i64 2]) (.agg #[.string (mkS (Ag (Ax (f18 d b) 2 L).c)),.slice a1 n1 c1,.slice a2 n2 c2]) (t18 b) R (f18 d b) 2 L (255*L.length) k i j i j 0 0:=by
  rcases (by omega:n=0\/n=1) with rfl|rfl
  ·exact⟨0,1,oV,oV,rfl,ab.m01⟩
  exact⟨1,0,oV,oV,rfl,ab.m10⟩
 refine G.idxA 40 2 2 n _ _ kV be kV kV ai ?_;have am:∀ (I:PH),PH.le u3 I->∀ y∈L,∀ tv,Ab I tv 1 (y.1.map nmV)->Fn0 prog 10 [.agg #[.slice xa (t18 b).length xc,.slice xb R.length xd,.slice xe (f18 d b).length xf,.int .i64 2],tv] I fun r _=>r=.bool (Df (f18 d b) 2 y.1):=fun I l y hy tv bk =>
  Ags ⟨(ab.mono l).w.sch,(ab.mono l).w.ok,bk,(hw.tup y hy).1⟩
 have a3:=ba.mono l3;have al:=hW.mono l3;clear ai;refine G.l (ι:=Nat×Bool) (fun r=>[(3,.p 3007 0),(4,sV la L.length U),(5,.p 3008 0),(7,.p 6001 0),(8,bV r.2),(33,.v (.agg #[.int .i64 0,.int .i64 1,.int .i64 1,.int .i64 0])),(34,iV n),(37,sV la L.length U),(38,iV L.length),(39,iV r.1)])
  (fun _=>[(3007,⟨28,[sV xa (t18 b).length xc,sV xb R.length xd,sV xe (f18 d b).length xf,iV 2]⟩),(3008,⟨34,[tV (Ag (Ax (f18 d b) 2 L).c),sV a1 n1 c1,sV a2 n2 c2]⟩),(6001,⟨40,[iV i,iV j]⟩)])
  (fun r I m'=>r.1<=L.length/\(r.2=true↔∀ y∈L.take r.1,∀ z∈L,OkP (f18 d b) 2 i j y z)/\m'=PH.mt) (fun r=>L.length-r.1) (0,true) ⟨oV,mV,rfl⟩ ?_
 rintro J2 ⟨r,w⟩ O u4 m4 l4 ⟨hr,ac,rfl⟩;simp only at hr ac O;by_cases Q:r<L.length
 ·refine G.lT r L.length ?_;obtain⟨y,hy⟩:∃ y,L[r]?=some y:=⟨_,A0i Q⟩;have H:=A0w hy;have bj:=Aet (p:=fun y=>∀ z∈L,OkP (f18 d b) 2 i j y z) hy;have aq:=a5 y H;obtain⟨F,_⟩:=al y H;have a7:=fun I l tv h=>am I l y H tv h;obtain⟨V,ol,rfl,el⟩:=Ab.at' (a3.mono l4) (j:=r) (e:=Fy y) (by simp[hy]);have bp:∀ z,OkP (f18 d b) 2 i j y z=OkP (f18 d b) 2 i j (y.1,y.2.1,y.2.2.1,y.2.2.2) z:=fun z=>rfl;obtain⟨ys,K,ya,E⟩:=y;simp only at F aq a7;refine G.a V ol L.length U r 2 Q<|G.lU (some 2) V (ol+r*2) (.agg #[.slice ya ys.length E,.int .i64 K]) el<|G.l (ι:=Nat×Bool) (fun t=>[(3,.p 3007 0),(4,sV (some ⟨V,ol,none⟩) L.length U),(5,.p 3008 0),(7,.p 6001 0),(8,bV t.2),(10,.p 10002 0),(33,.v (.agg #[.int .i64 0,.int .i64 1,.int .i64 1,.int .i64 0])),(34,iV n),(37,sV (some ⟨V,ol,none⟩) L.length U),(38,iV L.length),(39,iV r),(43,sV (some ⟨V,ol,none⟩) L.length U),(44,iV L.length),(45,iV t.1)])
   (fun _=>[(3007,⟨28,[sV xa (t18 b).length xc,sV xb R.length xd,sV xe (f18 d b).length xf,iV 2]⟩),(3008,⟨34,[tV (Ag (Ax (f18 d b) 2 L).c),sV a1 n1 c1,sV a2 n2 c2]⟩),(6001,⟨40,[iV i,iV j]⟩),(10002,⟨44,[sV ya ys.length E,iV K]⟩)])
   (fun t I m'=>t.1<=L.length/\(t.2=true↔(∀ y∈L.take r,∀ z∈L,OkP (f18 d b) 2 i j y z)/\∀ z∈L.take t.1,OkP (f18 d b) 2 i j (ys,K,ya,E) z)/\m'=PH.mt) (fun t=>L.length-t.1) (0,w) ⟨oV,by dsimp only;rw[ac];simp,rfl⟩ ?_
  rintro J3 ⟨t,w3⟩ C u5 m5 l5 ⟨bh,ad,rfl⟩;simp only at bh ad C;by_cases T:t<L.length
  ·refine G.lT t L.length ?_;obtain⟨z,hz⟩:∃ z,L[t]?=some z:=⟨_,A0i T⟩;have ar:=A0w hz;have az:=Aet (p:=fun z=>OkP (f18 d b) 2 i j (ys,K,ya,E) z) hz;have bm:=a5 z ar;obtain⟨ae,_⟩:=al z ar;have b2:=fun I l tv h=>am I l z ar tv h;obtain⟨bz,oz,e0,ez⟩:=Ab.at' (a3.mono (l4.trans l5)) (j:=t) (e:=Fy z) (by simp[hz]);cases e0;have ap:∀ w',(w'=true↔w3=true/\OkP (f18 d b) 2 i j (ys,K,ya,E) z)->(w'=true↔(∀ y∈L.take r,∀ z∈L,OkP (f18 d b) 2 i j y z)/\∀ z∈L.take (t+1),OkP (f18 d b) 2 i j (ys,K,ya,E) z):=fun w' h=>by
    rw[h,ad,az,and_assoc]
   obtain⟨zs,zw,za,zc⟩:=z;simp only at ae bm b2;refine G.a V ol L.length U t 2 T<|G.lU (some 2) V (ol+t*2) (.agg #[.slice za zs.length zc,.int .i64 zw]) ez ?_;have a8:=l4.trans l5;have bn:∀ (I:PH),PH.le u5 I->OkP (f18 d b) 2 i j (ys,K,ya,E) (zs,zw,za,zc)->(∀ st,J3 st I PH.mt->J3 st I PH.mt):=fun _ _ _ _ h=>h;refine G.c call10 (a7 u5 a8 _ (F.mono a8)) ?_;rintro v6 u6 l6 rfl;have next:=fun (w':Bool) (h:w'=true↔w3=true/\OkP (f18 d b) 2 i j (ys,K,ya,E) (zs,zw,za,zc))=>ap w' h;cases hcy:Df (f18 d b) 2 ys with
   |false =>
    have Y:OkP (f18 d b) 2 i j (ys,K,ya,E) (zs,zw,za,zc):=fun h1=>by rw[hcy]at h1;cases h1
    exact G.i t<|G.b (C (t+1,w3) _ _ _ cV (l5.trans l6) ⟨dV,next w3 ⟨fun h=>⟨h,Y⟩,fun h=>h.1⟩,rfl⟩ dV)
   |true =>
    refine G.c call10 (b2 u6 (a8.trans l6) _ (ae.mono (a8.trans l6))) ?_;rintro v7 u7 Z rfl;cases hcz:Df (f18 d b) 2 zs with
    |false =>
     have Y:OkP (f18 d b) 2 i j (ys,K,ya,E) (zs,zw,za,zc):=fun _ h1=>by rw[hcz]at h1;cases h1
     exact G.i t<|G.b (C (t+1,w3) _ _ _ cV ((l5.trans l6).trans Z) ⟨dV,next w3 ⟨fun h=>⟨h,Y⟩,fun h=>h.1⟩,rfl⟩ dV)
    |true =>
     have af:=(a8.trans l6).trans Z;obtain⟨g,m,rfl,aj⟩:=Yw (F.mono af) (i:=i) oV;obtain⟨au,b5,e0,ak⟩:=Yw (F.mono af) (i:=j) oV;cases e0;obtain⟨W,a0,rfl,b7⟩:=Yw (ae.mono af) (i:=i) oV;obtain⟨bs,c4,e0,b8⟩:=Yw (ae.mono af) (i:=j) oV;cases e0;refine G.a g m ys.length E i 1 oV<|G.lU none g (m+i*1) (.string (mkS (ys.getD i []))) aj<|G.a W a0 zs.length zc i 1 oV<|G.lU none W (a0+i*1) (.string (mkS (zs.getD i []))) b7 ?_;by_cases he:ys.getD i []=zs.getD i []
     rotate_left
     ·have Y:OkP (f18 d b) 2 i j (ys,K,some ⟨g,m,none⟩,E) (zs,zw,some ⟨W,a0,none⟩,zc):=fun _ _ h1=>absurd h1 he;exact G.w (ys.getD i []) (zs.getD i []) he<|G.i t<|G.b (C (t+1,w3) _ _ _ cV ((l5.trans l6).trans Z) ⟨dV,next w3 ⟨fun h=>⟨h,Y⟩,fun h=>h.1⟩,rfl⟩ dV)
     refine G.q (ys.getD i []) (zs.getD i []) he<|G.a g m ys.length E j 1 oV<|G.lU none g (m+j*1) (.string (mkS (ys.getD j []))) ak<|G.a W a0 zs.length zc j 1 oV<|G.lU none W (a0+j*1) (.string (mkS (zs.getD j []))) b8 ?_;by_cases aa:ys.getD j []=zs.getD j []
     ·have Y:OkP (f18 d b) 2 i j (ys,K,some ⟨g,m,none⟩,E) (zs,zw,some ⟨W,a0,none⟩,zc):=fun _ _ _=>aa;exact G.y (ys.getD j []) (zs.getD j []) aa<|G.i t<|G.b (C (t+1,w3) _ _ _ cV ((l5.trans l6).trans Z) ⟨dV,next w3 ⟨fun h=>⟨h,Y⟩,fun h=>h.1⟩,rfl⟩ dV)
     have av:¬ OkP (f18 d b) 2 i j (ys,K,some ⟨g,m,none⟩,E) (zs,zw,some ⟨W,a0,none⟩,zc):=fun h=>aa (h hcy hcz he);exact G.x (ys.getD j []) (zs.getD j []) aa<|G.i t<|G.b (C (t+1,false) _ _ _ cV ((l5.trans l6).trans Z) ⟨dV,next false ⟨fun h=>(by cases h),fun h=>absurd h.2 av⟩,rfl⟩ dV)
  obtain rfl:t=L.length:=oV;refine G.lF L.length L.length ?_;clear C;rw[A05]at ad;exact G.i r<|G.b (O (r+1,w3) _ _ _ cV (l4.trans l5) ⟨dV,by dsimp only;rw[ad,bj],rfl⟩ dV)
 obtain rfl:r=L.length:=oV;refine G.lF L.length L.length ?_;clear O;rw[A05,<-Au4]at ac;have an:=hd.mono l4;have a6:=hw.prm;refine G.c call11 (Akp an) ?_;rintro v5 u5 l5 (⟨hdet,P2,qa,qc,hPL2,rfl,hpr⟩|⟨hdet,rfl⟩)
 rotate_left
 ·refine G.c call12 (Ti (an.mono l5)) ?_;rintro v6 u6 l6 (⟨h,rfl⟩|⟨_,rfl⟩)
  ·exact absurd h hdet
  obtain rfl:w=false:=by cases w<;>simp_all
  refine G.neB false false kV<|G.eF 16 0<|G.neB false false kV ?_;have ag:=(l4.trans l5).trans l6;refine G.l (ι:=Nat) (fun r=>[(3,.p 3007 0),(4,sV la L.length U),(5,.p 3008 0),(7,.p 6001 0),(8,bV false),(13,sV none 0 0),(33,.v (.agg #[.int .i64 0,.int .i64 1,.int .i64 1,.int .i64 0])),(34,iV n),(110,sV la L.length U),(111,iV L.length),(112,iV r)])
   (fun _=>[(3007,⟨28,[sV xa (t18 b).length xc,sV xb R.length xd,sV xe (f18 d b).length xf,iV 2]⟩),(3008,⟨34,[tV (Ag (Ax (f18 d b) 2 L).c),sV a1 n1 c1,sV a2 n2 c2]⟩),(6001,⟨40,[iV i,iV j]⟩)])
   (fun r I m'=>r<=L.length/\m'=PH.mt) (fun r=>L.length-r) 0 ⟨oV,rfl⟩ ?_
  rintro J2 r O u7 m7 Z ⟨hr,rfl⟩;by_cases Q:r<L.length
  ·refine G.lT r L.length ?_;obtain⟨y,hy⟩:∃ y,L[r]?=some y:=⟨_,A0i Q⟩;obtain⟨V,ol,rfl,el⟩:=Ab.at' (a3.mono (ag.trans Z)) (j:=r) (e:=Fy y) (by simp[hy]);obtain⟨ys,K,ya,E⟩:=y;exact G.a V ol L.length U r 2 Q<|G.lU (some 2) V (ol+r*2) (.agg #[.slice ya ys.length E,.int .i64 K]) el<|G.i r<|G.b (O (r+1) _ _ _ cV Z ⟨oV,rfl⟩ oV)
  obtain rfl:r=L.length:=oV;exact G.lF L.length L.length<|G.i n<|G.b (hJ (n+1) _ _ _ cV (l3.trans (ag.trans Z)) ⟨oV,rfl⟩ oV)
 obtain rfl:=hPL2.eq a6;refine G.c call12 (Ti (an.mono l5)) ?_;rintro v6 u6 l6 (⟨_,rfl⟩|⟨h,rfl⟩)
 rotate_left
 ·exact absurd hdet h
 obtain rfl:w=true:=ac.2 hdet;refine G.neB true true kV<|G.eT' 0 0 rfl<|G.neB true true kV ?_;have ag:=(l4.trans l5).trans l6;have ay:=Adx hd.w.ok hd.tup a6 hd.hi hd.hj hdet;have aw:=fun (y:Cr) (hy:y∈L) (hc:Df (f18 d b) 2 y.1=true)=>(Fz hd.w.ok hd.tup a6 hd.hi (x:=y.1.getD i [])).2 ⟨y,hy,hc,rfl⟩;obtain⟨X,hX⟩:∃ X,A2 P2 (i:Int)=X:=⟨_,rfl⟩;obtain⟨tg,ah⟩:∃ tg,tgL (Ax (f18 d b) 2 L) P2 (i:Int) (j:Int)=tg:=⟨_,rfl⟩;rw[hX,ah]at hpr;rw[hX];simp only[hX]at aw;simp only[ah]at ay;have ax:=hpr.mono l6;have bw:X.length<=100:=by
  have:=Mr (P:=P2) (f:=(i:Int));rw[hX]at this;have:=hw.p10;omega
 refine G.l (ι:=Nat) (fun r=>[(3,.p 3007 0),(4,sV la L.length U),(5,.p 3008 0),(7,.p 6001 0),(8,bV true),(13,sV qa X.length qc),(33,.v (.agg #[.int .i64 0,.int .i64 1,.int .i64 1,.int .i64 0])),(34,iV n),(110,sV la L.length U),(111,iV L.length),(112,iV r)])
  (fun _=>[(3007,⟨28,[sV xa (t18 b).length xc,sV xb R.length xd,sV xe (f18 d b).length xf,iV 2]⟩),(3008,⟨34,[tV (Ag (Ax (f18 d b) 2 L).c),sV a1 n1 c1,sV a2 n2 c2]⟩),(6001,⟨40,[iV i,iV j]⟩)])
  (fun r I m'=>r<=L.length/\m'=PH.mt) (fun r=>L.length-r) 0 ⟨oV,rfl⟩ ?_
 rintro J2 r O u7 m7 Z ⟨hr,rfl⟩;have a9:=ag.trans Z;by_cases Q:r<L.length
 rotate_left
 ·obtain rfl:r=L.length:=oV;exact G.lF L.length L.length<|G.i n<|G.b (hJ (n+1) _ _ _ cV (l3.trans a9) ⟨oV,rfl⟩ oV)
 refine G.lT r L.length ?_;obtain⟨y,hy⟩:∃ y,L[r]?=some y:=⟨_,A0i Q⟩;have H:=A0w hy;have aq:=a5 y H;obtain⟨F,_⟩:=al y H;have a7:=am u7 a9 y H _ (F.mono a9);have b0:=ay y H;have b1:=aw y H;obtain⟨V,ol,rfl,el⟩:=Ab.at' (a3.mono a9) (j:=r) (e:=Fy y) (by simp[hy]);obtain⟨ys,K,ya,E⟩:=y;simp only at F aq a7 b0 b1;refine G.a V ol L.length U r 2 Q<|G.lU (some 2) V (ol+r*2) (.agg #[.slice ya ys.length E,.int .i64 K]) el<|G.c call10 a7 ?_;rintro v8 u8 l8 rfl;cases hcy:Df (f18 d b) 2 ys with
 |false =>
  exact G.i r<|G.b (O (r+1) _ _ _ cV (Z.trans l8) ⟨oV,rfl⟩ oV)
 |true =>
  have b3:=a9.trans l8;obtain⟨g,m,rfl,_⟩:=Yw (F.mono b3) (i:=i) oV;refine G.l (ι:=Nat×Bool) (fun t=>[(3,.p 3007 0),(4,sV (some ⟨V,ol,none⟩) L.length U),(5,.p 3008 0),(7,.p 6001 0),(8,bV true),(13,sV qa X.length qc),(16,.p 23002 0),(17,bV t.2),(33,.v (.agg #[.int .i64 0,.int .i64 1,.int .i64 1,.int .i64 0])),(34,iV n),(110,sV (some ⟨V,ol,none⟩) L.length U),(111,iV L.length),(112,iV r),(125,sV qa X.length qc),(126,iV X.length),(127,iV t.1)])
   (fun _=>[(3007,⟨28,[sV xa (t18 b).length xc,sV xb R.length xd,sV xe (f18 d b).length xf,iV 2]⟩),(3008,⟨34,[tV (Ag (Ax (f18 d b) 2 L).c),sV a1 n1 c1,sV a2 n2 c2]⟩),(6001,⟨40,[iV i,iV j]⟩),(23002,⟨44,[sV (some ⟨g,m,none⟩) ys.length E,iV K]⟩)])
   (fun t I m'=>t.1<=X.length/\(t.2=true↔ys.getD i []∈X.take t.1)/\m'=PH.mt) (fun t=>X.length-t.1) (0,false) ⟨oV,mV,rfl⟩ ?_
  rintro J3 ⟨t,fd⟩ C u9 m9 l9 ⟨bi,a4,rfl⟩;simp only at bi a4 C;have b4:=b3.trans l9;by_cases T:t<X.length
  rotate_left
  ·obtain rfl:t=X.length:=oV;refine G.lF X.length X.length ?_;rw[A05]at a4;obtain rfl:fd=true:=a4.2 (b1 hcy);exact G.i r<|G.b (O (r+1) _ _ _ cV ((Z.trans l8).trans l9) ⟨oV,rfl⟩ oV)
  refine G.lT t X.length ?_;obtain⟨x,hx⟩:∃ x,X[t]?=some x:=⟨_,A0i T⟩;have ao:ys.getD i []∈X.take (t+1)↔ys.getD i []∈X.take t\/ys.getD i []=x:=by rw[A0t,hx];simp
  obtain⟨bq,oq,e0,eq⟩:=Ab.at' (ax.mono ((Z.trans l8).trans l9)) (j:=t) (e:=Ix (x,tg x)) (by simp[hx]);subst e0;refine G.a bq oq X.length qc t 2 T<|G.lU (some 2) bq (oq+t*2) (.agg #[.string (mkS x),.string (mkS (tg x))]) eq<|G.pub 28002 51 [.string (mkS x),.string (mkS (tg x))] kV kV ?_;intro b6 bt bu;cases fd with
  |true =>
   exact G.i t<|G.drop PH.mt kV (PH.mt_le _)<|G.b (C (t+1,true) _ _ _ cV l9 ⟨dV,by dsimp only;rw[ao];exact⟨fun _=>.inl (a4.1 rfl),fun _=>rfl⟩,rfl⟩ dV)
  |false =>
   have e6:ElP (PH.mt.upd b6 (.cells [Value.string (mkS x),.string (mkS (tg x))].toArray 51 (0,0))) b6 0 (.agg #[.string (mkS x),.string (mkS (tg x))]):=Jg (xs:=[Value.string (mkS x),.string (mkS (tg x))]) (Ac _ _ _) rfl;obtain⟨au,b5,e0,aj⟩:=Yw (F.mono b4) (i:=i) oV;cases e0;obtain⟨au,b5,e0,ak⟩:=Yw (F.mono b4) (i:=j) oV;cases e0;have bf:¬ ys.getD i []∈X.take t:=fun h=>by have:=a4.2 h;cases this
   refine G.addrA 51 9 2 b6 0 0 1 kV kV kV kV oV<|G.lM none b6 (0+0*1) (.string (mkS x)) (e6.fld (j:=0) (xs:=#[.string (mkS x),.string (mkS (tg x))]) rfl rfl)<|G.a g m ys.length E i 1 oV<|G.lU none g (m+i*1) (.string (mkS (ys.getD i []))) aj ?_;by_cases he:x=ys.getD i []
   rotate_left
   ·exact G.w x (ys.getD i []) he<|G.i t<|G.drop PH.mt kV (PH.mt_le _)<|G.b (C (t+1,false) _ _ _ cV l9 ⟨dV,by dsimp only;rw[ao];exact⟨fun h=>(by cases h),fun h=>(h.elim (fun h=>absurd h bf) fun h=>absurd h.symm he)⟩,rfl⟩ dV)
   exact G.q x (ys.getD i []) he<|G.addrA 51 9 2 b6 0 1 1 kV kV kV kV oV<|G.lM none b6 (0+1*1) (.string (mkS (tg x))) (e6.fld (j:=1) (xs:=#[.string (mkS x),.string (mkS (tg x))]) rfl rfl)<|G.a g m ys.length E j 1 oV<|G.lU none g (m+j*1) (.string (mkS (ys.getD j []))) ak<|G.q (tg x) (ys.getD j []) (by rw[he];exact b0 hcy)<|G.i t<|G.drop PH.mt kV (PH.mt_le _)<|G.b (C (t+1,true) _ _ _ cV l9 ⟨dV,by dsimp only;rw[ao];exact⟨fun _=>.inr he.symm,fun _=>rfl⟩,rfl⟩ dV)
end
end Go.Proofs.YtdgncafgglafjaaGreatDoor
