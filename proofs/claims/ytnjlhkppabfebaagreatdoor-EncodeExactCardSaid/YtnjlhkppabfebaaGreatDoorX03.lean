/- Parts of one proof, joined by a program. -/
import Derived.Test.YtnjlhkppabfebaaGreatDoorX02
import Derived.Laws.AppendOwn
import Derived.Laws.MakeOwn
import Derived.IntWalk
import Derived.Lib.TrimByte
import Derived.Lib.ItoaNum
import Derived.Laws.IdiomStrings
set_option linter.defProp false
set_option linter.unusedVariables false
set_option linter.unusedSimpArgs false
set_option linter.unusedSectionVars false
set_option maxHeartbeats 16000000
namespace Go.Proofs.YtnjlhkppabfebaaGreatDoor
open Go.Proofs.Tryz
open Go.RowKit
def A5j:=@Array.mk.injEq
def A6o:=@List.flatMap_cons
def A57:=@List.mem_flatMap
def A61:=@Array.getElem?_eq_some_iff
def A1r:=@List.getElem?_append_left
def A18:=@List.getElem?_append_right
def A30:=@List.length_nil
def A97:=@Array.toList_append
def A7v:=@Nat.le_of_succ_le
def A3q:=@List.nil_append
def A3t:=@List.toList_toArray
def A8r:=@List.drop_drop
def A8s:=@List.drop_left
def A4y:=@List.length_drop
def A05:=@List.getElem?_eq_some_iff
def A58:=@Nat.zero_mul
def A9o:=@List.drop_eq_nil_of_le
def A6n:=@List.take_append_of_le_length
def A21:=@List.length_set
def A6t:=@Nat.sub_zero
def A32:=@Int.tdiv_eq_ediv_of_nonneg
def A8m:=@Int.ediv_nonneg
def A9b:=@Int.ediv_le_self
def A47:=@Int.tmod_eq_emod_of_nonneg
def A3u:=@Nat.div_le_self
def A8x:=@Nat.gcd_zero_right
def A3l:=@Int.natAbs_neg
def A7j:=@Nat.gcd_pos_of_pos_right
def Bbd:=@Nat.gcd_le_right
def A20:=@List.length_singleton
def A03:=@List.length_map
def A9z:=@List.getElem?_set_ne
section
variable {b n off:Nat}{env:Operand->Value}{o:Op}{q:Rat}{v x:Value}{w:World}
instance:A6 prog:=⟨kV,kV⟩
def Xn (u:PH)(b off:Nat)(x:Value):Prop:=∃ cs t fr,u b=some (.cells cs t fr)/\cs[off]?=some x
def Xn.mono {u d:PH}(h:Xn u b off x)(g:PH.le u d):Xn d b off x:=by
 obtain⟨cs,t,fr,e,f⟩:=h;exact⟨cs,t,fr,g _ _ e,f⟩
def Xn.cell {u:PH}{w:World}{b off:Nat}{x:Value}(h:Xn u b off x)(hp:Fj u w):w.cell? ⟨b,off,none⟩=some x:=by
 obtain⟨cs,t,fr,h1,h2⟩:=h;simp[World.cell?,hp _ _ h1,h2]
def ElP (u:PH)(b off:Nat)(e:Value):Prop:=∀ (i:Nat) (x:Value),e.cells[i]?=some x->Xn u b (off+i) x
def ElP.mono {u d:PH}{b off:Nat}{e:Value}(h:ElP u b off e)(f:PH.le u d):ElP d b off e:=fun i x hi=>(h i x hi).mono f
def Wg (k:Option Nat)(e:Value):Bool :=
 match k with
 |some n=>match e with
  |.agg cs=>Nat.beq n cs.size
  |_=>false
 |none=>match e with|.agg _=>false|_=>true
def Ahl (u:PH)(a:Option Addr)(cs:List Value):Prop:=∀ j,j<cs.length->∃ b off,a=some ⟨b,off,none⟩/\Xn u b (off+j) (cs.getD j (.bool false))
def Dk (u:PH)(v:Value)(n:Nat):Prop:=∃ a cap,v=.slice a (Aa n).length cap/\(Aa n).length<=cap/\Ahl u a (A8 (Aa n))
def Bi (u:PH)(v:Value)(z:Int):Prop:=∃ a n c,v=.agg #[.bool (decide (z<0)),.slice a n c]/\Dk u (.slice a n c) z.natAbs
def Bg (u:PH)(v:Value)(q:Rat):Prop :=
 ∃ a n c a' n' c',v=.agg #[.bool (decide (q.num<0)),.slice a n c,.bool false,.slice a' n' c']/\Dk u (.slice a n c) q.num.natAbs/\Dk u (.slice a' n' c') q.den
def Dk.mono {u d:PH}{v:Value}{n:Nat}(h:Dk u v n)(C:PH.le u d):Dk d v n:=by
 obtain⟨a,cap,g,t,z⟩:=h;exact⟨a,cap,g,t,fun j A=>by obtain⟨b,off,e,f⟩:=z j A;exact⟨b,off,e,f.mono C⟩⟩
def Bi.mono {u d:PH}{v:Value}{z:Int}(h:Bi u v z)(g:PH.le u d):Bi d v z:=by
 obtain⟨a,n,c,e,f⟩:=h;exact⟨a,n,c,e,f.mono g⟩
def Bg.mono {u e:PH}{v:Value}{q:Rat}(h:Bg u v q)(d:PH.le u e):Bg e v q:=by
 obtain⟨a,n,c,f,A,g,j,t,z⟩:=h;exact⟨a,n,c,f,A,g,j,t.mono d,z.mono d⟩
def Dk.toW {u:PH}(h:Dk u v n)(hp:Fj u w):C8 w v n:=by
 obtain⟨a,cap,f,g,t⟩:=h;exact⟨a,cap,f,g,fun j z=>by obtain⟨b,off,d,e⟩:=t j z;exact⟨b,off,d,e.cell hp⟩⟩
def Bi.toW {u:PH}{w:World}{v:Value}{z:Int}(h:Bi u v z)(hp:Fj u w):St w v z:=by
 obtain⟨a,n,c,d,e⟩:=h;exact⟨a,n,c,d,e.toW hp⟩
def Dk.ofW {u:PH}(h:C8 w v n)(D:Adw u w):Dk u v n:=by
 obtain⟨a,cap,z,A,C⟩:=h;refine⟨a,cap,z,A,fun j f=>?_⟩;obtain⟨b,off,g,d⟩:=C j f;refine⟨b,off,g,?_⟩;have e:j<(Aa n).length:=by simpa using f
 have E:(A8 (Aa n)).getD j (.bool false)=.int .u64 ((Aa n).getD j 0:Nat):=by simp[A8,e]
 rw[E]at d⊢;unfold World.cell? at d;simp only at d;split at d
 ·rename_i cs t fr hb;simp at d;exact⟨cs,t,fr,D b cs t fr _ _ hb d,d⟩
 cases d
def Bi.ofW {u:PH}{w:World}{v:Value}{z:Int}(h:St w v z)(f:Adw u w):Bi u v z:=by
 obtain⟨a,n,c,d,e⟩:=h;exact⟨a,n,c,d,Dk.ofW e f⟩
def Bi.opn {u:PH}{z:Int}(h:Bi u v z):∃ b a n c,v=.agg #[.bool b,.slice a n c]:=by
 obtain⟨a,n,c,rfl,_⟩:=h;exact⟨_,a,n,c,rfl⟩
def Bg.opn {u:PH}(h:Bg u v q):∃ b a n c b' d f e,v=.agg #[.bool b,.slice a n c,.bool b',.slice d f e]:=by
 obtain⟨a,n,c,d,f,e,rfl,_⟩:=h;exact⟨_,a,n,c,_,d,f,e,rfl⟩
def Bg.num {u:PH}{b b':Bool}{a e:Option Addr}{n j c f:Nat}(h:Bg u (.agg #[.bool b,.slice a n c,.bool b',.slice e j f]) q):Bi u (.agg #[.bool b,.slice a n c]) q.num:=by
 obtain⟨_,_,_,_,_,_,d,g,t⟩:=h;simp only[Value.agg.injEq,A5j,A3g,Value.bool.injEq,Value.slice.injEq,and_true]at d;obtain⟨rfl,⟨rfl,rfl,rfl⟩,rfl,rfl,rfl,rfl⟩:=d;exact⟨_,_,_,rfl,g⟩
def Bg.den {u:PH}{b b':Bool}{a d:Option Addr}{n g c e:Nat}{q:Rat}(h:Bg u (.agg #[.bool b,.slice a n c,.bool b',.slice d g e]) q):Bi u (.agg #[.bool b',.slice d g e]) q.den:=by
 obtain⟨_,_,_,_,_,_,f,t,j⟩:=h;simp only[Value.agg.injEq,A5j,A3g,Value.bool.injEq,Value.slice.injEq,and_true]at f;obtain⟨rfl,⟨rfl,rfl,rfl⟩,rfl,rfl,rfl,rfl⟩:=f;refine⟨_,_,_,?_,by rw[A1s];exact j⟩;rw[show decide (((q.den:Nat):Int)<0)=false by simp only[decide_eq_false_iff_not];omega]
def Fn0.ofW {P:Program}{f:FuncId}{args:List Value}{u:PH}{R:Value->PH->Prop}(Q:Value->World->Prop)(h:∀ w,Fj u w->Calls P f args.toArray w fun e w'=>∃ v,e=.returned v/\Q v w'/\Ext w w')
 (N:∀ v w' E,Q v w'->Fj E w'->Adw E w'->PH.le u E->R v E):Fn0 P f args u R:=by
 intro w C;refine Calls.mono (h w C.pu) fun e w' K=>?_;obtain⟨v,H,I,D⟩:=K;have F:w.heap.size<=w'.heap.size:=D.size;have A:∀ g,g<w.heap.size->w'.heap[g]?=w.heap[g]?:=fun g C=>Below.block D g C;have g1:Fj (fun g=>if g<w.heap.size then u g else w'.heap[g]?) w':=by
  intro g o d;simp only at d;split at d
  ·rename_i hlt;rw[A g hlt];exact C.pu g o d
  exact d
 have g2:Adw (fun g=>if g<w.heap.size then u g else w'.heap[g]?) w':=by
  intro g cs t fr j z d L;simp only;split
  ·rename_i hlt;rw[A g hlt]at d;exact C.cl g cs t fr j z d L
  exact d
 have J:PH.le u (fun g=>if g<w.heap.size then u g else w'.heap[g]?):=fun g o d=>by simp only;rw[if_pos (C.pu.lt d)];exact d
 refine⟨v,_,PH.mt,H,⟨g1,Fj.mt _,fun _=>.inr rfl,g2⟩,⟨F,fun g C _=>A g C,fun g C=>by simp only;rw[if_pos C],fun _ _ h=>h,⟨D.os,D.output⟩,fun f=>f.elim⟩,rfl,N v w' _ I g1 g2 J⟩
section rules
variable [Cl] [Co] [Pu] {P:Program} [A6 P] {fn:Func} {Post:Ce} {st:List KI×S} {u m:PH}
def Ui {k:Option (Option Nat)}(h:Bc P env o=.load k x):∃ t X,o=.load t X/\env X=x/\Zd P t=k:=by
 cases o<;>simp only[Bc]at h<;>try cases h
 any_goals ((repeat' split at h)<;>cases h;done)
 exact⟨_,_,rfl,rfl,rfl⟩
def Z1 {sz:Option Nat}{x i:Value}(h:Bc P env o=.addr sz x i):∃ t X I,o=.indexAddr t X I/\env X=x/\env I=i/\Ot P t=sz:=by
 cases o<;>simp only[Bc]at h<;>try cases h
 any_goals ((repeat' split at h)<;>cases h;done)
 exact⟨_,_,_,rfl,rfl,rfl,rfl⟩
def Ake {op:UnOp}(h:Bc P env o=.un op x):∃ t X,o=.unOp op t X/\env X=x:=by
 cases o<;>simp only[Bc]at h<;>try cases h
 any_goals ((repeat' split at h)<;>cases h;done)
 exact⟨_,_,rfl,rfl⟩
def Kj {t:TypeId}{k:Option Nat}{e:Value}(d:Zd P t=some k)(f:Wg k e=true)(h:ElP u b off e)(hp:Fj u w):(loadVar t ⟨b,off,none⟩).run P w=.ok e w:=by
 unfold Zd at d;unfold loadVar;split at d
 ·rename_i ha;split at d
  ·rename_i n hn;simp at d;subst d;unfold Wg at f;simp only at f;split at f
   ·rename_i cs;have A:=A1y f;have:=run_loadCells_list (P:=P) w ⟨b,off,none⟩ cs.toList (fun j v z=>by rw[Ed];exact (h j v (by simpa[Value.cells] using z)).cell hp);simp only[Sem.run_bind,Eo ha,Result.andThen_ok,if_true,Bf hn,A];simp at this;rw[this];simp
   cases f
  cases d
 ·rename_i ha;simp at d;subst d;unfold Wg at f;have g:e.cells = #[e]:=by cases e<;>simp_all [Value.cells]
  have:=(h 0 e (by simp[g])).cell hp;simp[Eo ha];simp at this;simp[this]
 cases d
def G.loadU (g:Option Nat)(b off:Nat)(e:Value)(h:Aj P (adv P st)=.load (some g) (.pointer (some ⟨b,off,none⟩)))(C:Wg g e=true)(A:ElP u b off e)(k:G P fn Post (nx (adv P st) e) u m):G P fn Post st u m:=by
 refine G.ask h mV (fun env o d w hp=>?_) k;obtain⟨t,X,f,j,z⟩:=Ui d;obtain⟨dst,D,type,pos,after,guard⟩:=o;simp only at f;subst f;simp[execOp,Instr.loadAt,Instr.sureAddr,j,Kj z C A (hp rfl).1]
def G.loadM (j:Option Nat)(b off:Nat)(e:Value)(h:Aj P (adv P st)=.load (some j) (.pointer (some ⟨b,off,none⟩)))(D:Wg j e=true)(C:ElP m b off e)(k:G P fn Post (nx (adv P st) e) u m)(f:Pu.b=false:=by rfl):G P fn Post st u m:=by
 refine G.ask h mV (fun env o d w hp=>?_) k;obtain⟨t,X,g,z,A⟩:=Ui d;obtain⟨dst,E,type,pos,after,guard⟩:=o;simp only at g;subst g;simp[execOp,Instr.loadAt,Instr.sureAddr,z,Kj A D C ((hp rfl).2 f)]
def G.addr (b off n c j sz:Nat)(h:Aj P (adv P st)=.addr (some sz) (.slice (some ⟨b,off,none⟩) n c) (.int .i64 j))(E:j<n)
 (k:G P fn Post (nx (adv P st) (.pointer (some ⟨b,off+j*sz,none⟩))) u m):G P fn Post st u m:=by
 refine G.ask h mV (fun env o f w hp=>?_) k;obtain⟨t,X,I,g,z,A,d⟩:=Z1 f;obtain⟨dst,D,type,pos,after,guard⟩:=o;simp only at g;subst g;unfold Ot at d;split at d
 ·rename_i e hu;have C:(0:Int)<=j/\(j:Int)<n:=oV;simp[execOp,Instr.indexAt,asIntOf,z,A,run_underlying hu,C,Bf d,Ed];omega
 cases d
def G.neg (x z:Int)(h:Aj P (adv P st)=.un .neg (.int .i64 x))(C:-x=z)(g:-9223372036854775808<=z)(j:z<=9223372036854775807)
 (k:G P fn Post (nx (adv P st) (.int .i64 z)) u m):G P fn Post st u m:=by
 refine G.ask h mV (fun env o d w hp=>?_) k;obtain⟨t,X,e,f⟩:=Ake d;obtain⟨dst,A,type,pos,after,guard⟩:=o;simp only at e;subst e;have:(0:Int)-x=z:=oV
 simp[execOp,Op.unary,f,Op.intArith,this,Fk g j]
end rules
end
section
variable [Cl] [Pu] [Co]
variable {P:Program} [A6 P] {fn:Func} {Post:Ce} {st:List KI×S} {u m:PH}
def G.a (b off n c j sz:Nat)(hj:j<n)(k:G P fn Post (nx (adv P st) (.pointer (some ⟨b,off+j*sz,none⟩))) u m)(h:Aj P (adv P st)=.addr (some sz) (.slice (some ⟨b,off,none⟩) n c) (.int .i64 (j:Int)):=by kernel_rfl):G P fn Post st u m:=G.addr b off n c j sz h hj k
def G.lU (kd:Option Nat)(b off:Nat)(e:Value)(he:ElP u b off e)(k:G P fn Post (nx (adv P st) e) u m)(h:Aj P (adv P st)=.load (some kd) (.pointer (some ⟨b,off,none⟩)):=by kernel_rfl)(hs:Wg kd e=true:=by kernel_rfl):G P fn Post st u m:=G.loadU kd b off e h hs he k
theorem G.lM (kd:Option Nat)(b off:Nat)(e:Value)(he:ElP m b off e)(k:G P fn Post (nx (adv P st) e) u m)(h:Aj P (adv P st)=.load (some kd) (.pointer (some ⟨b,off,none⟩)):=by kernel_rfl)(hs:Wg kd e=true:=by kernel_rfl)(h00:Pu.b=false:=by rfl):G P fn Post st u m:=G.loadM kd b off e h hs he k h00
end
section
variable {cs z:Array Value}{env:Operand->Value}{es xs:List Value}{g sz:Nat}{o:Oper}{t:TypeId}{v:Value}
variable [Cl] [Co] [Pu]
def PH.upd (m:PH)(g:Nat)(o:Obj):PH:=fun h=>if h=g then some o else m h
def Ab (m:PH)(g:Nat)(o:Obj):m.upd g o g=some o:=by simp[PH.upd]
def Ad (m:PH){g h:Nat}(o:Obj)(d:h≠g):m.upd g o h=m h:=by simp[PH.upd,d]
def Dp (m:PH)(g:Nat)(o o':Obj):(m.upd g o).upd g o'=m.upd g o':=by
 funext h;by_cases e:h=g
 ·subst e;simp[PH.upd]
 simp[PH.upd,e]
def Jw {m:PH}(o:Obj)(h:m g=none):PH.le m (m.upd g o):=fun k x d=>by
 by_cases e:k=g
 ·subst e;rw[h]at d;cases d
 rw[Ad _ _ e];exact d
def E2 (es:List Value):List Value:=es.flatMap fun e=>e.cells.toList
def Ze (p:Value->Bool)(sz:Nat)(es:List Value):Prop:=∀ e∈es,e.cells.size=sz/\∀ x∈e.cells.toList,p x=true
abbrev A9 (sz:Nat)(es:List Value):Prop:=Ze Ax sz es
def Ba {p:Value->Bool}{sz:Nat}:∀ {es:List Value},Ze p sz es->(E2 es).length=es.length*sz
 |[],_=>by simp[E2]
 |e::es,h=>by
  have f:=(h e mV).1;have d:=Ba (sz:=sz) (es:=es) (fun x j=>h x (A2f _ j));unfold E2 at d⊢;simp only[A6o,A1d,d,A3f,A3o,f,A16,A3i];omega
theorem Dq (a b:List Value):E2 (a++b)=E2 a++E2 b:=by simp[E2]
theorem Fu (h:A9 sz es):∀ x∈E2 es,Ax x=true:=by
 intro x hx;obtain⟨e,he,hx⟩:=A57.1 hx;exact (h e he).2 x hx
def A9.append {a b:List Value}(h:A9 sz a)(k:A9 sz b):A9 sz (a++b):=fun e d=>(A1h.1 d).elim (h e) (k e)
def Ju {p:Value->Bool}{sz:Nat}:∀ {es:List Value},Ze p sz es->∀ {j i:Nat} {e x:Value},es[j]?=some e->e.cells[i]?=some x->(E2 es)[j*sz+i]?=some x
 |[],_,j,i,e,x,hj,_=>by simp at hj
 |d::es,h,j,i,e,x,hj,hi=>by
  have f:=(h d mV).1;have A:Ze p sz es:=fun x C=>h x (A2f _ C);have n:E2 (d::es)=d.cells.toList++E2 es:=by simp[E2]
  rw[n];cases j with
  |zero =>
   simp at hj;subst hj;have:i<d.cells.size:=(A61.1 hi).1;rw[A1r gV];simpa using hi
  |succ j =>
   simp at hj;rw[A18 (by simp[f,A16];omega)];have:=Ju A hj hi;rw[<-this];congr 1;simp[f,A16];omega
def Af (m0 m:PH)(v:Value)(t:TypeId)(sz:Nat)(es:List Value):Prop :=
 A9 sz es/\((v=.slice none 0 0/\es = []/\m=m0) \/
  ∃ g cap rest,m0 g=none/\m=m0.upd g (.cells (E2 es++rest).toArray t (0,0))/\v=.slice (some ⟨g,0,none⟩) es.length cap/\es.length<=cap/\(E2 es++rest).length=cap*sz/\∀ x∈rest,Ax x=true)
def Af.nil (m:PH)(t:TypeId)(sz:Nat):Af m m (.slice none 0 0) t sz []:=⟨fun _ h=>absurd h mV,.inl ⟨rfl,rfl,rfl⟩⟩
theorem Af.shape {m0 m:PH}(h:Af m0 m v t sz es):∃ a cap,v=.slice a es.length cap:=by
 rcases h.2 with ⟨rfl,rfl,_⟩|⟨g,cap,rest,_,_,rfl,_⟩
 ·grind
 grind
theorem D4 {P:Program}{t e:TypeId}{sz d:Nat}{z:Value}(h:M0 P t=some (e,sz,d,z)):P.underlying t=some (.slice e)/\∃ i,P.info? e=some i/\i.zero=some z/\i.size=sz/\i.bytes=d:=by
 unfold M0 at h;split at h
 ·grind
 cases h
theorem I5 (h:z.toList.all Ax=true)(n:Nat):∀ x∈(Builtin.zeroCells z n).toList,Ax x=true:=by
 intro x e;simp[Builtin.zeroCells]at e;obtain⟨i,hi,rfl⟩:=e;rw[A1o]at h;by_cases f:z.size=0
 ·grind
 have d:i%z.size<z.size:=A29 _ oV;refine h _ ?_;rw[getElem!_pos z _ d];simp
def Ab5 (h:z.toList.all Ax=true)(n:Nat)(f:z.size≠0):∀ x∈(madeCells z n).toList,Ax x=true:=by
 intro x e;simp[madeCells]at e;obtain⟨i,hi,rfl⟩:=e;rw[A1o]at h;have d:i%z.size<z.size:=A29 _ oV;refine h _ ?_;rw[getElem!_pos z _ d];simp
section worlds
variable {u m:PH} {w:World}
theorem Bv.newM (h:Bv u m w)(C:∀ x∈cs.toList,Ax x=true):Bv u (m.upd w.heap.size (.cells cs t (0,0))) (w.alloc (.cells cs t))/\B0 u m w u (m.upd w.heap.size (.cells cs t (0,0))) (w.alloc (.cells cs t))/\m w.heap.size=none/\u w.heap.size=none:=by
 have f:m w.heap.size=none:=h.pm.none (A08 _);have A:u w.heap.size=none:=h.pu.none (A08 _);have g1:=h.alloc (cs:=cs) (t:=t) (fr:=(0,0)) (fun j z e=>Kr (C _ (by obtain⟨D,n⟩:=A61.1 e;rw[<-n];simp)) z rfl);refine⟨⟨g1.pu,fun g o d=>?_,fun g=>?_,g1.cl⟩,⟨by rw[B6];omega,fun g d _=>Aq _ _ d,fun _ _=>rfl,fun g d f=>by rw[Ad _ _ oV];exact f,⟨rfl,rfl⟩,fun _=>⟨rfl,A08 _⟩⟩,f,A⟩
 ·by_cases e:g=w.heap.size
  ·subst e;rw[Ab]at d;rw[Cn];exact d
  rw[Ad _ _ e]at d;exact g1.pm g o d
 by_cases e:g=w.heap.size
 ·grind
 rw[Ad _ _ e];exact h.ap g
def Bv.drew' (h:Bv u m w):Bv u m w.drew:=⟨h.pu,h.pm,h.ap,h.cl⟩
def Bv.less (h:Bv u m w){f:PH}(j:PH.le f m):Bv u f w:=by
 refine⟨h.pu,fun g o d=>h.pm g o (j g o d),fun g=>(h.ap g).imp id fun e=>?_,h.cl⟩;cases d:f g with
 |none=>rfl
 |some o=>rw[j g o d]at e;cases e
theorem Bv.setM (h:Bv u m w){cs cs':Array Value}(hg:m g=some (.cells cs t (0,0)))(hw:∀ x∈cs'.toList,Ax x=true):Bv u (m.upd g (.cells cs' t (0,0))) (w.setRow g cs')/\B0 u m w u (m.upd g (.cells cs' t (0,0))) (w.setRow g cs'):=by
 have hb:=h.pm g _ hg;have hug:u g=none:=by
  rcases h.ap g with e|e
  ·exact e
  ·grind
 have hsame:=setRow_heap w g cs cs' t (0,0) hb;have hother:∀ k,k≠g->(w.setRow g cs').heap[k]?=w.heap[k]?:=fun k hk=>setRow_other w g k cs' hk;refine⟨⟨fun k o hk=>?_,fun k o hk=>?_,fun k=>?_,fun k cs1 t1 fr1 j z hk hj=>?_⟩,⟨by rw[setRow_size];exact A08 _,fun k hk hm=>hother k (fun e=>by rw[e,hg]at hm;cases hm),fun _ _=>rfl,fun k hk hm=>by rw[Ad _ _ (fun e=>by rw[e,hg]at hm;cases hm)];exact hm,⟨rfl,rfl⟩,fun _=>⟨rfl,A08 _⟩⟩⟩
 ·rw[hother k (fun e=>by rw[e,hug]at hk;cases hk)];exact h.pu k o hk
 ·by_cases e:k=g
  ·subst e;rw[Ab]at hk;rw[hsame];exact hk
  ·rw[Ad _ _ e]at hk;rw[hother k e];exact h.pm k o hk
 ·by_cases e:k=g
  ·grind
  ·rw[Ad _ _ e];exact h.ap k
 ·by_cases e:k=g
  ·subst e;rw[hsame]at hk;obtain⟨rfl,_,_⟩:=hk;obtain⟨hlt,he⟩:=A61.1 hj;exact absurd he (Kr (hw _ mV) z)
  ·rw[hother k e]at hk;exact h.cl k cs1 t1 fr1 j z hk hj
theorem Bv.newU (h:Bv u m w)(o:Obj):Bv (u.upd w.heap.size o) m (w.alloc o)/\B0 u m w (u.upd w.heap.size o) m (w.alloc o)/\m w.heap.size=none/\u w.heap.size=none:=by
 have n:m w.heap.size=none:=h.pm.none (A08 _);have C:u w.heap.size=none:=h.pu.none (A08 _);refine⟨⟨fun g o' d=>?_,fun g o' d=>?_,fun g=>?_,fun g cs t fr j z d A=>?_⟩,⟨by rw[B6];omega,fun g d _=>Aq _ _ d,fun g d=>Ad _ _ oV,fun g d n=>n,⟨rfl,rfl⟩,fun _=>⟨rfl,A08 _⟩⟩,n,C⟩
 ·by_cases e:g=w.heap.size
  ·subst e;rw[Ab]at d;rw[Cn];exact d
  rw[Ad _ _ e]at d;rw[Aq _ _ (h.pu.lt d)];exact h.pu g o' d
 ·rw[Aq _ _ (h.pm.lt d)];exact h.pm g o' d
 ·by_cases e:g=w.heap.size
  ·grind
  rw[Ad _ _ e];exact h.ap g
 by_cases e:g=w.heap.size
 ·subst e;rw[Cn]at d;rw[Ab];exact d
 rw[Ad _ _ e];have f:=Aw d;rw[B6]at f;rw[Aq _ _ oV]at d;exact h.cl g cs t fr j z d A
end worlds
def Hc (u:PH)(b off sz:Nat)(xs:List Value):Prop:=∀ j e,xs[j]?=some e->ElP u b (off+j*sz) e
def Hc.mono {u d:PH}{b off sz:Nat}{xs:List Value}(h:Hc u b off sz xs)(n:PH.le u d):Hc d b off sz xs:=fun j e f=>(h j e f).mono n
def Xe {sz:Nat}(E:0<sz):∀ {xs:List Value},A9 sz xs->∀ {k:Nat} {x:Value},(E2 xs)[k]?=some x->∃ j i e,k=j*sz+i/\xs[j]?=some e/\e.cells[i]?=some x
 |[],_,k,x,h=>by simp[E2]at h
 |d::xs,ho,k,x,h=>by
  have D:=(ho d mV).1;have f:E2 (d::xs)=d.cells.toList++E2 xs:=by simp[E2]
  rw[f,A5y]at h;split at h
  ·exact⟨0,k,d,mV,mV,by simpa using h⟩
  rename_i hk;obtain⟨j,i,e,n,A,C⟩:=Xe E (fun x F=>ho x (A2f _ F)) h;refine⟨j+1,i,e,?_,by simpa using A,C⟩;simp[D]at n hk;rw[A16];omega
def Hc.cells {u:PH}{w:World}{b off sz:Nat}(C:0<sz)(h:Hc u b off sz xs)(A:A9 sz xs)(hp:Fj u w):∀ j v,(E2 xs)[j]?=some v->w.cell? ((⟨b,off,none⟩:Addr).add j)=some v:=by
 intro k x n;obtain⟨j,i,e,rfl,d,f⟩:=Xe C A n;rw[Ed];have:=(h j e d i x f).cell hp;rw[show off+(j*sz+i)=off+j*sz+i by omega];exact this
section rules
variable {P:Program} [A6 P] {fn:Func} {Post:Ce} {st:List KI×S} {u m:PH}
def B8 {w w':World}{K:Value->World->Prop}(h:(execOp env o).run P w=.ok (.value v) w')(d:K v w'):Eg P env o w K:=by
 unfold Eg;rw[h];exact d
theorem Ew {d:Option (TypeId×Nat×Nat×Value)}(h:Bc P env o.op=.app d true xs):Nk o.op=true/\Fa o.op=false/\∃ t,M0 P t=d/\∀ w,(execOp env o).run P w=((Builtin.append_ #[t,t] o.type xs.toArray).run P w).andThen fun v w'=>.ok (.value v) w':=by
 obtain⟨dst,f,type,pos,after,guard⟩:=o;cases f<;>simp only[Bc]at h<;>try cases h
 ·grind
 rename_i c;obtain⟨n,args,j⟩:=c;simp only at h;split at h
 ·grind
 ·split at h
  ·split at h
   ·rename_i t t' htt;simp only[Vm.app.injEq]at h;obtain⟨rfl,A,rfl⟩:=h;have:=A1y A;have e:j = #[t,t]:=by grind
    refine⟨rfl,rfl,t,rfl,fun w=>?_⟩;have:(args.map env)=(args.toList.map env).toArray:=by grind
    simp[execOp,resolve,invoke,builtin,e,this]
   cases h
  cases h
 cases h
theorem Rz {t e:TypeId}{sz bt:Nat}{z:Value}(m0:PH)(es xs:List Value)(v:Value)(b off n c:Nat)(ty:TypeId)(hi:M0 P t=some (e,sz,bt,z))(hz:z.cells.toList.all Ax=true)(hzs:z.cells.size=sz)(hsz:0<sz)
 (ha:Af m0 m v e sz es) (ho:A9 sz xs) (hn:xs.length=n) (hn0:0<n) (hb:(es.length+n)*bt<=140737488355328) (hb2:es.length+n<=9223372036854775807) {w:World} (hgd:Bv u m w)
 (hsrc:∀ j v,(E2 xs)[j]?=some v->w.cell? ((⟨b,off,none⟩:Addr).add j)=some v) :
 ∃ v' w' m',(Builtin.append_ #[t,t] ty #[v,.slice (some ⟨b,off,none⟩) n c]).run P w=.ok v' w'/\Bv u m' w'/\B0 u m w u m' w'/\Af m0 m' v' e sz (es++xs):=by
 obtain⟨hu,i,hi1,hi2,rfl,rfl⟩:=D4 hi;have hfl:=Ba ho;have hok:=ha.1.append ho;rcases ha.2 with ⟨rfl,rfl,rfl⟩|⟨g,cap,rest,hg0,rfl,rfl,hcap,hlen,hrest⟩
 ·simp only[A30,A2w]at hb hb2;have hr:=run_append_nil (P:=P) w t ty e i z hu hi1 hi2 ⟨b,off,none⟩ n c (E2 xs) (by rw[hfl,hn]) hsrc hn0 oV oV;have hcell:∀ x∈((E2 xs).toArray++Builtin.zeroCells z.cells (grownCap w n 0 e-n)).toList,Ax x=true:=fun x hx=>by
   simp only[A97,A1h]at hx;rcases hx with hx|hx
   ·exact Fu ho x hx
   ·exact I5 hz _ x hx
  obtain⟨g1,g2,g3,_⟩:=hgd.drew'.newM (t:=e) hcell;refine⟨_,_,_,hr,g1,⟨g2.sz,g2.old,g2.us,g2.ms,g2.io,fun f=>⟨(g2.dr f).tape,A7v (g2.dr f).dr⟩⟩,hok,.inr ⟨w.heap.size,grownCap w n 0 e,(Builtin.zeroCells z.cells (grownCap w n 0 e-n)).toList,g3,?_,?_,?_,?_,I5 hz _⟩⟩
  ·congr 2;apply A6j;simp
  ·simp[hn]
  ·simp only[A3q,hn];exact grownCap_ge w n 0 e
  ·have:=grownCap_ge w n 0 e;simp only[A3q,A1d,hfl,hn,A3o,size_zeroCells,hzs];rw[<-A16];congr 1;omega
 ·have hgw:=hgd.pm g _ (Ab _ _ _);have hfe:=Ba ha.1;by_cases hroom:es.length+n<=cap
  ·have hle:(es.length+n)*i.size<=cap*i.size:=A13 _ hroom;rw[A16]at hle;have hr:=run_append_room (P:=P) w t ty e i hu hi1 g es.length cap (E2 es++rest).toArray hgw ⟨b,off,none⟩ n c (E2 xs) (by rw[hfl,hn]) hsrc (fun x hx=>Gl (Fu ho x hx)) hroom (by simp only[A7s];rw[hlen,hfl,hn];omega);have e1:(E2 es++rest).toArray.toList.take (es.length*i.size)=E2 es:=by
    simp only[A3t];rw[<-hfe,List.take_left]
   rw[e1]at hr;have hd:∀ x∈(E2 es++rest).toArray.toList.drop (es.length*i.size+(E2 xs).length),Ax x=true:=by
    intro x hx;simp only[A3t]at hx;rw[<-hfe,<-A8r,A8s]at hx;exact hrest x (A3x hx)
   have hcell:∀ x∈(E2 es++E2 xs++(E2 es++rest).toArray.toList.drop (es.length*i.size+(E2 xs).length)).toArray.toList,Ax x=true:=by
    intro x hx;simp only[A3t]at hx;rcases A1h.1 hx with hx|hx
    ·rcases A1h.1 hx with hx|hx
     ·exact Fu ha.1 x hx
     ·exact Fu ho x hx
    ·exact hd x (by simpa using hx)
   obtain⟨g1,g2⟩:=hgd.setM (Ab _ _ _) hcell;rw[Dp]at g1 g2;refine⟨_,_,_,hr,g1,g2,hok,.inr ⟨g,cap,_,hg0,by rw[Dq],by simp[hn],by simp[hn];exact hroom,?_,hd⟩⟩;rw[Dq];simp only[A1d,hfe,hfl,hn,A3t,A4y];simp only[A1d,hfe]at hlen;omega
  ·have hold:∀ j v,(E2 es)[j]?=some v->w.cell? ((⟨g,0,none⟩:Addr).add j)=some v:=by
    intro j x hj;rw[Ed];simp[World.cell?,hgw];rw[A1r (by obtain⟨h,_⟩:=A05.1 hj;exact h)];exact hj
   have hr:=run_append_grow (P:=P) w t ty e i z hu hi1 hi2 ⟨g,0,none⟩ es.length cap (E2 es) hfe hold ⟨b,off,none⟩ n c (E2 xs) (by rw[hfl,hn]) hsrc oV oV (growslice_fits oV hb);have hcell:∀ x∈((E2 es).toArray++(E2 xs).toArray++Builtin.zeroCells z.cells (grownCap w (es.length+n) cap e-(es.length+n))).toList,Ax x=true:=fun x hx=>by
    simp only[A97,A1h]at hx;rcases hx with (hx|hx)|hx
    ·exact Fu ha.1 x hx
    ·exact Fu ho x hx
    ·exact I5 hz _ x hx
   obtain⟨g1,g2,g3,_⟩:=hgd.drew'.newM (t:=e) hcell;have hdsz:w.drew.heap.size=w.heap.size:=rfl;rw[hdsz]at g1 g2 g3;have hng:w.heap.size≠g:=fun h=>by have:=Aw hgw;omega
   have hm0:m0 w.heap.size=none:=by
    have:=g3;rw[Ad _ _ hng]at this;exact this
   refine⟨_,_,m0.upd w.heap.size (.cells ((E2 es).toArray++(E2 xs).toArray++Builtin.zeroCells z.cells (grownCap w (es.length+n) cap e-(es.length+n))) e (0,0)),hr,g1.less (fun k o hk=>?_),⟨g2.sz,g2.old,g2.us,fun k hk hmk=>?_,g2.io,fun f=>⟨(g2.dr f).tape,A7v (g2.dr f).dr⟩⟩,hok,.inr ⟨w.heap.size,grownCap w (es.length+n) cap e,(Builtin.zeroCells z.cells (grownCap w (es.length+n) cap e-(es.length+n))).toList,hm0,?_,?_,?_,?_,I5 hz _⟩⟩
   ·by_cases hk1:k=w.heap.size
    ·subst hk1;rw[Ab]at hk⊢;exact hk
    ·rw[Ad _ _ hk1]at hk⊢;rw[Ad _ _ (fun h=>by rw[h,hg0]at hk;cases hk)];exact hk
   ·rw[Ad _ _ oV];by_cases hkg:k=g
    ·grind
    ·rw[Ad _ _ hkg]at hmk;exact hmk
   ·congr 2;apply A6j;simp[Dq]
   ·grind
   ·simp only[A1d,hn];exact grownCap_ge w _ cap e
   ·have:=grownCap_ge w (es.length+n) cap e;rw[Dq];simp only[A1d,hfl,hfe,A3o,size_zeroCells,hzs];rw[<-A16,<-A16];congr 1;omega
theorem G.append (e:TypeId)(sz J:Nat)(z:Value)(m0:PH)(es xs:List Value)(v:Value)(b off n c:Nat)(h:Aj P (adv P st)=.app (some (e,sz,J,z)) true [v,.slice (some ⟨b,off,none⟩) n c])(Y:z.cells.toList.all Ax=true)(I:z.cells.size=sz)(C:0<sz)
 (U:Af m0 m v e sz es) (X:Hc u b off sz xs) (L:A9 sz xs) (W:xs.length=n) (F:0<n) (V:(es.length+n)*J<=140737488355328) (D:es.length+n<=9223372036854775807)
 (k:∀ j f,Af m0 f j e sz (es++xs)->G P fn Post (nx (adv P st) j) u f):G P fn Post st u m:=by
 refine G.big (K:=fun j N f=>N=u/\Af m0 f j e sz (es++xs)) h mV (fun env op H=>(Ew (P:=P) (o:=⟨none,op,0, "",#[],none⟩) H).2.1) (.inr fun env op H=>(Ew (P:=P) (o:=⟨none,op,0, "",#[],none⟩) H).1) (fun env o d w A=>?_) (fun j N f _ Z=>?_)
 ·obtain⟨_,_,t,hi,E⟩:=Ew (P:=P) d;obtain⟨j,w',f,O,Q,R,T⟩:=Rz (P:=P) m0 es xs v b off n c o.type hi Y I C U L W F V D A (X.cells C L A.pu);exact B8 (by rw[E,O];rfl) ⟨u,f,Q,R,rfl,T⟩
 grind
end rules
end
section
variable [Cl] [Pu] [Co]
variable {P:Program} [A6 P] {fn:Func} {Post:Ce} {st:List KI×S} {u m:PH}
def G.k (e:TypeId)(sz bt:Nat)(z:Value)(m0:PH)(es xs:List Value)(v:Value)(b off n c:Nat)(ha:Af m0 m v e sz es)(hx:Hc u b off sz xs)(ho:A9 sz xs)(k:∀ v' m',Af m0 m' v' e sz (es++xs)->G P fn Post (nx (adv P st) v') u m')(h:Aj P (adv P st)=.app (some (e,sz,bt,z)) true [v,.slice (some ⟨b,off,none⟩) n c]:=by kernel_rfl)(hz:z.cells.toList.all Ax=true:=by rfl)(hzs:z.cells.size=sz:=by rfl)(hsz:0<sz:=by omega)(hn:xs.length=n:=by rfl)(hn0:0<n:=by omega)(hb:(es.length+n)*bt<=140737488355328:=by simp;omega)(hb2:es.length+n<=9223372036854775807:=by simp;omega):G P fn Post st u m:=G.append e sz bt z m0 es xs v b off n c h hz hzs hsz ha hx ho hn hn0 hb hb2 k
end
section
variable {c j n sz:Nat}{e x y:Value}{env:Operand->Value}{es:List Value}{inf:Option (TypeId×Nat×Nat×Value)}{m0:PH}{o:Op}{t:TypeId}
variable [Cl] [Co] [Pu]
section fill
def Sn {p:Value->Bool}{sz:Nat}:∀ (es:List Value) (k:Nat) (cells:Array Value),Ze p sz es->(k+es.length)*sz<=cells.size ->
 Instr.fill (fun i=>some (i*sz,sz)) cells (es.zipIdx k |>.map fun p=>(p.2,p.1))=some (cells.toList.take (k*sz)++E2 es++cells.toList.drop ((k+es.length)*sz)).toArray
 |[],k,cells,_,h=>by simp[Instr.fill,E2]
 |e::es,k,cells,ho,h=>by
  have d:=(ho e mV).1;have f:Ze p sz es:=fun x C=>ho x (A2f _ C);have v:(k+(es.length+1))*sz=k*sz+sz+es.length*sz:=by rw[A16,A16];omega
  simp only[A3f]at h;rw[v]at h;simp only[List.zipIdx_cons,A2u];rw[Aau _ _ _ (k*sz) sz _ _ rfl d oV];rw[Sn es (k+1) _ f (by simp[d];rw[A16,A16];omega)]
  congr 2
  have g:(cells.toList.take (k*sz)++e.cells.toList).length=(k+1)*sz:=by simp[d,A16];omega
  have z:(cells.toList.take (k*sz)++e.cells.toList++cells.toList.drop (k*sz+sz)).toArray.toList.take ((k+1)*sz)=cells.toList.take (k*sz)++e.cells.toList:=by
   simp only[A3t];rw[<-g,List.take_left]
  have A:(cells.toList.take (k*sz)++e.cells.toList++cells.toList.drop (k*sz+sz)).toArray.toList.drop ((k+1+es.length)*sz)=cells.toList.drop ((k+(es.length+1))*sz):=by
   simp only[A3t];rw[show (k+1+es.length)*sz=(k+1)*sz+es.length*sz by rw[A16],<-g,<-A8r,A8s,A8r]
   congr 1;rw[v]
  rw[z,A];simp[E2]
end fill
section rules
variable {P:Program} [A6 P] {fn:Func} {Post:Ce} {st:List KI×S} {u m:PH}
theorem En {d:List (Nat×Value)}(h:Bc P env o=.buildS inf n d):∃ t f,o=.buildSlice t n f/\(f.map fun (i,x)=>(i,env x))=d.toArray/\M0 P t=inf:=by
 cases o<;>simp only[Bc]at h<;>try cases h
 any_goals ((repeat' split at h)<;>cases h;done)
 grind
theorem Aan (h:Bc P env o=.make inf x y):∃ t X Y,o=.makeSlice t X Y/\env X=x/\env Y=y/\M0 P t=inf:=by
 cases o<;>simp only[Bc]at h<;>try cases h
 any_goals ((repeat' split at h)<;>cases h;done)
 grind
theorem Fq {sz:Option Nat}(h:Bc P env o=.store sz x y):∃ t X Y,o=.store t X Y/\env X=x/\env Y=y/\szB P t=sz:=by
 cases o<;>simp only[Bc]at h<;>try cases h
 any_goals ((repeat' split at h)<;>cases h;done)
 grind
theorem G.buildW {p:Value->Bool}(e:TypeId)(sz R:Nat)(z:Value)(es:List Value)(h:Aj P (adv P st)=.buildS (some (e,sz,R,z)) es.length (es.zipIdx.map fun p=>(p.2,p.1)))(I:Ze p sz es)(a0:z.cells.size=sz)(J:0<sz)(F:0<es.length)(hb:es.length*sz<=16777216)
 (k:∀ g A,PH.le u A->Hc A g 0 sz es->G P fn Post (nx (adv P st) (.slice (some ⟨g,0,none⟩) es.length es.length)) A m):G P fn Post st u m:=by
 refine G.big (K:=fun Q A L=>L=m/\∃ g,Q=.slice (some ⟨g,0,none⟩) es.length es.length/\Hc A g 0 sz es) h mV (fun env op Z=>?_) (.inl fun v A L O=>by rw[O.1];exact PH.le_refl _) (fun env o f w C=>?_) (fun Q A L X O=>?_)
 ·obtain⟨t,qs,rfl,_⟩:=En Z;rfl
 ·obtain⟨t,qs,N,U,hi⟩:=En f;obtain⟨dst,a1,type,pos,after,guard⟩:=o;simp only at N;subst N;obtain⟨Y,i,D,E,rfl,rfl⟩:=D4 hi;obtain⟨g1,g2,g3,g4⟩:=C.newU (.cells (E2 es).toArray e (0,0));have V:=Ba I;have H:es.length*i.size≠0:=by have:=A51 F J;omega
  have d:=Sn es 0 ((Array.range (es.length*i.size)).map (z.cells[· % z.cells.size]!)) I mV;have T:((Array.range (es.length*i.size)).map (z.cells[· % z.cells.size]!)).toList.drop (es.length*i.size) = []:=by grind
  simp only[A2w,T]at d;refine B8 (w':=w.alloc (.cells (E2 es).toArray e (0,0))) (v:=.slice (some ⟨w.heap.size,0,none⟩) es.length es.length) ?_ ⟨_,m,g1,g2,rfl,_,rfl,?_⟩
  ·simp only[execOp,U];simp[Instr.buildSlice,run_underlying Y,sizeOf,typeInfo,zeroValue,D,E,H,d,newRow,show ¬ 16777216<es.length*i.size by omega]
  intro j x W ii y hy;refine⟨_,_,_,Ab _ _ _,?_⟩;rw[A3j,A2w];exact Ju I W hy
 grind
def G.buildU (e:TypeId)(sz C:Nat)(z:Value)(es:List Value)(h:Aj P (adv P st)=.buildS (some (e,sz,C,z)) es.length (es.zipIdx.map fun p=>(p.2,p.1)))(E:A9 sz es)(v:z.cells.size=sz)(f:0<sz)(d:0<es.length)(D:es.length*sz<=16777216)
 (k:∀ g A,PH.le u A->Hc A g 0 sz es->G P fn Post (nx (adv P st) (.slice (some ⟨g,0,none⟩) es.length es.length)) A m):G P fn Post st u m:=G.buildW e sz C z es h E v f d D k
theorem G.make (e:TypeId)(sz bt:Nat)(z:Value)(n:Nat)(h:Aj P (adv P st)=.make (some (e,sz,bt,z)) (.int .i64 (n:Int)) (.int .i64 (n:Int)))(hz:z.cells.toList.all Ax=true)(hzs:z.cells.size=sz)(hsz:0<sz)
 (hb:bt*n<=281474976710656) (hb2:n<=9223372036854775807) (k:∀ v' m',Af m m' v' e sz (List.replicate n z)->(∃ a,v'=.slice (some a) n n)->G P fn Post (nx (adv P st) v') u m'):G P fn Post st u m:=by
 refine G.big (K:=fun v' u' m'=>u'=u/\PH.le m m'/\Af m m' v' e sz (List.replicate n z)/\∃ a,v'=.slice (some a) n n) h mV (fun env op hv=>by obtain⟨t,X,Y,rfl,_⟩:=Aan hv;rfl) (.inl fun v u' m' hk=>hk.2.1) (fun env o hview w hgd=>?_) (fun v' u' m' hle hk=>?_)
 ·obtain⟨t,X,Y,e1,e2,e3,hi⟩:=Aan hview;obtain⟨dst,opp,type,pos,after,guard⟩:=o;simp only at e1;subst e1;obtain⟨hu,i,hi1,hi2,rfl,rfl⟩:=D4 hi;have hb':(i.bytes:Int)*(n:Int)<=281474976710656:=by
   have:((i.bytes*n:Nat):Int)<=281474976710656:=oV
   rwa[A4d]at this
  have hr:=run_make (P:=P) w t e i z hu hi1 hi2 .i64 .i64 n n oV (Int.le_refl _) hb' oV;obtain⟨g1,g2,g3,g4⟩:=hgd.newM (t:=e) (Ab5 hz (n*i.size) oV);have hok:A9 i.size (List.replicate n z):=fun x hx=>by
   rw[A7g hx];exact⟨hzs,fun y hy=>by rw[A1o]at hz;exact hz y hy⟩
  have hflat:(E2 (List.replicate n z)).toArray=madeCells z.cells (n*i.size):=by
   apply Array.ext
   ·rw[size_madeCells,A7s,Ba hok,A3k]
   ·intro j h1 h2;rw[size_madeCells]at h2;have hlt:j%i.size<i.size:=A29 _ hsz;have hq:j/i.size<n:=(A3b hsz).2 h2;have hget:=Ju hok (j:=j/i.size) (i:=j%i.size) (e:=z) (x:=z.cells[j%i.size]'oV) (by simp[hq]) mV;rw[show j/i.size*i.size+j%i.size=j by rw[A19];exact A3h _ _]at hget;have:(E2 (List.replicate n z)).toArray[j]?=some z.cells[j%i.size]:=by grind
    rw[A2v h1]at this;have h3:=A28 this;rw[h3];simp only[madeCells,Array.getElem_map,Array.getElem_range,hzs];rw[getElem!_pos z.cells _ oV]
  refine B8 (w':=w.alloc (.cells (madeCells z.cells (n*i.size)) e (0,0))) (v:=.slice (some ⟨w.heap.size,0,none⟩) n n) ?_ ⟨u,_,g1,g2,rfl,Jw _ g3,⟨hok,.inr ⟨w.heap.size,n,[],g3,?_,mV,mV,?_,mV⟩⟩,_,rfl⟩
  ·simp only[execOp,e2,e3];simp[hr]
  ·grind
  ·rw[A1x,Ba hok,A3k]
 ·grind
def Rp {sz:Nat}:∀ {es:List Value} {j:Nat} {e:Value},A9 sz es->e.cells.size=sz->j<es.length->E2 (es.set j e)=(E2 es).take (j*sz)++e.cells.toList++(E2 es).drop (j*sz+sz)
 |[],j,e,_,_,h=>by simp at h
 |d::es,j,e,ho,he,h=>by
  have v:=(ho d mV).1;have f:∀ d (l:List Value),E2 (d::l)=d.cells.toList++E2 l:=fun d l=>by simp[E2]
  cases j with
  |zero =>
   rw[A2p,f,f];have:d.cells.toList.length=sz:=by simpa using v
   simp only[A58,A53,A3q,A2w];rw[<-this,A8s]
  |succ j =>
   rw[A2j,f,f,Rp (sz:=sz) (fun x E=>ho x (A2f _ E)) he (by simpa using h)];have g:d.cells.toList.length=sz:=by simpa using v
   rw[List.take_append,List.drop_append,g];have z:(j+1)*sz-sz=j*sz:=by rw[A16];omega
   have A:(j+1)*sz+sz-sz=j*sz+sz:=by rw[A16];omega
   have C:d.cells.toList.take ((j+1)*sz)=d.cells.toList:=A1j (by rw[g,A16];omega);have D:d.cells.toList.drop ((j+1)*sz+sz) = []:=A9o (by rw[g,A16];omega);rw[z,A,C,D];simp
def A9.set (h:A9 sz es)(f:e.cells.size=sz/\∀ x∈e.cells.toList,Ax x=true):A9 sz (es.set j e):=by
 intro x d;rcases A7c d with d|rfl
 ·exact h x d
 exact f
theorem G.storeA {t:TypeId}(sz:Nat)(m0:PH)(es:List Value)(b n c j:Nat)(e:Value)(h:Aj P (adv P st)=.store (some sz) (.pointer (some ⟨b,0+j*sz,none⟩)) e)(L:Af m0 m (.slice (some ⟨b,0,none⟩) n c) t sz es)(hj:j<es.length)(H:e.cells.size=sz)(O:e.cells.toList.all Ax=true)
 (k:∀ J,Af m0 J (.slice (some ⟨b,0,none⟩) n c) t sz (es.set j e)->G P fn Post (nx (adv P st) undef) u J):G P fn Post st u m:=by
 refine G.big (K:=fun v' Z J=>Z=u/\v'=undef/\Af m0 J (.slice (some ⟨b,0,none⟩) n c) t sz (es.set j e)) h mV (fun env op E=>?_) (.inr fun env op E=>?_) (fun env o D w I=>?_) (fun v' Z J _ hk=>?_)
 ·obtain⟨V,X,Y,rfl,_⟩:=Fq E;rfl
 ·obtain⟨V,X,Y,rfl,_⟩:=Fq E;rfl
 ·obtain⟨V,X,Y,W,e2,e3,ht⟩:=Fq D;obtain⟨dst,a1,type,pos,after,guard⟩:=o;simp only at W;subst W;rw[A1o]at O;rcases L.2 with ⟨E,_⟩|⟨g,cap,rest,T,rfl,E,F,v,d⟩
  ·grind
  obtain⟨rfl,rfl,rfl⟩:=E;have U:=I.pm b _ (Ab _ _ _);have R:=Ba L.1;have a0:j*sz+sz<=es.length*sz:=by
   have:=A13 sz (show j+1<=es.length by omega);rw[A16]at this;omega
  have C:=run_storeCells_at P b (j*sz) t e.cells.toList 0 (E2 es++rest).toArray w U (by simp[H];omega) (fun x N=>Gl (O x N));simp only[A3s,A3o,H]at C;have f:(E2 es++rest).take (j*sz)++e.cells.toList++(E2 es++rest).drop (j*sz+sz)=E2 (es.set j e)++rest:=by
   rw[Rp L.1 H hj,A6n oV,List.drop_append_of_le_length oV];simp
  rw[f]at C;have A:=L.1.set (j:=j) (e:=e) ⟨H,O⟩;have z:∀ x∈(E2 (es.set j e)++rest).toArray.toList,Ax x=true:=by
   intro x N;simp only[A1h]at N;exact N.elim (Fu A x) (d x)
  obtain⟨g1,g2⟩:=I.setM (Ab _ _ _) z;rw[Dp]at g1 g2;unfold Eg;have Q:(execOp env ⟨dst,.store V X Y,type,pos,after,guard⟩).run P w=.ok .skip (w.setRow b (E2 (es.set j e)++rest).toArray):=by
   simp only[execOp,e2,e3];simp[Instr.storeAt,Instr.sureAddr,storeVar,Bf ht,H,C]
  rw[Q];refine⟨u,_,g1,g2,rfl,rfl,A,.inr ⟨b,c,rest,T,rfl,mV,by simpa using F,?_,d⟩⟩;simp only[A1d,Ba A,A21,R]at v⊢;exact v
 grind
theorem Af.el {b n c j:Nat}(f:Af m0 m (.slice (some ⟨b,0,none⟩) n c) t sz es)(D:es[j]?=some e):ElP m b (0+j*sz) e:=by
 rcases f.2 with ⟨A,_⟩|⟨g,cap,rest,C,rfl,A,v,z,d⟩
 ·grind
 obtain⟨rfl,rfl,rfl⟩:=A;intro i x E;refine⟨_,_,_,Ab _ _ _,?_⟩;rw[A3j,A2w];have:=Ju f.1 D E;rw[A1r (by obtain⟨h,_⟩:=A05.1 this;exact h)];exact this
theorem Af.len {a:Option Addr}(d:Af m0 m (.slice a n c) t sz es):n=es.length:=by
 rcases d.2 with ⟨h,rfl,_⟩|⟨g,cap,rest,f,rfl,h,_⟩
 ·grind
 grind
theorem Af.ptr {v:Value}(d:Af m0 m v t sz es)(h:es≠[]):∃ b c,v=.slice (some ⟨b,0,none⟩) es.length c:=by
 rcases d.2 with ⟨_,rfl,_⟩|⟨g,cap,rest,f,rfl,z,_⟩
 ·grind
 grind
def Ac (u:PH)(v:Value)(sz:Nat)(es:List Value):Prop:=∃ a c,v=.slice a es.length c/\es.length<=c/\∀ j e,es[j]?=some e->∃ b off,a=some ⟨b,off,none⟩/\ElP u b (off+j*sz) e
def Ac.mono {u d:PH}{v:Value}{sz:Nat}{es:List Value}(h:Ac u v sz es)(E:PH.le u d):Ac d v sz es:=by
 obtain⟨a,c,z,A,C⟩:=h;exact⟨a,c,z,A,fun j e D=>by obtain⟨b,off,f,g⟩:=C j e D;exact⟨b,off,f,g.mono E⟩⟩
def Ac.nil (u:PH)(a:Option Addr)(c sz:Nat):Ac u (.slice a 0 c) sz []:=⟨a,c,rfl,A1t _,fun j e h=>by simp at h⟩
theorem G.give (m0:PH)(es:List Value)(v:Value)(h:Bgr (ctl P 100 st).1=true)(W:Af m0 m v t sz es)(h0:∀ g,Post.m0 g=none\/m0 g≠none)(k:∀ V,PH.le u V->Ac V v sz es->G P fn Post (ctl P 100 st) V m0):G P fn Post st u m:=by
 refine⟨L3 100 st ?_⟩;rcases W.2 with ⟨rfl,rfl,rfl⟩|⟨g,cap,rest,F,rfl,rfl,E,X,R⟩
 ·exact (k u (PH.le_refl _) (Ac.nil _ _ _ _)).out
 have N:∀ o,u g=none->PH.le u (u.upd g o):=fun o T=>Jw o T;rw[Sym.ofNo h];intro c ρ a w I d;have H:=d.gd.pm g _ (Ab _ _ _);have U:u g=none:=by
  rcases d.gd.ap g with e|e
  ·exact e
  rw[Ab]at e;cases e
 have Y:c.w0.heap.size<=g:=by
  rcases A2e g c.w0.heap.size with O|a0
  ·have Q:c.m0 g=none:=by
    rw[I];rcases h0 g with e|e
    ·exact e
    exact absurd F e
   have:=d.gr.ms g O Q;rw[Ab]at this;cases this
  grind
 have K:=k (u.upd g (.cells (E2 es++rest).toArray t (0,0))) (N _ U) ⟨_,_,rfl,E,fun j e L=>⟨g,0,rfl,fun i x hx=>⟨_,_,_,Ab _ _ _,by
  rw[A3j,A2w];have:=Ju W.1 L hx;rw[A1r (by obtain⟨h,_⟩:=A05.1 this;exact h)];exact this⟩⟩⟩
 have K:=K.out;rw[Sym.ofNo h]at K;refine K c ρ a w I ⟨d.sz,d.tm,d.df.of fun r e _ T D=>(by
  have C:r≠g:=fun e'=>(by rw[e',Ab]at D;cases D);rw[Ad _ _ C]at D;exact⟨e,by rw[Ad _ _ C];exact T,D⟩),fun Z b hb=>?_,d.inj,d.lv,⟨fun A o f=>?_,fun A o f=>?_,fun A=>?_,fun A cs t' fr j z f L=>?_⟩,⟨d.gr.sz,d.gr.old,fun A f=>?_,fun A f D=>?_,d.gr.io,d.gr.dr⟩⟩
 ·obtain⟨e1,e2,e3,J⟩:=d.box Z b hb;have C:ρ Z≠g:=fun e=>by rw[e,Ab]at J;cases J
  refine⟨e1,e2,by rw[Ad _ _ C];exact e3,?_⟩;rw[Ad _ _ C]at J;exact J
 ·by_cases e:A=g
  ·subst e;rw[Ab]at f;rw[H];exact f
  rw[Ad _ _ e]at f;exact d.gd.pu A o f
 ·refine d.gd.pm A o ?_;rw[Ad _ _ (fun e=>by rw[e,F]at f;cases f)];exact f
 ·by_cases e:A=g
  ·grind
  rw[Ad _ _ e];have:=d.gd.ap A;rw[Ad _ _ e]at this;exact this
 ·by_cases e:A=g
  ·subst e;rw[Ab,<-H];exact f
  rw[Ad _ _ e];exact d.gd.cl A cs t' fr j z f L
 ·rw[Ad _ _ oV];exact d.gr.us A f
 have:=d.gr.ms A f D;rw[Ad _ _ oV]at this;exact this
end rules
end
section
variable [Cl] [Pu] [Co]
variable {P:Program} [A6 P] {fn:Func} {Post:Ce} {st:List KI×S} {u m:PH}
def G.B (e:TypeId)(sz bt:Nat)(z:Value)(es:List Value)(ho:A9 sz es)(k:∀ g u',PH.le u u'->Hc u' g 0 sz es->G P fn Post (nx (adv P st) (.slice (some ⟨g,0,none⟩) es.length es.length)) u' m)(h:Aj P (adv P st)=.buildS (some (e,sz,bt,z)) es.length (es.zipIdx.map fun p=>(p.2,p.1)):=by kernel_rfl)(hzs:z.cells.size=sz:=by rfl)(hsz:0<sz:=by omega)(hn0:0<es.length:=by simp)(hb:es.length*sz<=16777216:=by simp):G P fn Post st u m:=G.buildU e sz bt z es h ho hzs hsz hn0 hb k
end
section
variable {a:Option Addr}{c n:Nat}{env:Operand->Value}{l:List Nat}{o:Op}
variable [Cl] [Co] [Pu]
section rules
variable {P:Program} [A6 P] {fn:Func} {Post:Ce} {st:List KI×S} {u m:PH}
def Jx {sz:Option Nat}{x:Value}{lo hi d:Option Value}(h:Bc P env o=.slice sz x lo hi d):∃ t X L H M,o=.slice t X L H M/\env X=x/\L.map env=lo/\H.map env=hi/\M.map env=d/\Ot P t=sz:=by
 cases o<;>simp only[Bc]at h<;>try cases h
 any_goals ((repeat' split at h)<;>cases h;done)
 exact⟨_,_,_,_,_,rfl,rfl,rfl,rfl,rfl,rfl⟩
def Zr (a:Option Addr):a.map (·.add 0)=a:=by cases a<;>rfl
def G.sliceTo (sz:Nat)(a:Option Addr)(n c k:Nat)(h:Aj P (adv P st)=.slice (some sz) (.slice a n c) none (some (.int .i64 k)) none)(F:k<=c)
 (g:G P fn Post (nx (adv P st) (.slice a k c)) u m):G P fn Post st u m:=by
 refine G.ask h mV (fun env o f w hp=>?_) g;obtain⟨t,X,L,H,M,j,v,z,A,C,d⟩:=Jx f;obtain⟨dst,E,type,pos,after,guard⟩:=o;simp only at j;subst j;unfold Ot at d;split at d
 ·rename_i e hu;have D:(0:Int)<=k/\(k:Int)<=c:=oV;simp only[execOp,v,z,A,C];simp only[Instr.sliceAt,Sem.run_bind,run_underlying hu,Result.andThen_ok,Instr.slice,Instr.sliceBounds,Instr.sliceBound,asIntOf,Sem.run_pure,if_true,Option.isSome,Sem.run_ite,Bf d,D,and_self,A23,A58,Zr,A6t];simp
 cases d
def G.sliceFrom (b off n c k sz:Nat)(h:Aj P (adv P st)=.slice (some sz) (.slice (some ⟨b,off,none⟩) n c) (some (.int .i64 k)) none none)(J:k<=n)(I:k<c)
 (g:G P fn Post (nx (adv P st) (.slice (some ⟨b,off+k*sz,none⟩) (n-k) (c-k))) u m):G P fn Post st u m:=by
 refine G.ask h mV (fun env o f w hp=>?_) g;obtain⟨t,X,L,H,M,j,v,z,A,C,d⟩:=Jx f;obtain⟨dst,F,type,pos,after,guard⟩:=o;simp only at j;subst j;unfold Ot at d;split at d
 ·rename_i e hu;have D:(0:Int)<=k/\(k:Int)<=n:=oV;have E:¬ (c=k):=oV;simp only[execOp,v,z,A,C];simp only[Instr.sliceAt,Sem.run_bind,run_underlying hu,Result.andThen_ok,Instr.slice,Instr.sliceBounds,Instr.sliceBound,asIntOf,Sem.run_pure,if_true,Option.isSome,Sem.run_ite,Bf d,D,and_self,A23,E,if_false,A4c,Ed]
 cases d
def G.quo (x y z:Int)(h:Aj P (adv P st)=.bin .quo (.int .i64 x) (.int .i64 y))(d:0<=x)(j:x<=9223372036854775807)(C:0<y)(e:x/y=z)
 (k:G P fn Post (nx (adv P st) (.int .i64 z)) u m):G P fn Post st u m:=by
 refine G.bin _ h C0 (fun t w=>?_) k;have f:x.tdiv y=z:=by rw[A32 d];exact e
 have v:0<=z:=by rw[<-e];exact A8m d oV
 have A:z<=x:=by rw[<-e];exact A9b _ d
 have g:¬ y=0:=oV
 simp[binOp,Op.intDiv,g,f,Fk (z:=z) oV oV]
def G.rem (x y z:Int)(h:Aj P (adv P st)=.bin .rem (.int .i64 x) (.int .i64 y))(g:0<=x)(e:x<=9223372036854775807)(j:0<y)(d:x%y=z)
 (k:G P fn Post (nx (adv P st) (.int .i64 z)) u m):G P fn Post st u m:=by
 refine G.bin _ h C0 (fun t w=>?_) k;have v:x.tmod y=z:=by rw[A47 g];exact d
 have f:¬ y=0:=oV
 have A:0<=z:=by rw[<-d];exact Int.emod_nonneg _ f
 have C:z<=x:=by rw[<-d];have:=A9q x y;have D:=Int.mul_nonneg (Int.le_of_lt j) (A8m g (Int.le_of_lt j));omega
 simp[binOp,Op.intDiv,f,v,Fk (z:=z) oV oV]
def Xq {op:BinOp}{x y:Bool}(t:TypeId)(X Y:Operand)(w:World):(eqGuard op t X Y (.bool x) (.bool y)).run P w=.ok () w:=by
 unfold eqGuard;split<;>simp
def Ak8 {t:TypeId}(d:P.underlying t=some .bool)(x y:Bool)(w:World):(Op.equal t (.bool x) (.bool y)).run P w=.ok (x==y) w:=by
 unfold Op.equal;rw[show Op.maxDepth=9999+1 from rfl,Op.equalIn];simp[run_underlying d]
def G.eqB (x y:Bool)(h:Aj P (adv P st)=.binT .eql (some .bool) (.bool x) (.bool y))(k:G P fn Post (nx (adv P st) (.bool (x==y))) u m):G P fn Post st u m:=by
 refine G.ask h mV (fun env o d w _=>?_) k;obtain⟨t,X,Y,z,e,f,g,j⟩:=Mb d;obtain⟨dst,v,type,pos,after,guard⟩:=o;simp only at e;subst e;simp[execOp,f,g,Xq,binOp,Ak8 j]
def G.neB (x y:Bool)(h:Aj P (adv P st)=.binT .neq (some .bool) (.bool x) (.bool y))(k:G P fn Post (nx (adv P st) (.bool (!(x==y)))) u m):G P fn Post st u m:=by
 refine G.ask h mV (fun env o d w _=>?_) k;obtain⟨t,X,Y,z,e,f,g,j⟩:=Mb d;obtain⟨dst,v,type,pos,after,guard⟩:=o;simp only at e;subst e;simp[execOp,f,g,Xq,binOp,Ak8 j]
def Ai (l:List Nat):List Value:=l.map fun (n:Nat)=>Value.int .i64 n
def Cy (u:PH)(v:Value)(l:List Nat):Prop:=Ac u v 1 (Ai l)
def Ak (l:List Nat):(Ai l).length=l.length:=by simp[Ai]
def Cy.mono {u d:PH}{v:Value}{l:List Nat}(h:Cy u v l)(e:PH.le u d):Cy d v l:=Ac.mono h e
def Cy.opn {u:PH}{v:Value}(h:Cy u v l):∃ a c,v=.slice a l.length c/\l.length<=c:=by
 obtain⟨a,c,d,e,_⟩:=h;rw[Ak]at d e;exact⟨a,c,d,e⟩
def Cy.len {u:PH}(h:Cy u (.slice a n c) l):n=l.length/\l.length<=c:=by
 obtain⟨f,g,d,e⟩:=h.opn;simp at d;obtain⟨_,rfl,rfl⟩:=d;exact⟨rfl,e⟩
def Cy.at {u:PH}{a:Option Addr}{n c:Nat}{l:List Nat}(h:Cy u (.slice a n c) l){j:Nat}(f:j<l.length):∃ b off,a=some ⟨b,off,none⟩/\ElP u b (off+j*1) (.int .i64 (l.getD j 0:Nat)):=by
 obtain⟨g,t,d,v,e⟩:=h;simp at d;obtain⟨rfl,_,rfl⟩:=d;exact e j _ (by simp[Ai,f])
def Cy.take {u:PH}(h:Cy u (.slice a n c) l)(k:Nat)(A:k<=l.length):Cy u (.slice a k c) (l.take k):=by
 obtain⟨v,z,f,g,t⟩:=h;simp at f;obtain⟨rfl,_,rfl⟩:=f;rw[Ak]at g;refine⟨a,c,by simp[Ai];omega,by simp[Ai];omega,fun j e d=>?_⟩;refine t j e ?_;simp only[Ai,A5g,A3y]at d⊢;split at d
 ·exact d
 cases d
def Rb {b:Builtin}{ts:List TypeId}{xs:List Value}(h:Bc P env o=.blt b ts xs):∃ c,o=.call c/\c.callee=.builtin b/\c.argTypes=ts.toArray/\(c.args.map env)=xs.toArray:=by
 cases o<;>simp only[Bc]at h<;>try cases h
 ·split at h<;>cases h
 split at h
 ·split at h<;>cases h
 ·rename_i c b' hc;split at h
  ·split at h<;>cases h
  simp only[Vm.blt.injEq]at h;obtain⟨rfl,rfl,rfl⟩:=h;exact⟨_,rfl,hc,mV,by apply A6j;simp⟩
 cases h
def G.minI (ts:List TypeId)(x y z:Int)(h:Aj P (adv P st)=.blt .min ts [.int .i64 x,.int .i64 y])(t:min x y=z)(k:G P fn Post (nx (adv P st) (.int .i64 z)) u m):G P fn Post st u m:=by
 refine G.ask h mV (fun env o d w _=>?_) k;obtain⟨c,e,f,A,g⟩:=Rb d;obtain⟨dst,v,type,pos,after,guard⟩:=o;simp only at e;subst e;subst t;have j:(if y<x then y else x)=min x y:=by split<;>omega
 simp[execOp,resolve,f,invoke,builtin,g,Builtin.min_,Builtin.min2,j]
def G.maxI (ts:List TypeId)(x y z:Int)(h:Aj P (adv P st)=.blt .max ts [.int .i64 x,.int .i64 y])(t:max x y=z)(k:G P fn Post (nx (adv P st) (.int .i64 z)) u m):G P fn Post st u m:=by
 refine G.ask h mV (fun env o d w _=>?_) k;obtain⟨c,e,f,A,g⟩:=Rb d;obtain⟨dst,v,type,pos,after,guard⟩:=o;simp only at e;subst e;subst t;have j:(if x<y then y else x)=max x y:=by split<;>omega
 simp[execOp,resolve,f,invoke,builtin,g,Builtin.max_,Builtin.max2,j]
def G.appendNil (e:TypeId)(sz F:Nat)(z:Value)(a:Option Addr)(c:Nat)(h:Aj P (adv P st)=.app (some (e,sz,F,z)) true [.slice none 0 0,.slice a 0 c])
 (k:G P fn Post (nx (adv P st) (.slice none 0 0)) u m):G P fn Post st u m:=by
 refine G.big (K:=fun E D C=>D=u/\C=m/\E=.slice none 0 0) h mV (fun env op O=>(Ew (P:=P) (o:=⟨none,op,0, "",#[],none⟩) O).2.1) (.inl fun v D C A=>by rw[A.2.1];exact PH.le_refl _) (fun env o d w g=>?_) (fun E D C _ A=>?_)
 ·obtain⟨_,_,t,hi,f⟩:=Ew (P:=P) d;obtain⟨N,i,j,H,I,J⟩:=D4 hi;have L:(Builtin.append_ #[t,t] o.type #[.slice none 0 0,.slice a 0 c]).run P w=.ok (.slice none 0 0) w:=by
   cases a<;>simp[Builtin.append_,run_underlying N,sizeOf,typeInfo,j,Builtin.lenOf,Builtin.firstCells,loadCells,loadCellsFrom]
  exact B8 (by rw[f,L];rfl) ⟨u,m,g,B0.refl _ _ _,rfl,rfl,rfl⟩
 obtain⟨rfl,rfl,rfl⟩:=A;exact k
def Fc (l:List Int):List Value:=l.map fun (n:Int)=>Value.int .i64 n
def Cq (l:List Int):(Fc l).length=l.length:=by simp[Fc]
def N7 (l:List Int):A9 1 (Fc l):=by
 intro e d;simp only[Fc,A1b]at d;obtain⟨n,_,rfl⟩:=d;simp[Value.cells,Ax]
def Mm (l:List Int)(j:Nat)(d:Int):(Fc l).set j (.int .i64 d)=Fc (l.set j d):=by simp[Fc,A2g]
def Tr (l:List Nat):Fc (l.map fun (n:Nat)=>(n:Int))=Ai l:=by simp[Fc,Ai]
def Av (l:List Nat):A9 1 (Ai l):=by rw[<-Tr];exact N7 _
def Cy.els {u:PH}{b off n c:Nat}(h:Cy u (.slice (some ⟨b,off,none⟩) n c) l):Hc u b off 1 (Ai l):=by
 obtain⟨A,C,f,D,v⟩:=h;simp at f;obtain⟨rfl,_,rfl⟩:=f;intro j e z;obtain⟨b',g,d,t⟩:=v j e z;simp at d;obtain⟨rfl,rfl⟩:=d;exact t
end rules
end
section
variable [Cl] [Co] [Pu]
section rules
variable {P:Program} [A6 P] {fn:Func} {Post:Ce} {st:List KI×S} {u m:PH}
def Ac.els {sz:Nat}{es:List Value}{b off n c:Nat}(h:Ac u (.slice (some ⟨b,off,none⟩) n c) sz es):Hc u b off sz es:=by
 obtain⟨A,C,f,D,v⟩:=h;simp at f;obtain⟨rfl,_,rfl⟩:=f;intro j e z;obtain⟨b',g,d,t⟩:=v j e z;simp at d;obtain⟨rfl,rfl⟩:=d;exact t
def G.append0 (e:TypeId)(sz J:Nat)(z:Value)(a f:Option Addr)(n c H:Nat)(h:Aj P (adv P st)=.app (some (e,sz,J,z)) true [.slice a n c,.slice f 0 H])(L:n<=c)
 (k:G P fn Post (nx (adv P st) (.slice a n c)) u m):G P fn Post st u m:=by
 refine G.big (K:=fun I F E=>F=u/\E=m/\I=.slice a n c) h mV (fun g op U=>(Ew (P:=P) (o:=⟨none,op,0, "",#[],none⟩) U).2.1) (.inl fun v F E D=>by rw[D.2.1];exact PH.le_refl _) (fun g o d w A=>?_) (fun I F E _ D=>?_)
 ·obtain⟨_,_,t,hi,j⟩:=Ew (P:=P) d;obtain⟨T,i,C,N,O,Q⟩:=D4 hi;have R:(Builtin.append_ #[t,t] o.type #[.slice a n c,.slice f 0 H]).run P w=.ok (.slice a n c) w:=by
   cases a<;>cases f<;>simp[Builtin.append_,run_underlying T,sizeOf,typeInfo,C,Builtin.lenOf,Builtin.firstCells,loadCells,loadCellsFrom,L,storeCells]
  exact B8 (by rw[j,R];rfl) ⟨u,m,A,B0.refl _ _ _,rfl,rfl,rfl⟩
 obtain⟨rfl,rfl,rfl⟩:=D;exact k
def G.appendU (e:TypeId)(sz bt:Nat)(z:Value)(es xs:List Value)(a:Option Addr)(U b off n c:Nat)(h:Aj P (adv P st)=.app (some (e,sz,bt,z)) true [.slice a U U,.slice (some ⟨b,off,none⟩) n c])(T:0<sz)
 (ha:Ac u (.slice a U U) sz es) (F:A9 sz es) (hx:Hc u b off sz xs) (ho:A9 sz xs) (Q:xs.length=n) (a0:0<n) (hb:(es.length+n)*bt<=140737488355328) (X:es.length+n<=9223372036854775807)
 (k:∀ J A,PH.le u A->Ac A J sz (es++xs)->G P fn Post (nx (adv P st) J) A m):G P fn Post st u m:=by
 refine G.big (K:=fun J A m'=>m'=m/\Ac A J sz (es++xs)) h mV (fun W op hv=>(Ew (P:=P) (o:=⟨none,op,0, "",#[],none⟩) hv).2.1) (.inl fun v A m' O=>by rw[O.1];exact PH.le_refl _) (fun W o H w g=>?_) (fun J A m' Z O=>?_)
 ·obtain⟨_,_,t,hi,N⟩:=Ew (P:=P) H;obtain⟨hu,i,D,E,rfl,rfl⟩:=D4 hi;have d:=hx.cells T ho g.pu;have C:=Ba ho;have Y:=Ba F;obtain⟨a1,c1,e1,e2,e3⟩:=id ha;simp only[Value.slice.injEq]at e1;obtain⟨rfl,rfl,rfl⟩:=e1;have key:∀ (cap:Nat) (rest:List Value),es.length+n<=cap->Ac (u.upd w.heap.size (.cells (E2 (es++xs)++rest).toArray e (0,0))) (.slice (some ⟨w.heap.size,0,none⟩) (es.length+n) cap) i.size (es++xs):=by
   intro cap rest L;refine⟨_,cap,by simp[Q],by simp[Q];exact L,fun j x hj=>⟨_,0,rfl,fun ii y hy=>⟨_,_,_,Ab _ _ _,?_⟩⟩⟩;rw[A3j,A2w];have:=Ju (F.append ho) hj hy;rw[A1r (by obtain⟨h,_⟩:=A05.1 this;exact h)];exact this
  rcases A2a es.length with h0|h0
  ·have:es = []:=A2l h0;subst this;simp only[A30,A2w]at hb X;have I:∃ v w',(Builtin.append_ #[t,t] o.type #[.slice a 0 0,.slice (some ⟨b,off,none⟩) n c]).run P w=.ok v w'/\v=.slice (some ⟨w.heap.size,0,none⟩) n (grownCap w n 0 e)/\w'=w.drew.alloc (.cells (E2 xs++(Builtin.zeroCells z.cells (grownCap w n 0 e-n)).toList).toArray e):=by
    cases a with
    |none =>
     refine⟨_,_,run_append_nil (P:=P) w t o.type e i z hu D E ⟨b,off,none⟩ n c (E2 xs) (by rw[C,Q]) d a0 oV oV,rfl,?_⟩
     congr 2;apply A6j;simp
    |some a =>
     have:=run_append_grow (P:=P) w t o.type e i z hu D E a 0 0 [] mV mV ⟨b,off,none⟩ n c (E2 xs) (by rw[C,Q]) d oV oV (growslice_fits oV (by rw[A2w];omega));simp only[A2w]at this;refine⟨_,_,this,rfl,?_⟩
     congr 2;apply A6j;simp
   obtain⟨v,w',I,rfl,rfl⟩:=I;obtain⟨g1,g2,g3,g4⟩:=g.drew'.newU (.cells (E2 xs++(Builtin.zeroCells z.cells (grownCap w n 0 e-n)).toList).toArray e (0,0));have:=key (grownCap w n 0 e) (Builtin.zeroCells z.cells (grownCap w n 0 e-n)).toList (by simpa using grownCap_ge w n 0 e);simp only[A3q,A30,A2w]at this;exact B8 (by rw[N];simp only[A30];rw[I];rfl) ⟨_,m,g1,⟨g2.sz,g2.old,g2.us,g2.ms,g2.io,fun f=>⟨(g2.dr f).tape,A7v (g2.dr f).dr⟩⟩,rfl,this⟩
  obtain⟨V,oe,rfl,_⟩:=e3 0 es[0] mV;have R:=Hc.cells T ha.els F g.pu;have I:=run_append_grow (P:=P) w t o.type e i z hu D E ⟨V,oe,none⟩ es.length es.length (E2 es) Y R ⟨b,off,none⟩ n c (E2 xs) (by rw[C,Q]) d oV oV (growslice_fits oV hb);have ew:(E2 es).toArray++(E2 xs).toArray++Builtin.zeroCells z.cells (grownCap w (es.length+n) es.length e-(es.length+n))=(E2 (es++xs)++(Builtin.zeroCells z.cells (grownCap w (es.length+n) es.length e-(es.length+n))).toList).toArray:=by
   apply A6j;simp[Dq]
  rw[ew]at I;obtain⟨g1,g2,g3,g4⟩:=g.drew'.newU (.cells (E2 (es++xs)++(Builtin.zeroCells z.cells (grownCap w (es.length+n) es.length e-(es.length+n))).toList).toArray e (0,0));exact B8 (by rw[N,show ([Value.slice (some ⟨V,oe,none⟩) es.length es.length,Value.slice (some ⟨b,off,none⟩) n c]).toArray = #[.slice (some ⟨V,oe,none⟩) es.length es.length,.slice (some ⟨b,off,none⟩) n c] from rfl,I];rfl) ⟨_,m,g1,⟨g2.sz,g2.old,g2.us,g2.ms,g2.io,fun f=>⟨(g2.dr f).tape,A7v (g2.dr f).dr⟩⟩,rfl,key _ _ (grownCap_ge w _ _ e)⟩
 obtain⟨rfl,O⟩:=O;exact k J A Z O
def G.appendV (e:TypeId)(sz f:Nat)(z:Value)(es xs:List Value)(a:Option Addr)(d:Nat)(g:Option Addr)(n c:Nat)(h:Aj P (adv P st)=.app (some (e,sz,f,z)) true [.slice a d d,.slice g n c])(v:0<sz)
 (D:Ac u (.slice a d d) sz es) (t:A9 sz es) (E:Ac u (.slice g n c) sz xs) (L:A9 sz xs) (K:(es.length+xs.length)*f<=140737488355328) (j:es.length+xs.length<=9223372036854775807)
 (k:∀ F A,PH.le u A->Ac A F sz (es++xs)->G P fn Post (nx (adv P st) F) A m):G P fn Post st u m:=by
 obtain⟨H,O,C,Q,J⟩:=id E;simp only[Value.slice.injEq]at C;obtain⟨rfl,rfl,rfl⟩:=C;rcases A2a xs.length with h0|h0
 ·have:xs = []:=A2l h0;subst this;exact G.append0 e sz f z a g d d c h (A08 _) (k _ u (PH.le_refl _) (by rw[A1x];exact D))
 obtain⟨I,N,rfl,_⟩:=J 0 xs[0] mV;exact G.appendU e sz f z es xs a d I N xs.length c h v D t E.els L rfl h0 K j k
end rules
end
section
variable {env:Operand->Value}{o:Op}{x:Value}
variable [Cl] [Co] [Pu]
abbrev mkS (l:List UInt8):ByteArray:=⟨l.toArray⟩
def Ads {a b:List UInt8}:mkS a=mkS b↔a=b:=by
 constructor
 ·intro h;injection h with h;simpa using h
 rintro rfl;rfl
def Ng (l:List UInt8):(mkS l).toList=l:=by
 rw[Go.Lib.toList_data]
def Mf (a b:List UInt8):((mkS a).toList==(mkS b).toList)=decide (a=b):=by
 rw[Ng,Ng,A9j];simp
section rules
variable {P:Program} [A6 P] {fn:Func} {Post:Ce} {st:List KI×S} {u m:PH}
def Yr (Q:Op->Bool)(st:List KI×S):Bool :=
 match st.1 with
 |.reg _ ops _ (i::_)::_=>match ops[i]? with
  |some o=>Q o.op
  |none=>false
 |_=>false
def G.askQ (Q:Op->Bool){V:Vm}{v:Value}(h:Aj P (adv P st)=V)(n:Yr Q (adv P st)=true)(g:V≠.other)(D:∀ env (o:Oper),Bc P env o.op=V->Q o.op=true->∀ w,(Hr o.op=true->Fj u w/\(Pu.b=false->Fj m w))->(execOp env o).run P w=.ok (.value v) w)
 (k:G P fn Post (nx (adv P st) v) u m):G P fn Post st u m:=by
 refine G.stp ?_;obtain⟨J,H,I,i,l,K,s,o,e,j,C,A,F,E,d,f⟩:=Eq h g;have k:=k.out;rw[f]at k;have t:Q o.op=true:=by
  rw[e]at n;simpa[Yr,j] using n
 rw[e];exact⟨Ob.ask j C A F E (Aby d g) (fun w hp=>D _ o d t w fun h=>⟨(hp (.inl h)).1,fun z=>(hp (.inl h)).2 (.inl z)⟩) k⟩
def Nd (P:Program):Op->Bool
 |.slice t ..=>match P.underlying t with|some .string=>true|_=>false
 |_=>false
def H8 {op:BinOp}{x y:ByteArray}(t:TypeId)(X Y:Operand)(w:World):(eqGuard op t X Y (.string x) (.string y)).run P w=.ok () w:=by
 unfold eqGuard;split<;>simp
def G.eqST (a b:List UInt8)(h:Aj P (adv P st)=.bin .eql (.string (mkS a)) (.string (mkS b)))(d:a=b)(k:G P fn Post (nx (adv P st) (.bool true)) u m):G P fn Post st u m :=
 G.bin _ h H8 (fun t w=>by simp[binOp,Op.stringOp,Mf,d]) k
def G.eqSF (a b:List UInt8)(h:Aj P (adv P st)=.bin .eql (.string (mkS a)) (.string (mkS b)))(d:a≠b)(k:G P fn Post (nx (adv P st) (.bool false)) u m):G P fn Post st u m :=
 G.bin _ h H8 (fun t w=>by simp only[binOp,Op.stringOp,Mf,decide_eq_false d];rfl) k
def G.neST (a b:List UInt8)(h:Aj P (adv P st)=.bin .neq (.string (mkS a)) (.string (mkS b)))(d:a≠b)(k:G P fn Post (nx (adv P st) (.bool true)) u m):G P fn Post st u m :=
 G.bin _ h H8 (fun t w=>by simp only[binOp,Op.stringOp,Mf,decide_eq_false d];rfl) k
def G.neSF (a b:List UInt8)(h:Aj P (adv P st)=.bin .neq (.string (mkS a)) (.string (mkS b)))(d:a=b)(k:G P fn Post (nx (adv P st) (.bool false)) u m):G P fn Post st u m :=
 G.bin _ h H8 (fun t w=>by simp only[binOp,Op.stringOp,Mf,decide_eq_true d];rfl) k
def Aih (a b:List UInt8):mkS a++mkS b=mkS (a++b):=by
 rw[mkS,mkS,ByteArray.mk_append_mk]
def G.addS (a b:List UInt8)(h:Aj P (adv P st)=.bin .add (.string (mkS a)) (.string (mkS b)))(e:a.length+b.length<=9223372036854775807)(k:G P fn Post (nx (adv P st) (.string (mkS (a++b)))) u m):G P fn Post st u m :=
 G.bin _ h H8 (fun t w=>by
  have d:¬ (((mkS a).size+(mkS b).size:Nat):Int)>IntKind.i64.max:=by
   rw[Go.Lib.size_mk,Go.Lib.size_mk];simp[IntKind.max,IntKind.signed,IntKind.bits];omega
  simp only[binOp,Op.stringOp];rw[if_neg d,Aih];rfl) k
def Aia {t:Option TypeDesc}{x i:Value}(h:Bc P env o=.index t x i):∃ d X I,o=.index d X I/\env X=x/\env I=i/\P.underlying d=t:=by
 cases o<;>simp only[Bc]at h<;>try cases h
 any_goals ((repeat' split at h)<;>cases h;done)
 exact⟨_,_,_,rfl,rfl,rfl,rfl⟩
def Ln {s d:Option TypeDesc}(h:Bc P env o=.conv s d x):∃ f e X,o=.convert f e X/\env X=x/\P.underlying f=s/\P.underlying e=d:=by
 cases o<;>simp only[Bc]at h<;>try cases h
 any_goals ((repeat' split at h)<;>cases h;done)
 exact⟨_,_,_,rfl,rfl,rfl,rfl⟩
def G.idxS (l:List UInt8)(i:Nat)(b:UInt8)(h:Aj P (adv P st)=.index (some .string) (.string (mkS l)) (.int .i64 i))(f:l[i]?=some b)
 (k:G P fn Post (nx (adv P st) (.int .u8 (b.toNat:Int))) u m):G P fn Post st u m:=by
 refine G.ask h mV (fun env o d w _=>?_) k;obtain⟨t,X,I,e,g,j,n⟩:=Aia d;obtain⟨dst,A,type,pos,after,guard⟩:=o;simp only at e;subst e;obtain⟨hi,f⟩:=A05.1 f;have v:(mkS l)[i]?=some b:=by
  have z:i<(mkS l).size:=by rw[Go.Lib.size_mk];exact hi
  rw[getElem?_pos (mkS l) i z]
  congr 1
 have h0:(0:Int)<=(i:Int):=oV
 simp[execOp,g,j,Instr.index,run_underlying n,asIntOf,v,h0]
def G.sliceSTo (l:List UInt8)(n:Nat)(h:Aj P (adv P st)=.slice none (.string (mkS l)) none (some (.int .i64 n)) none)(C:Yr (Nd P) (adv P st)=true)(F:n<=l.length)
 (k:G P fn Post (nx (adv P st) (.string (mkS (l.take n)))) u m):G P fn Post st u m:=by
 refine G.askQ _ h C mV (fun env o d e w hp=>?_) k;obtain⟨t,X,L,H,M,f,g,j,v,z,D⟩:=Jx d;obtain⟨dst,E,type,pos,after,guard⟩:=o;simp only at f;subst f;simp only[Nd]at e;split at e
 ·rename_i hu;have A:(0:Int)<=n/\(n:Int)<=(mkS l).size:=by rw[Go.Lib.size_mk];omega
  simp only[execOp,g,j,v,z];simp only[Instr.sliceAt,Sem.run_bind,run_underlying hu,Result.andThen_ok,Instr.slice,Instr.sliceBounds,Instr.sliceBound,asIntOf,Sem.run_pure,if_true,Option.isSome,Sem.run_ite,A,and_self,A23,A6t];simp[Go.Lib.extract_mk]
 cases e
def G.sliceSFrom (l:List UInt8)(n:Nat)(h:Aj P (adv P st)=.slice none (.string (mkS l)) (some (.int .i64 n)) none none)(D:Yr (Nd P) (adv P st)=true)(I:n<=l.length)
 (k:G P fn Post (nx (adv P st) (.string (mkS (l.drop n)))) u m):G P fn Post st u m:=by
 refine G.askQ _ h D mV (fun env o d e w hp=>?_) k;obtain⟨t,X,L,H,M,f,g,j,v,z,E⟩:=Jx d;obtain⟨dst,F,type,pos,after,guard⟩:=o;simp only at f;subst f;simp only[Nd]at e;split at e
 ·rename_i hu;have A:(0:Int)<=n/\(n:Int)<=(mkS l).size:=by rw[Go.Lib.size_mk];omega
  simp only[execOp,g,j,v,z];simp only[Instr.sliceAt,Sem.run_bind,run_underlying hu,Result.andThen_ok,Instr.slice,Instr.sliceBounds,Instr.sliceBound,asIntOf,Sem.run_pure,if_true,Option.isSome,Sem.run_ite,A,and_self,A23,A6t];have C:(mkS l).extract n (mkS l).size=mkS (l.drop n):=by
   rw[Go.Lib.extract_mk,Go.Lib.size_mk,A1j mV]
  simp[C]
 cases e
def G.convI (A f C:IntKind)(x z:Int)(h:Aj P (adv P st)=.conv (some (.int A)) (some (.int f)) (.int C x))(v:f.wrap x=z)
 (k:G P fn Post (nx (adv P st) (.int f z)) u m):G P fn Post st u m:=by
 refine G.ask h mV (fun env o e w _=>?_) k;obtain⟨s,d,X,g,j,n,t⟩:=Ln e;obtain⟨dst,D,type,pos,after,guard⟩:=o;simp only at g;subst g;simp[execOp,convert,j,run_underlying n,run_underlying t,Conv.intToInt,v]
def Aj9 {z:Int}(d:0<=z)(e:z<256):IntKind.u8.wrap z=z:=by
 simp only[IntKind.wrap,IntKind.signed,IntKind.bits];simp;omega
def G.sub8 (x y z:Int)(h:Aj P (adv P st)=.bin .sub (.int .u8 x) (.int .u8 y))(f:x-y=z)(d:0<=z)(e:z<256)
 (k:G P fn Post (nx (adv P st) (.int .u8 z)) u m):G P fn Post st u m :=
 G.bin _ h C0 (fun t w=>by simp[binOp,Op.intArith,f,Aj9 d e]) k
def Fn (l:List UInt8):List Value:=l.map fun b=>Value.int .u8 (b.toNat:Int)
def Au (l:List UInt8):(Fn l).length=l.length:=by simp[Fn]
def P0 (l d:List UInt8):Fn (l++d)=Fn l++Fn d:=by simp[Fn]
def Mj (l:List UInt8):A9 1 (Fn l):=by
 intro e d;simp only[Fn,A1b]at d;obtain⟨b,_,rfl⟩:=d;exact⟨rfl,fun x f=>by simp[Value.cells]at f;subst f;rfl⟩
def Af.take {m0:PH}{t:TypeId}{sz:Nat}{es:List Value}{a:Option Addr}{n c k:Nat}(v:Af m0 m (.slice a n c) t sz es)(D:k<=es.length):Af m0 m (.slice a k c) t sz (es.take k):=by
 refine⟨fun e F=>v.1 e (A27 F),?_⟩;rcases v.2 with ⟨j,rfl,H⟩|⟨g,cap,rest,A,rfl,j,C,h,f⟩
 ·left;simp at j D;obtain⟨rfl,rfl,rfl⟩:=j;subst D;exact⟨rfl,rfl,H⟩
 right;simp only[Value.slice.injEq]at j;obtain⟨rfl,rfl,rfl⟩:=j;have e:E2 es=E2 (es.take k)++E2 (es.drop k):=by rw[<-Dq,A4h]
 refine⟨g,c,E2 (es.drop k)++rest,A,by rw[<-A2k,<-e],gV,gV,by rw[<-A2k,<-e];exact h,fun x d=>?_⟩;rcases A1h.1 d with d|d
 ·simp only[E2,A57]at d;obtain⟨E,z,d⟩:=d;exact (v.1 E (A3x z)).2 x d
 exact f x d
def Af.cap {m0:PH}{t:TypeId}{sz:Nat}{es:List Value}{a:Option Addr}{n c:Nat}(j:Af m0 m (.slice a n c) t sz es):n<=c:=by
 rcases j.2 with ⟨e,rfl,z⟩|⟨g,cap,rest,v,rfl,e,f,h,d⟩
 ·simp at e;omega
 simp at e;omega
def G.convB (m0:PH)(t e:TypeId)(l:List UInt8)(b n c:Nat)(h:Aj P (adv P st)=.conv (some (.slice e)) (some .string) (.slice (some ⟨b,0,none⟩) n c))(I:P.underlying e=some (.int .u8))
 (A:Af m0 m (.slice (some ⟨b,0,none⟩) n c) t 1 (Fn l)) (k:G P fn Post (nx (adv P st) (.string (mkS l))) u m) (g:Pu.b=false:=by rfl):G P fn Post st u m:=by
 refine G.ask h mV (fun env o f w hp=>?_) k;obtain⟨s,d,X,v,D,E,z⟩:=Ln f;obtain⟨dst,L,type,pos,after,guard⟩:=o;simp only at v;subst v;have K:=(hp (by simp[Hr,Acg z mV])).2 g;have C:=A.len;rw[Au]at C;subst C;have:=run_convert_bytes_back (P:=P) w s d e ⟨b,0,none⟩ c l E I z (fun j J=>by
  have F:=A.el (j:=j) (e:=.int .u8 (l[j].toNat:Int)) (by simp[Fn,J]);have H:=(F 0 (.int .u8 (l[j].toNat:Int)) (by simp[Value.cells])).cell K;rw[Ed];simpa using H)
 simp[execOp,D,this]
end rules
end
section
variable [Cl] [Pu] [Co]
variable {P:Program} [A6 P] {fn:Func} {Post:Ce} {st:List KI×S} {u m:PH}
def G.q (a b:List UInt8)(hab:a=b)(k:G P fn Post (nx (adv P st) (.bool true)) u m)(h:Aj P (adv P st)=.bin .eql (.string (mkS a)) (.string (mkS b)):=by kernel_rfl):G P fn Post st u m:=G.eqST a b h hab k
def G.w (a b:List UInt8)(hab:a≠b)(k:G P fn Post (nx (adv P st) (.bool false)) u m)(h:Aj P (adv P st)=.bin .eql (.string (mkS a)) (.string (mkS b)):=by kernel_rfl):G P fn Post st u m:=G.eqSF a b h hab k
def G.x (a b:List UInt8)(hab:a≠b)(k:G P fn Post (nx (adv P st) (.bool true)) u m)(h:Aj P (adv P st)=.bin .neq (.string (mkS a)) (.string (mkS b)):=by kernel_rfl):G P fn Post st u m:=G.neST a b h hab k
def G.y (a b:List UInt8)(hab:a=b)(k:G P fn Post (nx (adv P st) (.bool false)) u m)(h:Aj P (adv P st)=.bin .neq (.string (mkS a)) (.string (mkS b)):=by kernel_rfl):G P fn Post st u m:=G.neSF a b h hab k
def tV (l:List UInt8):SV:=.v (.string (mkS l))
end
section
variable {a:Option Addr}{b neg:Bool}{c n:Nat}{l:List Nat}{q:Rat}{y z:Int}
section
variable [Cl] {P:Program} [A6 P] {fn:Func} {Post:Ce} {st:List KI×S} {u m:PH}
def Axp (d:0<=z)(e:z<18446744073709551616):IntKind.u64.wrap z=z:=by
 simp only[IntKind.wrap,IntKind.signed,IntKind.bits];simp;omega
theorem G.quoW (x y z:Nat)(h:Aj P (adv P st)=.bin .quo (.int .u64 (x:Int)) (.int .u64 (y:Int)))(f:x/y=z)(j:x<18446744073709551616)(v:0<y)(k:G P fn Post (nx (adv P st) (.int .u64 (z:Int))) u m):G P fn Post st u m:=by
 refine G.bin _ h C0 (fun t w=>?_) k;have g:z<=x:=by rw[<-f];exact A3u _ _
 have d:(x:Int).tdiv y=z:=by grind
 have e:¬ y=0:=oV
 simp[binOp,Op.intDiv,e,d,Axp (z:=(z:Int)) oV oV]
theorem G.remW (x y z:Nat)(h:Aj P (adv P st)=.bin .rem (.int .u64 (x:Int)) (.int .u64 (y:Int)))(j:x%y=z)(f:x<18446744073709551616)(g:0<y)(k:G P fn Post (nx (adv P st) (.int .u64 (z:Int))) u m):G P fn Post st u m:=by
 refine G.bin _ h C0 (fun t w=>?_) k;have d:(x:Int).tmod y=z:=by grind
 have e:¬ y=0:=oV
 simp[binOp,Op.intDiv,e,d]
def G.negW (x z:Int)(h:Aj P (adv P st)=.un .neg (.int .u64 x))(j:IntKind.u64.wrap (-x)=z)(k:G P fn Post (nx (adv P st) (.int .u64 z)) u m):G P fn Post st u m:=by
 refine G.ask h mV (fun g o d w hp=>?_) k;obtain⟨t,X,e,f⟩:=Ake d;obtain⟨dst,v,type,pos,after,guard⟩:=o;simp only at e;subst e;simp[execOp,Op.unary,f,Op.intArith,j]
end
section
variable {u:PH} {x x':Value}
def Alb {m n:Nat}(h:Dk u x m)(d:Dk u x' n)(e:nl m<=10000000000000)(sb:nl n<=10000000000000):Fn0 prog 201 [x,x'] u fun v f=>Dk f v (m+n) :=
 Fn0.ofW (fun v w=>C8 w v (m+n)) (fun w hp=>Ai9 x x' m n w (h.toW hp) (d.toW hp) e sb) (fun _ _ _ h _ c _=>Dk.ofW h c)
def Adg {m n:Nat}(h:Dk u x m)(e:Dk u x' n)(f:nl m<=10000000000000)(d:n<=m):Fn0 prog 203 [x,x'] u fun v g=>Dk g v (m-n) :=
 Fn0.ofW (fun v w=>C8 w v (m-n)) (fun w hp=>Ahz x x' m n w (h.toW hp) (e.toW hp) f d) (fun _ _ _ h _ c _=>Dk.ofW h c)
def Aun {m n:Nat}(h:Dk u x m)(d:Dk u x' n)(e:nl m<=10000000000000)(sb:nl n<=10000000000000):Fn0 prog 198 [x,x'] u fun v f=>Dk f v (m*n) :=
 Fn0.ofW (fun v w=>C8 w v (m*n)) (fun w hp=>Aib x x' m n w (h.toW hp) (d.toW hp) e sb) (fun _ _ _ h _ c _=>Dk.ofW h c)
def Adz {m n:Nat}(h:Dk u x m)(d:Dk u x' n)(e:nl m<=10000000000000)(sb:nl n<=10000000000000):Fn0 prog 202 [x,x'] u fun v _=>v=.int .i64 (sgn ((m:Int)-n)) :=
 Fn0.ofW (fun v _=>v=.int .i64 (sgn ((m:Int)-n))) (fun w hp=>(Hl x x' m n w (h.toW hp) (d.toW hp) e sb).mono fun _ _ h=>⟨_,h.ext.1,rfl,h.ext.2⟩) (fun _ _ _ h _ _ _=>h)
def Ql {m n:Nat}(h:Dk u x m)(j:Dk u x' n)(C:nl m<=5000000000000)(sb:nl n<=5000000000000)(t:0<n):Fn0 prog 218 [x,x'] u fun v g=>∃ a b,v=.tuple #[a,b]/\Dk g a (m/n)/\Dk g b (m%n) :=
 Fn0.ofW (fun v w=>∃ a b,v=.tuple #[a,b]/\C8 w a (m/n)/\C8 w b (m%n)) (fun w hp=>(Zo x x' m n w (h.toW hp) (j.toW hp) C sb t).mono fun _ _ ⟨a,b,e,d,f,A⟩=>⟨_,e,⟨a,b,rfl,d,f⟩,A⟩)
  (fun _ _ _ ⟨a,b,e,d,f⟩ _ c _=>⟨a,b,e,Dk.ofW d c,Dk.ofW f c⟩)
def Aap (h:Dk u x n)(d:nl n<=2):Fn0 prog 210 [x] u fun v _=>v=.int .u64 (n:Int) :=
 Fn0.ofW (fun v _=>v=.int .u64 (n:Int)) (fun w hp=>(Acw x n w (h.toW hp) d).mono fun _ _ ⟨e,k⟩=>⟨_,e,rfl,k▸Ext.refl _⟩) (fun _ _ _ h _ _ _=>h)
def Ahl.els {g:Nat}(h:Hc u g 0 1 (A8 l)):Ahl u (some ⟨g,0,none⟩) (A8 l):=fun j e=>by
 refine⟨g,0,rfl,?_⟩;have d:j<l.length:=by simpa[A8] using e
 have:=h j (.int .u64 (l[j]:Nat)) (by simp[A8,d]) 0 (.int .u64 (l[j]:Nat)) rfl;simpa[A8,d] using this
def Aw0 (D:Low l)(F:Ahl u a (A8 l))(E:val l=n)(g:l.length<=c)(A:l.length<=9223372036854775807):Fn0 prog 189 [.slice a l.length c] u fun v H=>Dk H v n :=
 Fn0.ofW (fun v w=>C8 w v n) (fun w hp=>by
  have t:Row w a (A8 l):=fun j C=>by obtain⟨b,off,d,f⟩:=F j C;exact⟨b,off,d,f.cell hp⟩
  exact (G5 a c l.length l w rfl A g t).mono fun e w' ⟨d,f⟩=>by subst f;exact⟨_,d,D3 D t E g,Ext.refl _⟩) (fun _ _ _ h _ c _=>Dk.ofW h c)
def Dk.len {k c n:Nat}(h:Dk u (.slice a k c) n):k=nl n:=by
 obtain⟨_,_,e,_⟩:=h;cases e;rfl
def Dk.opn (h:Dk u x n):∃ a c,x=.slice a (nl n) c:=by
 obtain⟨a,c,e,_⟩:=h;exact⟨a,c,e⟩
def Atp {m n:Nat}(h:Dk u x m)(V:Dk u x' n)(sa:nl m<=5000000000000)(sb:nl n<=5000000000000):Fn0 prog 190 [x,x'] u fun v O=>Dk O v (Nat.gcd m n):=by
 obtain⟨a,c,rfl⟩:=h.opn;obtain⟨b,d,rfl⟩:=V.opn;refine Fn0.o func190<|G.l (ι:=(Option Addr×Nat×Nat)×(Option Addr×Nat×Nat)) (fun i=>[(0,sV i.1.1 (nl i.1.2.1) i.1.2.2),(1,sV i.2.1 (nl i.2.2.1) i.2.2.2)]) (fun _=>[])
  (fun i O R=>R=PH.mt/\Dk O (.slice i.1.1 (nl i.1.2.1) i.1.2.2) i.1.2.1/\Dk O (.slice i.2.1 (nl i.2.2.1) i.2.2.2) i.2.2.1/\Nat.gcd i.1.2.1 i.2.2.1=Nat.gcd m n/\nl i.1.2.1<=5000000000000/\nl i.2.2.1<=5000000000000)
  (fun i=>i.2.2.1) ((a,m,c),(b,n,d)) ⟨rfl,h,V,rfl,sa,sb⟩ ?_
 rintro J ⟨⟨a1,t,c1⟩,U,f,d1⟩ Q u1 _ l1 ⟨rfl,I,j,K,T,A⟩;simp only at I j K T A Q;by_cases h2:2<nl f
 ·refine G.gT (nl f:Int) 2 ?_;have hp:0<f:=Df.1 (show 0<nl f by omega);refine G.c call218 (Ql I j T A hp) ?_;rintro _ u2 l2 ⟨q,r,rfl,H,N⟩;obtain⟨aq,cq,rfl⟩:=H.opn;obtain⟨Z,cr,rfl⟩:=N.opn;have C:=A29 t hp;exact G.b (Q ((U,f,d1),(Z,t%f,cr)) _ _ _ cV (l1.trans l2) ⟨rfl,j.mono l2,N,by rw[<-K];exact Wl t f,A,A04 (C4 (A8i C)) A⟩ C)
 refine G.gF (nl f:Int) 2 ?_;by_cases h0:nl f=0
 ·refine G.eT (nl f:Int) 0 ?_;have e0:f=0:=by
   rcases A2a f with e|e
   ·exact e
   have:=Df.2 e;unfold nl at h0;omega
  rw[<-K,e0,A8x];exact G.r _ ⟨rfl,I⟩
 have hp:0<f:=Df.1 (show 0<nl f by omega);refine G.eF (nl f:Int) 0 ?_;refine dite (2<nl t) (fun h3=>?y) (fun h3=>?n)
 case' y =>
  refine G.gT (nl t:Int) 2<|G.c call218 (Ql I j T A hp) ?_;rintro _ u2 l2 ⟨q,r,rfl,H,N⟩;have W:=j.mono l2;have L:Nat.gcd f (t%f)=Nat.gcd m n:=by rw[<-K];exact Wl t f
  have D:nl f<=2:=oV;have E:nl (t%f)<=2:=A04 (C4 (A8i (A29 t hp))) D
 case' n =>
  refine G.gF (nl t:Int) 2 ?_;have W:=I;have N:=j;have L:=K;have D:nl t<=2:=oV;have E:nl f<=2:=oV
 case y|n =>
  refine G.c call210 (Aap W D) ?_;rintro _ u3 l3 rfl;refine G.c call210 (Aap (N.mono l3) E) ?_;rintro _ u4 l4 rfl;refine G.l (ι:=Nat×Nat) (fun i=>[(9,.v (.int .u64 (i.1:Int))),(10,.v (.int .u64 (i.2:Int)))]) (fun _=>[])
   (fun i O R=>R=PH.mt/\Nat.gcd i.1 i.2=Nat.gcd m n/\i.1<1000000000000000000/\i.2<1000000000000000000) (fun i=>i.2) (_,_) ⟨rfl,L,Abf D,Abf E⟩ ?_
  rintro J ⟨p,q⟩ Q u5 _ l5 ⟨rfl,F,U,b2⟩;by_cases H:q=0
  ·refine G.cmpG .neq .u64 (q:Int) 0 false kV rfl (by simp[Db,H])<|G.remW p 1000000000 _ kV rfl oV oV<|G.quoW p 1000000000 _ kV rfl oV oV<|G.buildW (p:=fun _=>true) 219 1 8 (.int .u64 0) (A8 [p%1000000000,p/1000000000]) kV (by simp[Ze,A8,Value.cells]) rfl oV (by simp[A8]) (by simp[A8]) ?_;intro g u6 l6 e6;refine G.c call189 (Aw0 (l:=[p%1000000000,p/1000000000]) (n:=p) (Low.cons (A29 _ oV) (Low.cons oV Low.nil)) (Ahl.els e6) (by simp[val];omega) (c:=2) mV mV) ?_;intro v7 u7 l7 X;obtain⟨Y,c7,rfl⟩:=X.opn;rw[H,A8x]at F;exact G.r (.slice Y (nl p) c7) ⟨rfl,by rw[<-F];exact X⟩
  refine G.cmpG .neq .u64 (q:Int) 0 true kV rfl (by simp[Db,H])<|G.remW p q _ kV rfl oV oV ?_;have C:=A29 p (show 0<q by omega);exact G.b (Q (q,p%q) _ _ _ cV l5 ⟨rfl,by rw[<-F];exact Wl p q,b2,dV⟩ C)
def Ac9 {s:Value}(e:b=(neg&&decide (0<n)))(d:Dk u s n):Bi u (.agg #[.bool b,s]) (Cd neg n):=by
 obtain⟨a,c,rfl,f⟩:=id d;exact⟨a,_,c,by rw[Wd,e],by rw[K5];exact d⟩
def Jb (h:Dk u x n):Fn0 prog 188 [.bool neg,x] u fun v e=>Bi e v (Cd neg n):=by
 obtain⟨a,c,rfl⟩:=h.opn;have d:0<nl n↔0<n:=Df;refine Fn0.o func188 ?_;cases neg
 ·exact G.r (.agg #[.bool false,.slice a (nl n) c]) ⟨rfl,Ac9 rfl h⟩
 by_cases h0:0<nl n
 ·exact G.gT (nl n:Int) 0<|G.r (.agg #[.bool true,.slice a (nl n) c]) ⟨rfl,Ac9 (by simp[d.1 h0]) h⟩
 exact G.gF (nl n:Int) 0<|G.r (.agg #[.bool false,.slice a (nl n) c]) ⟨rfl,Ac9 (by simp[mt d.2 h0]) h⟩
def Bi.opn' (h:Bi u x z):∃ a c,x=.agg #[.bool (decide (z<0)),.slice a (nl z.natAbs) c]/\Dk u (.slice a (nl z.natAbs) c) z.natAbs:=by
 obtain⟨a,n,c,rfl,h⟩:=h;have:=h.len;subst this;exact⟨a,c,rfl,h⟩
def N1 (h:Bi u x z)(f:nl z.natAbs<=100000000000000):Fn0 prog 192 [x] u fun v _=>v=.int .i64 (sgn z):=by
 obtain⟨a,c,rfl,k⟩:=h.opn';have e:0<nl z.natAbs↔0<z.natAbs:=Df;refine Fn0.o func192 ?_;by_cases h0:z<0
 ·rw[decide_eq_true h0,Ep h0];exact G.r (.int .i64 (-1)) ⟨rfl,rfl⟩
 rw[decide_eq_false h0];by_cases d:0<nl z.natAbs
 ·refine G.gT (nl z.natAbs:Int) 0 ?_;rw[C5 oV];exact G.r (.int .i64 1) ⟨rfl,rfl⟩
 refine G.gF (nl z.natAbs:Int) 0 ?_;rw[show z=0 by omega,Ra];exact G.r (.int .i64 0) ⟨rfl,rfl⟩
def Aqp (z:Int):Cd (!decide (z<0)) z.natAbs = -z:=by unfold Cd;by_cases h:z<0<;>simp[h]<;>omega
def V7 (h:Bi u x z)(t:nl z.natAbs<=100000000000000):Fn0 prog 199 [x] u fun v e=>Bi e v (-z):=by
 obtain⟨a,c,rfl,k⟩:=h.opn';refine Fn0.o func199<|G.c call188 (Jb (neg:=!decide (z<0)) k) ?_;intro E D A d;rw[Aqp]at d;obtain⟨g,f,C,j,rfl⟩:=d.opn;exact G.r _ ⟨rfl,d⟩
def Ea (h:Bi u x y)(e:Bi u x' z)(I:nl y.natAbs<=5000000000000)(sz:nl z.natAbs<=5000000000000):Fn0 prog 158 [x,x'] u fun v j=>Bi j v (y*z):=by
 obtain⟨a,c,rfl,k⟩:=h.opn';obtain⟨t,D,rfl,f⟩:=e.opn';refine Fn0.o func158<|G.neB (decide (y<0)) (decide (z<0)) kV<|G.c call198 (Aun k f oV oV) ?_;intro L J F g;refine G.c call188 (Jb (neg:=!(decide (y<0)==decide (z<0))) g) ?_;intro N K l2 d;rw[Adx]at d;obtain⟨C,A,H,E,rfl⟩:=d.opn;exact G.r _ ⟨rfl,d⟩
def Ada (h:Bi u x y)(H:Bi u x' z)(Z:nl y.natAbs<=5000000000000)(sz:nl z.natAbs<=5000000000000):Fn0 prog 160 [x,x'] u fun v L=>Bi L v (y+z):=by
 obtain⟨a,c,rfl,k⟩:=h.opn';obtain⟨T,W,rfl,j⟩:=H.opn';refine Fn0.o func160<|G.eqB (decide (y<0)) (decide (z<0)) kV ?_;by_cases f:decide (y<0)=decide (z<0)
 ·rw[show (decide (y<0)==decide (z<0))=true by simp[f]];refine G.c call201 (Alb k j oV oV) ?_;intro Q N g I;refine G.c call188 (Jb (neg:=decide (y<0)) I) ?_;intro C A l2 d;rw[Afl f]at d;obtain⟨V,U,Y,X,rfl⟩:=d.opn;exact G.r _ ⟨rfl,d⟩
 rw[show (decide (y<0)==decide (z<0))=false by simpa using f];refine G.c call202 (Adz k j oV oV) ?_;rintro Q N g rfl;by_cases t:z.natAbs<=y.natAbs
 ·refine G.hT' (sgn ((y.natAbs:Int)-z.natAbs)) 0 (Aj0 t)<|G.c call203 (Adg (k.mono g) (j.mono g) oV t) ?_;intro C A l2 d;refine G.c call188 (Jb (neg:=decide (y<0)) d) ?_;intro R O J e;rw[Zx f t]at e;obtain⟨E,D,K,F,rfl⟩:=e.opn;exact G.r _ ⟨rfl,e⟩
 refine G.hF' (sgn ((y.natAbs:Int)-z.natAbs)) 0 (by rw[Ep oV];omega)<|G.c call203 (Adg (j.mono g) (k.mono g) oV oV) ?_;intro C A l2 d;refine G.c call188 (Jb (neg:=decide (z<0)) d) ?_;intro R O J e;rw[Aag f oV]at e;obtain⟨E,D,K,F,rfl⟩:=e.opn;exact G.r _ ⟨rfl,e⟩
def Ac7 (h:Bi u x y)(d:Bi u x' z)(j:nl y.natAbs<=5000000000000)(sz:nl z.natAbs<=5000000000000):Fn0 prog 191 [x,x'] u fun v t=>Bi t v (y-z):=by
 obtain⟨b,a,n,c,rfl⟩:=h.opn;obtain⟨b',A,H,E,rfl⟩:=d.opn;refine Fn0.o func191<|G.c call199 (V7 d oV) ?_;intro L J g f;refine G.c call160 (Ada (h.mono g) f j (by rw[A3l];exact sz)) ?_;intro N K l2 e;obtain⟨D,C,I,F,rfl⟩:=e.opn;exact G.r _ ⟨rfl,e⟩
def Kx (h:Bi u x y)(d:Bi u x' z)(e:nl y.natAbs<=5000000000000)(sz:nl z.natAbs<=5000000000000):Fn0 prog 138 [x,x'] u fun v _=>v=.int .i64 (sgn (y-z)):=by
 obtain⟨b,a,n,c,rfl⟩:=h.opn;obtain⟨b',g,A,j,rfl⟩:=d.opn;refine Fn0.o func138<|G.c call191 (Ac7 h d e sz) ?_;intro E C t f;have:=Sb (y:=y) (z:=-z) e (by rw[A3l];exact sz);refine G.c call192 (N1 f (by rw[Int.sub_eq_add_neg];omega)) ?_;rintro F D l2 rfl;exact G.r (.int .i64 (sgn (y-z))) ⟨rfl,rfl⟩
def Ac4 (h:Bi u x y)(e:Bi u x' z)(j:nl y.natAbs<=5000000000000)(sz:nl z.natAbs<=5000000000000):Fn0 prog 137 [x,x'] u fun v t=>Bi t v (Nat.gcd y.natAbs z.natAbs):=by
 obtain⟨a,c,rfl,k⟩:=h.opn';obtain⟨A,E,rfl,f⟩:=e.opn';refine Fn0.o func137<|G.c call190 (Atp k f j sz) ?_;intro L J H g;refine G.c call188 (Jb (neg:=false) g) ?_;intro N K l2 d;obtain⟨D,C,I,F,rfl⟩:=d.opn;exact G.r _ ⟨rfl,d⟩
def M1 (h:Bi u x y)(U:Bi u x' z)(sy:nl y.natAbs<=4000000000000)(sz:nl z.natAbs<=4000000000000)(H:z≠0):Fn0 prog 200 [x,x'] u fun v R=>∃ a b,v=.tuple #[a,b]/\Bi R a (y/z)/\Bi R b (y%z):=by
 obtain⟨a,c,rfl,k⟩:=h.opn';obtain⟨a',c',rfl,K⟩:=U.opn';have I:0<nl (y.natAbs%z.natAbs)↔0<y.natAbs%z.natAbs:=Df;have W:=A29 y.natAbs (show 0<z.natAbs by omega);refine Fn0.o func200<|G.c call218 (Ql k K oV oV oV) ?_;rintro _ u1 Y ⟨q,r,rfl,J,F⟩;obtain⟨ar,cr,rfl⟩:=F.opn;refine dite (y<0) (fun f=>?A) (fun f=>?D)
 case' A =>
  rw[decide_eq_true f];refine dite (0<y.natAbs%z.natAbs) (fun h0=>?B) (fun h0=>?C)
 case' B =>
  refine G.gT' (nl (y.natAbs%z.natAbs):Int) 0 (by have:=I.2 h0;omega)<|G.buildW (p:=fun _=>true) 219 1 8 (.int .u64 0) (A8 [1]) kV (by simp[Ze,A8,Value.cells]) rfl oV (by simp[A8]) (by simp[A8]) ?_;intro g u2 l2 T;have X:Dk u2 (.slice (some ⟨g,0,none⟩) 1 1) 1:=by
   have:=Ez (d:=1) oV oV;exact⟨_,1,by rw[this];rfl,by rw[this];simp,by rw[this];exact Ahl.els T⟩
  refine G.c call201 (Alb (J.mono l2) X (by have:=C4 (A3u y.natAbs z.natAbs);omega) (by have:=Tm;omega)) ?_;intro v3 u3 Q t;refine G.c call203 (Adg ((K.mono Y).mono (l2.trans Q)) (F.mono (l2.trans Q)) oV oV) ?_;intro v4 u4 Z L;obtain⟨e,j⟩:=Adq f H h0;rw[decide_eq_true f]at e;have t:=t.mono Z
 case' C =>
  refine G.gF' (nl (y.natAbs%z.natAbs):Int) 0 (by have:=mt I.1 h0;omega) ?_;obtain⟨e,j⟩:=Zm f H oV;rw[decide_eq_true f]at e
 case' D =>
  obtain⟨e,j⟩:=Zp f H;rw[decide_eq_false f]at e⊢
 case' C|D =>
  have t:=J;have L:=F
 case' B|C=>generalize V:true=E at e⊢
 case' D=>generalize V:false=E at e⊢
 case B|C|D =>
  refine G.neB E (decide (z<0)) kV<|G.c call188 (Jb (neg:=!(E==decide (z<0))) t) ?_;intro v5 u5 l5 N;obtain⟨b5,a5,n5,c5,rfl⟩:=N.opn;refine G.c call188 (Jb (neg:=false) (L.mono l5)) ?_;intro v6 u6 l6 O;obtain⟨b6,a6,n6,c6,rfl⟩:=O.opn;exact G.r (.tuple #[_,_]) ⟨rfl,_,_,rfl,e▸N.mono l6,j▸O⟩
def Kf (t:-9223372036854775808<=z)(C:z<=9223372036854775807):Fn0 prog 139 [.int .i64 z] u fun v F=>Bi F v z:=by
 refine Fn0.o func139<|G.convI .i64 .u64 .i64 z _ kV rfl ?_;have e:=Uc z;refine dite (z<0) (fun d=>?A) (fun d=>?B)
 case' A =>
  rw[decide_eq_true d]at e;generalize f:true=E at e;refine G.lT' z 0 d<|G.negW _ _ kV (Ag6 d t)<|G.lT' z 0 d ?_
 case' B =>
  rw[decide_eq_false d]at e;generalize f:false=E at e;rw[Ahs oV C];refine G.lF' z 0 d<|G.lF' z 0 d ?_
 case A|B =>
  refine G.remW z.natAbs 1000000000 _ kV rfl oV oV<|G.quoW z.natAbs 1000000000 _ kV rfl oV oV<|G.remW (z.natAbs/1000000000) 1000000000 _ kV rfl oV oV<|G.quoW z.natAbs 1000000000 _ kV rfl oV oV<|G.quoW (z.natAbs/1000000000) 1000000000 _ kV rfl oV oV<|G.buildW (p:=fun _=>true) 219 1 8 (.int .u64 0) (A8 [z.natAbs%1000000000,z.natAbs/1000000000%1000000000,z.natAbs/1000000000/1000000000]) kV (by simp[Ze,A8,Value.cells]) rfl oV (by simp[A8]) (by simp[A8]) ?_;intro g Q K j;refine G.c call189 (Aw0 (l:=[_,_,_]) (n:=z.natAbs) (Low.cons (A29 _ oV) (Low.cons (A29 _ oV) (Low.cons oV Low.nil))) (Ahl.els j) (by simp[val];omega) (c:=3) mV mV) ?_;intro U R L D;refine G.c call188 (Jb (neg:=E) (by cases f;exact D)) ?_;intro V T N h;obtain⟨I,H,O,J,rfl⟩:=h.opn;exact G.r _ ⟨rfl,e▸h⟩
def Aao (h:Bg u x q)(d:nl q.num.natAbs<=100000000000000):Fn0 prog 161 [x] u fun v _=>v=.int .i64 (sgn q.num):=by
 obtain⟨b,a,n,c,b',e,j,f,rfl⟩:=h.opn;refine Fn0.o func161<|G.c call192 (N1 h.num d) ?_;rintro A t g rfl;exact G.r (.int .i64 (sgn q.num)) ⟨rfl,rfl⟩
def Jr (h:Bg u x q)(C:nl q.den<=4000000000000):Fn0 prog 157 [x] u fun v _=>v=.bool (decide (q.den=1)):=by
 obtain⟨b,a,n,c,b',t,D,A,rfl⟩:=h.opn;refine Fn0.o func157<|G.c call139 (Kf (z:=1) oV oV) ?_;intro H E j g;refine G.c call138 (Kx (h.den.mono j) g (by rw[A1s];omega) (by have:=Tm;show nl 1<=_;omega)) ?_;rintro I F l2 rfl;have f:=U0 (d:=q.den);by_cases e:q.den=1
 ·exact G.eT' (sgn ((q.den:Int)-1)) 0 (by simpa[e] using f)<|G.r (.bool true) ⟨rfl,by rw[decide_eq_true e]⟩
 exact G.eF' (sgn ((q.den:Int)-1)) 0 (by simpa[e] using f)<|G.r (.bool false) ⟨rfl,by rw[decide_eq_false e]⟩
def Bg.mk4 {d:Nat}{b b':Bool}{a f:Option Addr}{n j c g:Nat}(h:Bi u (.agg #[.bool b,.slice a n c]) y)(v:Bi u (.agg #[.bool b',.slice f j g]) (d:Int))(e:q.num=y)(t:q.den=d) :
 Bg u (.agg #[.bool b,.slice a n c,.bool b',.slice f j g]) q:=by
 obtain⟨_,_,_,A,C⟩:=h;obtain⟨_,_,_,D,E⟩:=v;obtain⟨rfl,rfl,rfl,rfl⟩:=A;obtain⟨rfl,rfl,rfl,rfl⟩:=D;exact⟨_,_,_,_,_,_,by rw[e,decide_eq_false (show ¬ ((d:Int)<0) by omega)],by rw[e];exact C,by rw[t];exact E⟩
theorem Bi.cast (h:Bi u x z)(d:0<z):Bi u x ((z.natAbs:Nat):Int):=by grind
def Q2 (h:Bi u x z):Fn0 prog 155 [x] u fun v f=>Bg f v (z:Rat):=by
 obtain⟨b,a,n,c,rfl⟩:=h.opn;refine Fn0.o func155<|G.c call139 (Kf (z:=1) oV oV) ?_;intro D C e d;obtain⟨j,g,A,t,rfl⟩:=d.opn;exact G.r (.agg #[_,_,_,_]) ⟨rfl,Bg.mk4 (h.mono e) d mV mV⟩
def Wa (h:-9223372036854775808<=z)(j:z<=9223372036854775807):Fn0 prog 96 [.int .i64 z] u fun v C=>Bg C v (z:Rat):=by
 refine Fn0.o func96<|G.c call139 (Kf h j) ?_;intro L J H t;refine G.c call155 (Q2 t) ?_;intro N K l2 d;obtain⟨E,D,I,F,f,e,A,g,rfl⟩:=d.opn;exact G.r _ ⟨rfl,d⟩
theorem Q6 (h:Bi u x y)(E:Bi u x' z)(sy:nl y.natAbs<=4000000000000)(sz:nl z.natAbs<=4000000000000)(hz:z≠0):Fn0 prog 159 [x,x'] u fun v u'=>Bg u' v (Rat.divInt y z):=by
 obtain⟨b,a,n,c,rfl⟩:=h.opn;obtain⟨b',a',n',c',rfl⟩:=E.opn;refine Fn0.o func159<|G.c call192 (N1 E oV) ?_;rintro v1 u1 H rfl;refine dite (z<0) (fun h0=>?A) (fun h0=>?B)
 case' A =>
  refine G.lT' (sgn z) 0 (by rw[Ep h0];omega)<|G.c call199 (V7 (h.mono H) oV) ?_;intro v2 u2 l2 f;obtain⟨b2,a2,n2,c2,rfl⟩:=f.opn;refine G.c call199 (V7 (E.mono (H.trans l2)) oV) ?_;intro v3 u3 Z j;obtain⟨b3,a3,n3,c3,rfl⟩:=j.opn;have f:=f.mono Z;have e:=Oz y z;have J:nl (-y).natAbs<=4000000000000:=by grind
  have D:nl (-z).natAbs<=4000000000000:=by grind
  have hp:0 < -z:=oV;generalize -y=y2 at f e J;generalize -z=z2 at j e D hp
 case' B =>
  refine G.lF' (sgn z) 0 (by rw[C5 oV];omega) ?_;have f:=h.mono H;have j:=E.mono H;have e:Rat.divInt y z=Rat.divInt y z:=rfl;have J:=sy;have D:=sz;have hp:0<z:=oV;generalize y=y2 at f e J;generalize z=z2 at j e D hp
 case A|B =>
  have V:0<Nat.gcd y2.natAbs z2.natAbs:=A7j _ oV;have K:Nat.gcd y2.natAbs z2.natAbs<=z2.natAbs:=Bbd _ oV;have C:nl (Nat.gcd y2.natAbs z2.natAbs)<=4000000000000:=A04 (C4 K) D;refine G.c call137 (Ac4 f j oV oV) ?_;intro v4 u4 l4 F;obtain⟨b4,a4,n4,c4,rfl⟩:=F.opn;refine G.c call139 (Kf (z:=1) oV oV) ?_;intro v5 u5 I W;refine G.c call138 (Kx (F.mono I) W (by rw[A1s];omega) (by have:=Tm;show nl 1<=_;omega)) ?_;rintro v6 u6 O rfl;have Q:=U0 (d:=Nat.gcd y2.natAbs z2.natAbs);have g:=(l4.trans I).trans O;by_cases L:Nat.gcd y2.natAbs z2.natAbs=1
  ·refine G.nF' (sgn ((Nat.gcd y2.natAbs z2.natAbs:Int)-1)) 0 (by simpa[L] using Q) ?_;have t:=Wj hp L;exact G.r (.agg #[_,_,_,_]) ⟨rfl,Bg.mk4 (f.mono g) ((j.mono g).cast hp) (by rw[<-e];exact t.1) (by rw[<-e];exact t.2)⟩
  refine G.nT' (sgn ((Nat.gcd y2.natAbs z2.natAbs:Int)-1)) 0 (by simpa[L] using Q) ?_;have t:=W5 hp (y:=y2) rfl;refine G.c call200 (M1 (f.mono g) (F.mono (I.trans O)) J (by rw[A1s];exact C) oV) ?_;rintro _ u7 T ⟨q,r,rfl,R,X⟩;obtain⟨b7,a7,n7,c7,rfl⟩:=R.opn;refine G.c call200 (M1 (j.mono (g.trans T)) (F.mono ((I.trans O).trans T)) D (by rw[A1s];exact C) oV) ?_;rintro _ u8 l8 ⟨q8,r8,rfl,N,Y⟩;obtain⟨b8,a8,n8,c8,rfl⟩:=N.opn;have U:(((z2.natAbs/Nat.gcd y2.natAbs z2.natAbs:Nat)):Int)=z2/(Nat.gcd y2.natAbs z2.natAbs:Nat):=by grind
  rw[<-U]at N;exact G.r (.agg #[_,_,_,_]) ⟨rfl,Bg.mk4 (R.mono l8) N (by rw[<-e];exact t.1) (by rw[<-e];exact t.2)⟩
end
end
section
variable {q r:Rat}
section
variable {u:PH} {x x':Value}
def Ga (h:Bg u x q)(j:Bg u x' r)(V:Sz q 1000000000000)(W:Sz r 1000000000000):Fn0 prog 99 [x,x'] u fun v u'=>Bg u' v (q*r):=by
 obtain⟨s1,s2⟩:=V;obtain⟨s3,s4⟩:=W;obtain⟨b,a,n,c,b',a',n',c',rfl⟩:=h.opn;obtain⟨d,e,k,f,d',e',k',f',rfl⟩:=j.opn;refine Fn0.o func99<|G.c call157 (Jr h oV) ?_;rintro v1 u1 t rfl;refine dite (q.den=1) (fun A=>?y) (fun A=>?n1)
 case' y =>
  rw[decide_eq_true A];refine G.c call157 (Jr (j.mono t) oV) ?_;rintro v2 u2 l2 rfl;refine dite (r.den=1) (fun C=>?yy) (fun C=>?n2)
 case yy =>
  rw[decide_eq_true C];refine G.c call158 (Ea (h.num.mono (t.trans l2)) (j.num.mono (t.trans l2)) oV oV) ?_;intro v3 u3 E m;obtain⟨L,H,X,Q,rfl⟩:=m.opn;refine G.c call155 (Q2 m) ?_;intro v4 u4 F g;rw[Amr A C]at g;obtain⟨N,I,Y,R,O,J,Z,T,rfl⟩:=g.opn;exact G.r _ ⟨rfl,g⟩
 case' n1 =>
  rw[decide_eq_false A];have l2:=t
 case' n2 =>
  rw[decide_eq_false C];have l2:=t.trans l2
 case n1|n2 =>
  refine G.c call158 (Ea (h.num.mono l2) (j.num.mono l2) oV oV) ?_;intro v3 u3 E m;obtain⟨L,H,X,Q,rfl⟩:=m.opn;refine G.c call158 (Ea (h.den.mono (l2.trans E)) (j.den.mono (l2.trans E)) (by rw[A1s];omega) (by rw[A1s];omega)) ?_;intro v4 u4 F g;obtain⟨N,I,Y,R,rfl⟩:=g.opn;refine G.c call159 (Q6 (m.mono F) g (by have:=Bx s1 s3;omega) (by have:=Bx (y:=(q.den:Int)) (z:=(r.den:Int)) (k:=1000000000000) (by rw[A1s];omega) (by rw[A1s];omega);omega) (Yl q r)) ?_;intro v5 u5 l5 D;rw[Ac8]at D;obtain⟨b5,a5,n5,c5,P,K,a0,U,rfl⟩:=D.opn;exact G.r _ ⟨rfl,D⟩
def Lq (h:Bg u x q)(g:Bg u x' r)(Z:Sz q 1000000000000)(h2:Sz r 1000000000000):Fn0 prog 100 [x,x'] u fun v u'=>Bg u' v (q+r):=by
 obtain⟨s1,s2⟩:=Z;obtain⟨s3,s4⟩:=h2;obtain⟨b,a,n,c,b',a',n',c',rfl⟩:=h.opn;obtain⟨d,e,k,f,d',e',k',f',rfl⟩:=g.opn;have J:nl ((q.den:Int)).natAbs<=1000000000000:=by rw[A1s];exact s2
 have K:nl ((r.den:Int)).natAbs<=1000000000000:=by rw[A1s];exact s4
 have m1:=Bx s1 K;have m2:=Bx s3 J;have m3:=Bx J K;have m4:=Sb m1 m2;refine Fn0.o func100<|G.c call157 (Jr h oV) ?_;rintro v1 u1 t rfl;refine dite (q.den=1) (fun A=>?y) (fun A=>?n1)
 case' y =>
  rw[decide_eq_true A];refine G.c call157 (Jr (g.mono t) oV) ?_;rintro v2 u2 l2 rfl;refine dite (r.den=1) (fun C=>?yy) (fun C=>?n2)
 case yy =>
  rw[decide_eq_true C];refine G.c call160 (Ada (h.num.mono (t.trans l2)) (g.num.mono (t.trans l2)) oV oV) ?_;intro v3 u3 D m;obtain⟨Q,L,n3,V,rfl⟩:=m.opn;refine G.c call155 (Q2 m) ?_;intro v4 u4 F j;rw[Ams A C]at j;obtain⟨R,N,n4,W,T,O,a0,X,rfl⟩:=j.opn;exact G.r _ ⟨rfl,j⟩
 case' n1 =>
  rw[decide_eq_false A];have l2:=t
 case' n2 =>
  rw[decide_eq_false C];have l2:=t.trans l2
 case n1|n2 =>
  refine G.c call158 (Ea (h.num.mono l2) (g.den.mono l2) oV oV) ?_;intro v3 u3 D m;obtain⟨Q,L,n3,V,rfl⟩:=m.opn;refine G.c call158 (Ea (g.num.mono (l2.trans D)) (h.den.mono (l2.trans D)) oV oV) ?_;intro v4 u4 F j;obtain⟨R,N,n4,W,rfl⟩:=j.opn;refine G.c call160 (Ada (m.mono F) j oV oV) ?_;intro v5 u5 l5 H;obtain⟨b5,a5,n5,c5,rfl⟩:=H.opn;have z:=((l2.trans D).trans F).trans l5;refine G.c call158 (Ea (h.den.mono z) (g.den.mono z) oV oV) ?_;intro v6 u6 l6 I;obtain⟨b6,a6,n6,c6,rfl⟩:=I.opn;refine G.c call159 (Q6 (H.mono l6) I oV oV (Yl q r)) ?_;intro v7 u7 l7 E;rw[Rq]at E;obtain⟨b7,a7,n7,c7,U,P,a1,Y,rfl⟩:=E.opn;exact G.r _ ⟨rfl,E⟩
end
end
def Ar4 {u:PH}{b:Bool}{a:Option Addr}{n c:Nat}{l:List Nat}(h:Cy u (.slice a n c) l)(C:l.length<=1000000000000000000) :
 Fn0 prog 179 [.agg #[.bool b,.slice a n c]] u fun v _=>v=.agg #[.bool (b&&decide (0<Bz l l.length)),.slice a (Bz l l.length) c]:=by
 obtain⟨rfl,z⟩:=h.len;refine Fn0.o func179<|G.l (ι:=Nat) (fun _=>[(1,.p 0 0),(2,.p 1 0)]) (fun k=>[(0,⟨88,[bV b,sV a k c]⟩),(1,⟨88,[bV false,sV none 0 0]⟩)])
  (fun k _ m=>k<=l.length/\Bz l l.length=Bz l k/\m=PH.mt) id l.length ⟨A08 _,rfl,rfl⟩ ?_
 rintro J k g E D d ⟨A,f,rfl⟩;rw[f];rcases k with _|k
 ·exact G.gF (0:Nat) 0<|G.eT' (0:Nat) 0 rfl<|G.r (.agg #[.bool false,.slice a 0 c]) ⟨rfl,by simp[Bz]⟩
 refine G.gT (k+1:Nat) 0<|G.s (k+1:Nat) 1 k ?_;obtain⟨e,off,rfl,t⟩:=(h.mono d).at (j:=k) oV;refine G.a e off (k+1) c k 1 oV<|G.lU none e (off+k*1) (.int .i64 (l.getD k 0:Nat)) t ?_;by_cases h0:l.getD k 0=0
 ·exact G.eT (l.getD k 0:Nat) 0<|G.s (k+1:Nat) 1 k<|G.sliceTo 1 (some ⟨e,off,none⟩) (k+1) c k kV oV<|G.b (g k _ _ _ cV d ⟨oV,by rw[f];simp only[Bz,if_pos h0],rfl⟩ mV)
 exact G.eF (l.getD k 0:Nat) 0<|G.eF (k+1:Nat) 0<|G.r (.agg #[.bool b,.slice (some ⟨e,off,none⟩) (k+1) c]) ⟨rfl,by simp only[Bz,if_neg h0];simp⟩
section
variable {k:Nat}{u:PH}{va vb:Value}
def Di (l:List Nat)(n:Nat):Ai l++[.int .i64 n]=Ai (l++[n]):=by simp[Ai]
def Lx {m n:Nat}(N:Cy u va (Aa m))(O:Cy u vb (Aa n))(V:nl m<=1000000000000000000)(sb:nl n<=1000000000000000000) :
 Fn0 prog 175 [va,vb] u fun v _=>v=.int .i64 (sgn ((m:Int)-n)):=by
 obtain⟨a,E,rfl,R⟩:=N.opn;obtain⟨b,F,rfl,T⟩:=O.opn;have W:(Aa m).length<=1000000000000000000:=V;refine Fn0.o func175 ?_;by_cases D:(Aa m).length=(Aa n).length
 ·refine G.nF ((Aa m).length:Int) ((Aa n).length:Int)<|G.sub ((Aa m).length:Int) 1 (((Aa m).length:Int)-1) kV rfl oV oV<|G.l (ι:=Int) (fun z=>[(0,sV a (Aa m).length E),(1,sV b (Aa n).length F),(5,iV z)]) (fun _=>[])
   (fun z _ P=>-1<=z/\z<(Aa m).length/\(Aa m).drop (z+1).toNat=(Aa n).drop (z+1).toNat/\P=PH.mt) (fun z=>(z+1).toNat) (((Aa m).length:Int)-1)
   ⟨oV,oV,by rw[A2b oV,A2b oV],rfl⟩ ?_
  rintro J z Q Z P e ⟨X,Y,d,rfl⟩;by_cases U:0<=z
  ·obtain⟨k,rfl⟩:=A6d U;have t:k<(Aa m).length:=oV;rw[show ((k:Int)+1).toNat=k+1 by omega]at d;obtain⟨g,A,rfl,H⟩:=(N.mono e).at (j:=k) t;obtain⟨h,C,rfl,I⟩:=(O.mono e).at (j:=k) oV;refine G.hT k 0<|G.a g A (Aa m).length E k 1 t<|G.lU none g (A+k*1) (.int .i64 ((Aa m).getD k 0:Nat)) H<|G.a h C (Aa n).length F k 1 oV<|G.lU none h (C+k*1) (.int .i64 ((Aa n).getD k 0:Nat)) I ?_;rcases A5u ((Aa m).getD k 0) ((Aa n).getD k 0) with f|K|L
   ·refine G.lT ((Aa m).getD k 0:Nat) ((Aa n).getD k 0:Nat) ?_;have:=G9 D t (Ao _) d f;rw[Am,Am]at this;exact G.r (.int .i64 (-1)) ⟨rfl,by rw[Ep oV]⟩
   ·refine G.lF ((Aa m).getD k 0:Nat) ((Aa n).getD k 0:Nat)<|G.a g A (Aa m).length E k 1 t<|G.lU none g (A+k*1) (.int .i64 ((Aa m).getD k 0:Nat)) H<|G.a h C (Aa n).length F k 1 oV<|G.lU none h (C+k*1) (.int .i64 ((Aa n).getD k 0:Nat)) I<|G.gF ((Aa m).getD k 0:Nat) ((Aa n).getD k 0:Nat)<|G.sub (k:Int) 1 ((k:Int)-1) kV rfl oV oV<|G.b (Q ((k:Int)-1) _ _ _ cV e ⟨oV,oV,?_,rfl⟩ mV);rw[show ((k:Int)-1+1).toNat=k by omega,Cs (Aa m) k t,Cs (Aa n) k oV,d,K]
   refine G.lF ((Aa m).getD k 0:Nat) ((Aa n).getD k 0:Nat)<|G.a g A (Aa m).length E k 1 t<|G.lU none g (A+k*1) (.int .i64 ((Aa m).getD k 0:Nat)) H<|G.a h C (Aa n).length F k 1 oV<|G.lU none h (C+k*1) (.int .i64 ((Aa n).getD k 0:Nat)) I<|G.gT ((Aa m).getD k 0:Nat) ((Aa n).getD k 0:Nat) ?_;have:=G9 D.symm oV (Ao _) d.symm L;rw[Am,Am]at this;exact G.r (.int .i64 1) ⟨rfl,by rw[C5 oV]⟩
  obtain rfl:z = -1:=oV;refine G.hF (-1) 0 ?_;have:m=n:=by
   have d:(Aa m).drop 0=(Aa n).drop 0:=d;rw[A5a,A5a]at d;rw[<-Am m,<-Am n,d]
  exact G.r (.int .i64 0) ⟨rfl,by rw[this,Int.sub_self];rfl⟩
 refine G.nT ((Aa m).length:Int) ((Aa n).length:Int) ?_;by_cases f:(Aa m).length<(Aa n).length
 ·refine G.lT ((Aa m).length:Int) ((Aa n).length:Int) ?_;have:=Ku (m:=m) (n:=n) f;exact G.r (.int .i64 (-1)) ⟨rfl,by rw[Ep oV]⟩
 refine G.lF ((Aa m).length:Int) ((Aa n).length:Int) ?_;have:=Ku (m:=n) (n:=m) (show nl n<nl m by unfold nl;omega);exact G.r (.int .i64 1) ⟨rfl,by rw[C5 oV]⟩
theorem Fs {l:List Nat}(h:¬ k<l.length):l.getD k 0=0:=by grind
def L8.over {a b ys:List Nat}{k c:Nat}(h:L8 a b k ys c)(g:Low a)(j:Low b)(e:¬ k<a.length)(f:¬ k<b.length)(d:c=0):val ys=val a+val b:=by
 have:=h.sum;rw[A1j oV,A1j oV,d]at this;simpa using this
def Aso {la d:List Nat}(W:Cy u va la)(Q:Cy u vb d)(n:Low la)(t:Low d)(sa:la.length<=1000000000000)(sb:d.length<=1000000000000) :
 Fn0 prog 211 [va,vb] u fun v Z=>∃ l,Cy Z v l/\Low l/\val l=val la+val d/\l.length<=max la.length d.length+1:=by
 obtain⟨a,V,rfl,a3⟩:=W.opn;obtain⟨b,N,rfl,a4⟩:=Q.opn;refine Fn0.o func211<|G.l (ι:=Nat×List Nat×Nat×Value) (fun i=>[(0,sV a la.length V),(1,sV b d.length N),(5,.v i.2.2.2),(6,iV i.2.2.1),(7,iV i.1)]) (fun _=>[])
  (fun i _ X=>(i.1<=max la.length d.length+1/\(max la.length d.length+1<=i.1->i.2.2.1=0))/\Af PH.mt X i.2.2.2 3 1 (Ai i.2.1)/\L8 la d i.1 i.2.1 i.2.2.1) (fun i=>max la.length d.length+2-i.1) (0,[],0,.slice none 0 0)
  ⟨⟨mV,fun _=>rfl⟩,Af.nil _ _ _,L8.start _ _⟩ ?_
 rintro J ⟨k,ys,c,A⟩ I Z X m ⟨hk,C,e⟩;simp only at hk C e I;have a2:=e.carry;have P:=n.getD k;have a0:=t.getD k;obtain⟨ao,co,rfl⟩:=C.shape;obtain⟨A,R⟩:∃ A,A=Value.slice ao (Ai ys).length co:=⟨_,rfl⟩;rw[<-R]at C⊢;have fin:max la.length d.length+1<=1000000000001:=oV;by_cases z:k<la.length
 ·refine G.lT k la.length<|G.lT k la.length ?_;have a5:la.getD k 0<1000000000:=P;obtain⟨U,Y,rfl,ea⟩:=(W.mono m).at (j:=k) z;refine G.a U Y la.length V k 1 z<|G.lU none U (Y+k*1) (.int .i64 (la.getD k 0:Nat)) ea<|G.p c (la.getD k 0:Nat) (c+la.getD k 0:Nat) ?_;by_cases h:k<d.length
  ·refine G.lT k d.length ?_;obtain⟨H,K,rfl,O⟩:=(Q.mono m).at (j:=k) h;refine G.a H K d.length N k 1 h<|G.lU none H (K+k*1) (.int .i64 (d.getD k 0:Nat)) O<|G.p (c+la.getD k 0:Nat) (d.getD k 0:Nat) (c+la.getD k 0+d.getD k 0:Nat)<|G.rem ((c+la.getD k 0+d.getD k 0:Nat):Int) 1000000000 (((c+la.getD k 0+d.getD k 0)%1000000000:Nat):Int) kV oV oV oV oV<|G.B 3 1 8 (.int .i64 0) [.int .i64 (((c+la.getD k 0+d.getD k 0)%1000000000:Nat):Int)] (Av [(c+la.getD k 0+d.getD k 0)%1000000000]) ?_;intro g L D E;refine G.append 3 1 8 (.int .i64 0) PH.mt (Ai ys) [.int .i64 (((c+la.getD k 0+d.getD k 0)%1000000000:Nat):Int)] A g 0 1 1 kV rfl rfl oV C E (Av [(c+la.getD k 0+d.getD k 0)%1000000000]) rfl oV (by rw[Ak,e.len];omega) (by rw[Ak,e.len];omega) ?_;intro F T f;rw[Di]at f;refine G.quo ((c+la.getD k 0+d.getD k 0:Nat):Int) 1000000000 (((c+la.getD k 0+d.getD k 0)/1000000000:Nat):Int) kV oV oV oV oV<|G.i k<|G.b (I (k+1,ys++[(c+la.getD k 0+d.getD k 0)%1000000000],(c+la.getD k 0+d.getD k 0)/1000000000,F) _ _ _ cV (m.trans D) ⟨⟨oV,dV⟩,f,?_⟩ (by show max la.length d.length+2-(k+1)<max la.length d.length+2-k;omega));have:=e.step n t (x:=la.getD k 0) (y:=d.getD k 0) rfl rfl;rw[show la.getD k 0+d.getD k 0+c=c+la.getD k 0+d.getD k 0 by omega]at this;exact this
  have hz:=Fs h;refine G.lF k d.length<|G.rem ((c+la.getD k 0:Nat):Int) 1000000000 (((c+la.getD k 0)%1000000000:Nat):Int) kV oV oV oV oV<|G.B 3 1 8 (.int .i64 0) [.int .i64 (((c+la.getD k 0)%1000000000:Nat):Int)] (Av [(c+la.getD k 0)%1000000000]) ?_;intro g L D E;refine G.append 3 1 8 (.int .i64 0) PH.mt (Ai ys) [.int .i64 (((c+la.getD k 0)%1000000000:Nat):Int)] A g 0 1 1 kV rfl rfl oV C E (Av [(c+la.getD k 0)%1000000000]) rfl oV (by rw[Ak,e.len];omega) (by rw[Ak,e.len];omega) ?_;intro F T f;rw[Di]at f;refine G.quo ((c+la.getD k 0:Nat):Int) 1000000000 (((c+la.getD k 0)/1000000000:Nat):Int) kV oV oV oV oV<|G.i k<|G.b (I (k+1,ys++[(c+la.getD k 0)%1000000000],(c+la.getD k 0)/1000000000,F) _ _ _ cV (m.trans D) ⟨⟨oV,dV⟩,f,?_⟩ (by show max la.length d.length+2-(k+1)<max la.length d.length+2-k;omega));have:=e.step n t (x:=la.getD k 0) (y:=d.getD k 0) rfl rfl;rw[show la.getD k 0+d.getD k 0+c=c+la.getD k 0 by omega]at this;exact this
 have a6:=Fs z;by_cases h:k<d.length
 ·refine G.lF k la.length<|G.lT k d.length<|G.lF k la.length<|G.lT k d.length ?_;obtain⟨H,K,rfl,O⟩:=(Q.mono m).at (j:=k) h;refine G.a H K d.length N k 1 h<|G.lU none H (K+k*1) (.int .i64 (d.getD k 0:Nat)) O<|G.p (c:Nat) (d.getD k 0:Nat) (c+d.getD k 0:Nat)<|G.rem ((c+d.getD k 0:Nat):Int) 1000000000 (((c+d.getD k 0)%1000000000:Nat):Int) kV oV oV oV oV<|G.B 3 1 8 (.int .i64 0) [.int .i64 (((c+d.getD k 0)%1000000000:Nat):Int)] (Av [(c+d.getD k 0)%1000000000]) ?_;intro g L D E;refine G.append 3 1 8 (.int .i64 0) PH.mt (Ai ys) [.int .i64 (((c+d.getD k 0)%1000000000:Nat):Int)] A g 0 1 1 kV rfl rfl oV C E (Av [(c+d.getD k 0)%1000000000]) rfl oV (by rw[Ak,e.len];omega) (by rw[Ak,e.len];omega) ?_;intro F T f;rw[Di]at f;refine G.quo ((c+d.getD k 0:Nat):Int) 1000000000 (((c+d.getD k 0)/1000000000:Nat):Int) kV oV oV oV oV<|G.i k<|G.b (I (k+1,ys++[(c+d.getD k 0)%1000000000],(c+d.getD k 0)/1000000000,F) _ _ _ cV (m.trans D) ⟨⟨oV,dV⟩,f,?_⟩ (by show max la.length d.length+2-(k+1)<max la.length d.length+2-k;omega));have:=e.step n t (x:=la.getD k 0) (y:=d.getD k 0) rfl rfl;rw[show la.getD k 0+d.getD k 0+c=c+d.getD k 0 by omega]at this;exact this
 have a7:=Fs h;by_cases a1:0<c
 ·refine G.lF k la.length<|G.lF k d.length<|G.gT c 0<|G.lF k la.length<|G.lF k d.length<|G.rem ((c:Nat):Int) 1000000000 (((c)%1000000000:Nat):Int) kV oV oV oV oV<|G.B 3 1 8 (.int .i64 0) [.int .i64 (((c)%1000000000:Nat):Int)] (Av [(c)%1000000000]) ?_;intro g L D E;refine G.append 3 1 8 (.int .i64 0) PH.mt (Ai ys) [.int .i64 (((c)%1000000000:Nat):Int)] A g 0 1 1 kV rfl rfl oV C E (Av [(c)%1000000000]) rfl oV (by rw[Ak,e.len];omega) (by rw[Ak,e.len];omega) ?_;intro F T f;rw[Di]at f;refine G.quo ((c:Nat):Int) 1000000000 (((c)/1000000000:Nat):Int) kV oV oV oV oV<|G.i k<|G.b (I (k+1,ys++[(c)%1000000000],(c)/1000000000,F) _ _ _ cV (m.trans D) ⟨⟨oV,dV⟩,f,?_⟩ (by show max la.length d.length+2-(k+1)<max la.length d.length+2-k;omega));have:=e.step n t (x:=la.getD k 0) (y:=d.getD k 0) rfl rfl;rw[show la.getD k 0+d.getD k 0+c=c by omega]at this;exact this
 refine G.lF k la.length<|G.lF k d.length<|G.gF c 0<|G.give PH.mt (Ai ys) A kV C (fun _=>.inl rfl) ?_;intro L D hL;refine G.r A ⟨rfl,ys,hL,e.low,e.over n t z h oV,?_⟩;rw[e.len];omega
end
section
variable {la ys:List Nat}
def Ij (l:List Nat):List Int:=l.map fun (n:Nat)=>(n:Int)
def Zl (la ys:List Nat)(c:Nat):List Int:=Ij ys++(match la.drop ys.length with|[]=>[]|x::r=>((x:Int)-c)::Ij r)
def Aqt (la:List Nat):Zl la [] 0=Ij la:=by
 unfold Zl;cases la<;>simp[Ij]
def V4 (c:Nat)(h:ys.length<la.length):Zl la ys c=Ij ys++((la.getD ys.length 0:Nat)-(c:Int))::Ij (la.drop (ys.length+1)):=by
 unfold Zl;rw[Cs la ys.length h]
def N9 (c:Nat)(h:ys.length<=la.length):(Zl la ys c).length=la.length:=by
 rcases A2e ys.length la.length with d|d
 ·rw[V4 c d];simp[Ij];omega
 unfold Zl;rw[A2b d];simp[Ij];omega
def Aw1 (c:Nat)(h:ys.length<la.length):(Zl la ys c)[ys.length]?=some ((la.getD ys.length 0:Nat)-(c:Int)):=by
 rw[V4 c h,A18 (by simp[Ij])];simp[Ij]
def Arl (c:Nat)(d:Int)(h:ys.length<la.length):(Zl la ys c).set ys.length d=Ij ys++d::Ij (la.drop (ys.length+1)):=by
 rw[V4 c h,A4t _ _ (by simp[Ij])];simp[Ij]
def Vt (c n:Nat)(h:ys.length<la.length):(Zl la ys c).set ys.length (n:Int)=Zl la (ys++[n]) 0:=by
 rw[Arl c _ h];unfold Zl;simp only[A1d,A20];cases la.drop (ys.length+1)<;>simp[Ij]
def Afa (c n:Nat)(h:ys.length+1<la.length):((Zl la ys c).set ys.length (n:Int)).set (ys.length+1) ((la.getD (ys.length+1) 0:Nat)-1)=Zl la (ys++[n]) 1:=by
 rw[Vt c n oV];have d:(ys++[n]).length<la.length:=by simpa using h
 have:=Arl (la:=la) (ys:=ys++[n]) 0 ((la.getD (ys.length+1) 0:Nat)-1) d;rw[A1d,A20]at this;rw[this,V4 1 d];simp
def Akk (c n:Nat)(h:ys.length+1<la.length):((Zl la ys c).set ys.length (n:Int))[ys.length+1]?=some ((la.getD (ys.length+1) 0:Nat):Int):=by
 rw[Vt c n oV];have:=Aw1 (la:=la) (ys:=ys++[n]) 0 (by simpa using h);rw[A1d,A20]at this;simpa using this
def Avv (c:Nat)(h:ys.length=la.length):Zl la ys c=Ij ys:=by
 unfold Zl;rw[A2b oV];simp
def Lv.last {a b ys:List Nat}{c:Nat}(h:Lv a b a.length ys c)(e:b.length<=a.length)(f:val b<=val a):c=0:=by
 have g:=h.sum;rw[A1j (A08 _),A1j e]at g;have d:=K8 h.low;rw[h.len]at d;rcases A2a c with h0|h0
 ·exact h0
 have:1000000000^a.length*1<=1000000000^a.length*c:=A2h _ h0;omega
def elZ {l:List Int}{j:Nat}{d:Int}(h:l[j]?=some d):(Fc l)[j]?=some (.int .i64 d):=by simp[Fc,h]
def Ly {u:PH}{va vb:Value}{la t:List Nat}(ha:Cy u va la)(hb:Cy u vb t)(K:Low la)(V:Low t)(sa:la.length<=1000000000000)(L:t.length<=la.length)(N:val t<=val la) :
 Fn0 prog 181 [va,vb] u fun v u'=>∃ l,Cy u' v l/\Low l/\val l=val la-val t/\l.length=la.length:=by
 obtain⟨a,ca,rfl,a7⟩:=ha.opn;obtain⟨b,cb,rfl,a8⟩:=hb.opn;refine Fn0.o func181 ?_;rcases A2a la.length with h0|h0
 ·have e1:la = []:=A2l h0;have e2:t = []:=A2l oV;subst e1 e2;refine G.appendNil 3 1 8 (.int .i64 0) a ca kV<|G.l (ι:=Unit) (fun _=>[(5,sV none 0 0),(6,iV 0)]) (fun _=>[]) (fun _ _ m'=>m'=PH.mt) (fun _=>0) () rfl ?_;rintro J _ hJ u' m' O rfl;exact G.lF 0 (0:Nat)<|G.r (.slice none 0 0) ⟨rfl,[],Ac.nil _ _ _ _,Low.nil,by simp[val],rfl⟩
 obtain⟨ba,oa,rfl,_⟩:=ha.at (j:=0) h0;refine G.append 3 1 8 (.int .i64 0) PH.mt [] (Ai la) (.slice none 0 0) ba oa la.length ca kV rfl rfl oV (Af.nil _ _ _) ha.els (Av la) (Ak la) h0 gV gV ?_;intro vo m1 Q;rw[A3q,<-Tr]at Q;obtain⟨g,A,rfl⟩:=Q.ptr (by intro e;have:=congrArg List.length e;rw[Cq,A03,A30]at this;omega);have a0:Af PH.mt m1 (.slice (some ⟨g,0,none⟩) la.length A) 3 1 (Fc (Zl la [] 0)):=by
  have:=Q;rw[Cq,A03]at this;rw[Aqt];exact this
 rw[Cq,A03];refine G.l (ι:=Nat×List Nat×Nat) (fun i=>[(1,sV b t.length cb),(5,sV (some ⟨g,0,none⟩) la.length A),(6,iV i.1)]) (fun _=>[])
  (fun i _ m'=>i.1<=la.length/\Lv la t i.1 i.2.1 i.2.2/\Af PH.mt m' (.slice (some ⟨g,0,none⟩) la.length A) 3 1 (Fc (Zl la i.2.1 i.2.2))) (fun i=>la.length-i.1) (0,[],0)
  ⟨mV,Lv.start _ _,a0⟩ ?_
 clear Q a0 m1;rintro J ⟨k,ys,c⟩ hJ u' m' O ⟨hk,C,Q⟩;simp only at hk C Q hJ;have a6:=C.carry;have D:=C.len;have a3:=K.getD k;have a4:=V.getD k;by_cases m:k<la.length
 ·refine G.lT k la.length ?_;have a2:ys.length<la.length:=oV;have W:=Aw1 (la:=la) (ys:=ys) c a2;rw[D]at W;by_cases Y:k<t.length
  ·obtain⟨bb,ob,rfl,eb⟩:=(hb.mono O).at (j:=k) Y;refine G.lT k t.length<|G.a g 0 la.length A k 1 m<|G.lM none g (0+k*1) (.int .i64 ((la.getD k 0:Nat)-(c:Int))) (Q.el (elZ W))<|G.a bb ob t.length cb k 1 Y<|G.lU none bb (ob+k*1) (.int .i64 (t.getD k 0:Nat)) eb ?_;obtain⟨d,hd⟩:∃ d:Int,d=(la.getD k 0:Nat)-(c:Int)-(t.getD k 0:Nat):=⟨_,rfl⟩;refine G.s ((la.getD k 0:Nat)-(c:Int)) (t.getD k 0:Nat) d<|G.a g 0 la.length A k 1 m<|G.storeA 1 PH.mt _ g la.length A k (.int .i64 d) kV Q (by rw[Cq,N9 c oV];exact m) rfl rfl ?_;intro m2 z;rw[Mm]at z;have T:((Zl la ys c).set k d)[k]?=some d:=by rw[A44 (by rw[N9 c oV];exact m)]
   refine G.a g 0 la.length A k 1 m<|G.lM none g (0+k*1) (.int .i64 d) (z.el (elZ T)) ?_;by_cases E:d<0
   ·refine G.lT' d 0 E ?_;have f:=C.step K V (x:=la.getD k 0) (y:=t.getD k 0) rfl rfl;obtain⟨n,Z⟩:∃ n:Nat,n=(la.getD k 0+1000000000-t.getD k 0-c)%1000000000:=⟨_,rfl⟩;have H:1-(la.getD k 0+1000000000-t.getD k 0-c)/1000000000=1:=oV;rw[<-Z,H]at f;have I:k+1<la.length:=by
     rcases A2e (k+1) la.length with h|h
     ·exact h
     have:k+1=la.length:=oV;rw[this]at f;have:=f.last L N;omega
    refine G.a g 0 la.length A k 1 m<|G.lM none g (0+k*1) (.int .i64 d) (z.el (elZ T))<|G.p d 1000000000 n<|G.a g 0 la.length A k 1 m<|G.storeA 1 PH.mt _ g la.length A k (.int .i64 n) kV z (by rw[Cq,A21,N9 c oV];exact m) rfl rfl ?_;intro m3 F;rw[Mm,A6r]at F;refine G.i k ?_;have U:=Akk (la:=la) (ys:=ys) c n oV;rw[D]at U;have a1:=K.getD (k+1);refine G.a g 0 la.length A (k+1) 1 I<|G.lM none g (0+(k+1)*1) (.int .i64 ((la.getD (k+1) 0:Nat):Int)) (F.el (elZ U))<|G.sub ((la.getD (k+1) 0:Nat):Int) 1 ((la.getD (k+1) 0:Nat)-1) kV rfl oV oV<|G.a g 0 la.length A (k+1) 1 I<|G.storeA 1 PH.mt _ g la.length A (k+1) (.int .i64 ((la.getD (k+1) 0:Nat)-1)) kV F (by rw[Cq,A21,N9 c oV];exact I) rfl rfl ?_;intro m4 R;have P:=Afa (la:=la) (ys:=ys) c n oV;rw[D]at P;rw[Mm,P]at R;exact G.i k<|G.b (hJ (k+1,ys++[n],1) _ _ _ cV O ⟨oV,f,R⟩ dV)
   refine G.lF' d 0 E ?_;have f:=C.step K V (x:=la.getD k 0) (y:=t.getD k 0) rfl rfl;obtain⟨n,Z⟩:∃ n:Nat,n=(la.getD k 0+1000000000-t.getD k 0-c)%1000000000:=⟨_,rfl⟩;have H:1-(la.getD k 0+1000000000-t.getD k 0-c)/1000000000=0:=oV;rw[<-Z,H]at f;have X:d=(n:Int):=oV;have P:=Vt (la:=la) (ys:=ys) c n oV;rw[D]at P;rw[X,P]at z;exact G.i k<|G.b (hJ (k+1,ys++[n],0) _ _ _ cV O ⟨oV,f,z⟩ dV)
  have hz:=Fs Y;refine G.lF k t.length ?_;obtain⟨d,hd⟩:∃ d:Int,d=(la.getD k 0:Nat)-(c:Int)-(t.getD k 0:Nat):=⟨_,rfl⟩;have z:Af PH.mt m' (.slice (some ⟨g,0,none⟩) la.length A) 3 1 (Fc ((Zl la ys c).set k d)):=by
   have e:(Zl la ys c).set k d=Zl la ys c:=by
    have:(la.getD k 0:Nat)-(c:Int)=d:=oV;rw[this]at W;refine A4g fun j=>?_;by_cases hj:k=j
    ·subst hj;rw[A44 (by rw[N9 c oV];exact m),W]
    rw[A9z hj]
   rw[e];exact Q
  have T:((Zl la ys c).set k d)[k]?=some d:=by rw[A44 (by rw[N9 c oV];exact m)]
  refine G.a g 0 la.length A k 1 m<|G.lM none g (0+k*1) (.int .i64 d) (z.el (elZ T)) ?_;by_cases E:d<0
  ·refine G.lT' d 0 E ?_;have f:=C.step K V (x:=la.getD k 0) (y:=t.getD k 0) rfl rfl;obtain⟨n,Z⟩:∃ n:Nat,n=(la.getD k 0+1000000000-t.getD k 0-c)%1000000000:=⟨_,rfl⟩;have H:1-(la.getD k 0+1000000000-t.getD k 0-c)/1000000000=1:=oV;rw[<-Z,H]at f;have I:k+1<la.length:=by
    rcases A2e (k+1) la.length with h|h
    ·exact h
    have:k+1=la.length:=oV;rw[this]at f;have:=f.last L N;omega
   refine G.a g 0 la.length A k 1 m<|G.lM none g (0+k*1) (.int .i64 d) (z.el (elZ T))<|G.p d 1000000000 n<|G.a g 0 la.length A k 1 m<|G.storeA 1 PH.mt _ g la.length A k (.int .i64 n) kV z (by rw[Cq,A21,N9 c oV];exact m) rfl rfl ?_;intro m3 F;rw[Mm,A6r]at F;refine G.i k ?_;have U:=Akk (la:=la) (ys:=ys) c n oV;rw[D]at U;have a1:=K.getD (k+1);refine G.a g 0 la.length A (k+1) 1 I<|G.lM none g (0+(k+1)*1) (.int .i64 ((la.getD (k+1) 0:Nat):Int)) (F.el (elZ U))<|G.sub ((la.getD (k+1) 0:Nat):Int) 1 ((la.getD (k+1) 0:Nat)-1) kV rfl oV oV<|G.a g 0 la.length A (k+1) 1 I<|G.storeA 1 PH.mt _ g la.length A (k+1) (.int .i64 ((la.getD (k+1) 0:Nat)-1)) kV F (by rw[Cq,A21,N9 c oV];exact I) rfl rfl ?_;intro m4 R;have P:=Afa (la:=la) (ys:=ys) c n oV;rw[D]at P;rw[Mm,P]at R;exact G.i k<|G.b (hJ (k+1,ys++[n],1) _ _ _ cV O ⟨oV,f,R⟩ dV)
  refine G.lF' d 0 E ?_;have f:=C.step K V (x:=la.getD k 0) (y:=t.getD k 0) rfl rfl;obtain⟨n,Z⟩:∃ n:Nat,n=(la.getD k 0+1000000000-t.getD k 0-c)%1000000000:=⟨_,rfl⟩;have H:1-(la.getD k 0+1000000000-t.getD k 0-c)/1000000000=0:=oV;rw[<-Z,H]at f;have X:d=(n:Int):=oV;have P:=Vt (la:=la) (ys:=ys) c n oV;rw[D]at P;rw[X,P]at z;exact G.i k<|G.b (hJ (k+1,ys++[n],0) _ _ _ cV O ⟨oV,f,z⟩ dV)
 obtain rfl:k=la.length:=oV;refine G.lF la.length la.length ?_;have a5:=C.last L N;rw[Avv c D,show Fc (Ij ys)=Ai ys from Tr ys]at Q;refine G.give PH.mt (Ai ys) _ kV Q (fun _=>.inl rfl) ?_;intro u1 l1 hL;exact G.r (.slice (some ⟨g,0,none⟩) la.length A) ⟨rfl,ys,hL,C.low,C.done L N,D⟩
end
section
variable {a:Option Addr}{c n:Nat}{l:List Nat}{u:PH}{x:Value}{z:Int}
def Do (u:PH)(v:Value)(z:Int):Prop:=∃ a n c,v=.agg #[.bool (decide (z<0)),.slice a n c]/\Cy u (.slice a n c) (Aa z.natAbs)
def Do.mono {u d:PH}{v:Value}{z:Int}(h:Do u v z)(g:PH.le u d):Do d v z:=by
 obtain⟨a,n,c,e,f⟩:=h;exact⟨a,n,c,e,f.mono g⟩
def Do.opn {v:Value}(h:Do u v z):∃ b a n c,v=.agg #[.bool b,.slice a n c]/\b=decide (z<0)/\Cy u (.slice a n c) (Aa z.natAbs):=by
 obtain⟨a,n,c,rfl,d⟩:=h;exact⟨_,a,n,c,rfl,rfl,d⟩
def Asy (d:Low l):0<Bz l l.length↔0<val l:=by
 have:=Ke d;rw[<-Df (n:=val l),this,A1e];have:=Mi l l.length;omega
def Ad0 (b:Bool)(h:Cy u (.slice a n c) l)(d:Low l):Do u (.agg #[.bool (b&&decide (0<Bz l l.length)),.slice a (Bz l l.length) c]) (Cd b (val l)):=by
 refine⟨a,Bz l l.length,c,?_,?_⟩
 ·rw[Wd,decide_eq_decide.2 (Asy d)]
 rw[K5,Ke d];exact h.take _ (Mi _ _)
def Ec {b:Bool}(h:Cy u (.slice a n c) l)(C:Low l)(D:l.length<=1000000000000000000) :
 Fn0 prog 179 [.agg #[.bool b,.slice a n c]] u fun v d=>Do d v (Cd b (val l)):=by
 intro w g;refine Calls.mono (Ar4 (b:=b) h D w g) fun e w' A=>?_;obtain⟨v,d,E,j,m,f,t,rfl⟩:=A;exact⟨_,d,E,j,m,f,t,Ad0 b (h.mono (f.le g.pu)) C⟩
def Ts (h:Do u x z)(f:nl z.natAbs<=1000000000000000000):Fn0 prog 129 [x] u fun v m=>Do m v (-z):=by
 obtain⟨b,a,n,c,rfl,e,hi⟩:=h.opn;obtain⟨rfl,t⟩:=hi.len;have g:(Aa z.natAbs).length<=1000000000000000000:=f;refine Fn0.o func129 ?_;have hp:=Df (n:=z.natAbs);have fin:∀ b':Bool,b'=decide (-z<0)->Do u (.agg #[.bool b',.slice a (Aa z.natAbs).length c]) (-z):=fun b' d=>⟨a,(Aa z.natAbs).length,c,by rw[d],by rw[A3l];exact hi⟩;cases b
 ·have j:0<=z:=by simpa using e.symm
  by_cases h0:0<(Aa z.natAbs).length
  ·exact G.gT ((Aa z.natAbs).length:Int) 0<|G.r (.agg #[.bool true,.slice a (Aa z.natAbs).length c]) ⟨rfl,fin true (by have:=hp.1 h0;simp;omega)⟩
  exact G.gF ((Aa z.natAbs).length:Int) 0<|G.r (.agg #[.bool false,.slice a (Aa z.natAbs).length c]) ⟨rfl,fin false (by have:¬ 0<z.natAbs:=fun h=>h0 (hp.2 h);simp;omega)⟩
 have j:z<0:=by simpa using e.symm
 exact G.r (.agg #[.bool false,.slice a (Aa z.natAbs).length c]) ⟨rfl,fin false gV⟩
def Fi {m n:Nat}(h:n<=m):(Aa n).length<=(Aa m).length:=C4 h
def Al8 {x X:Value}{y z:Int}(Y:Do u x y)(Q:Do u X z)(Z:nl y.natAbs<=1000000000000)(sz:nl z.natAbs<=1000000000000):Fn0 prog 177 [x,X] u fun v u'=>Do u' v (y+z):=by
 obtain⟨b,a,n,c,rfl,O,hi⟩:=Y.opn;obtain⟨b',a',n',c',rfl,m,f⟩:=Q.opn;have L:(Aa y.natAbs).length<=1000000000000:=Z;have N:(Aa z.natAbs).length<=1000000000000:=sz;refine Fn0.o func177<|G.eqB b b' kV ?_;by_cases e:b=b'
 ·have j:=Afl (y:=y) (z:=z) (by rw[<-O,<-m,e]);rw[<-O]at j;rw[show (b==b')=true by rw[e];simp];refine G.c call211 (Aso hi f (Ao _) (Ao _) L N) ?_;rintro R u1 J ⟨l,g,E,F,V⟩;obtain⟨T,U,rfl,H⟩:=g.opn;refine G.c call179 (Ec (b:=b) g E oV) ?_;intro W P l2 d;rw[F,Am,Am,j]at d;obtain⟨C,A,K,D,rfl,_,_⟩:=d.opn;exact G.r (.agg #[.bool C,.slice A K D]) ⟨rfl,d⟩
 rw[show (b==b')=false by simpa using e];have I:decide (y<0)≠decide (z<0):=by rw[<-O,<-m];exact e
 refine G.c call175 (Lx hi f oV oV) ?_;rintro R u1 J rfl;by_cases t:z.natAbs<=y.natAbs
 ·have j:=Zx (y:=y) (z:=z) I t;rw[<-O]at j;refine G.hT' (sgn ((y.natAbs:Int)-z.natAbs)) 0 (by rcases A4q ((y.natAbs:Int)-z.natAbs) 0 with h|h|h<;>first|omega|(rw[h];decide)|(rw[C5 h];decide)) ?_
  refine G.c call181 (Ly (hi.mono J) (f.mono J) (Ao _) (Ao _) L (Fi t) (by rw[Am,Am];exact t)) ?_;rintro R P l2 ⟨l,g,E,F,V⟩;obtain⟨T,U,rfl,H⟩:=g.opn;refine G.c call179 (Ec (b:=b) g E oV) ?_;intro W P l2 d;rw[F,Am,Am,j]at d;obtain⟨C,A,K,D,rfl,_,_⟩:=d.opn;exact G.r (.agg #[.bool C,.slice A K D]) ⟨rfl,d⟩
 have j:=Aag (y:=y) (z:=z) I oV;rw[<-m]at j;refine G.hF' (sgn ((y.natAbs:Int)-z.natAbs)) 0 (by rw[Ep oV];decide)<|G.c call181 (Ly (f.mono J) (hi.mono J) (Ao _) (Ao _) N (Fi oV) (by rw[Am,Am];omega)) ?_;rintro R P l2 ⟨l,g,E,F,V⟩;obtain⟨T,U,rfl,H⟩:=g.opn;refine G.c call179 (Ec (b:=b') g E oV) ?_;intro W P l2 d;rw[F,Am,Am,j]at d;obtain⟨C,A,K,D,rfl,_,_⟩:=d.opn;exact G.r (.agg #[.bool C,.slice A K D]) ⟨rfl,d⟩
end
end Go.Proofs.YtnjlhkppabfebaaGreatDoor
