/- Parts of one proof, joined by a program. -/
import Derived.Test.YtdgncafgglafjaaGreatDoorQ02
import Derived.Laws.AppendOwn
import Derived.Laws.MakeOwn
import Derived.IntWalk
import Derived.Lib.TrimByte
import Derived.Lib.ItoaNum
import Derived.Laws.IdiomStrings
set_option linter.defProp false
set_option linter.unusedVariables false
set_option linter.unusedSimpArgs false
set_option linter.unusedSectionVars false
set_option maxHeartbeats 16000000
namespace Go.Proofs.YtdgncafgglafjaaGreatDoor
open Go.Proofs.Tryz
open Go.RowKit
def A6g:=@Int.mul_ne_zero
def A7n:=@List.flatMap_cons
def A7x:=@List.mem_flatMap
def A6w:=@Array.getElem?_eq_some_iff
def A09:=@List.getElem?_append_left
def A1d:=@List.getElem?_append_right
def A3q:=@List.length_nil
def A90:=@Array.toList_append
def A7o:=@Nat.le_of_succ_le
def A41:=@List.nil_append
def A3v:=@List.toList_toArray
def A31:=@List.drop_drop
def A9i:=@List.drop_left
def A7y:=@List.length_drop
def A0o:=@List.getElem?_eq_some_iff
def A42:=@Nat.zero_mul
def A9d:=@List.drop_eq_nil_of_le
def A47:=@List.take_append_of_le_length
def A3r:=@List.length_set
def A68:=@Nat.sub_zero
def A3i:=@Int.tdiv_eq_ediv_of_nonneg
def A79:=@Int.ediv_nonneg
def A80:=@Int.ediv_le_self
def A5p:=@Int.tmod_eq_emod_of_nonneg
def A96:=@Int.le_of_lt
def A24:=@Nat.div_le_self
def A8j:=@Nat.gcd_zero_right
def A26:=@Int.natAbs_neg
def A69:=@Int.sub_eq_add_neg
def A9e:=@Rat.neg_num
def A9f:=@Rat.neg_den
def A7a:=@Nat.gcd_pos_of_pos_right
def A7b:=@Rat.sub_eq_add_neg
def A4d:=@Rat.num_eq_zero
def A28:=@List.length_singleton
def A0k:=@List.length_map
def A5t:=@List.getElem?_set_ne
def Amw {q r:Rat}(d:q.den=1)(e:r.den=1):((q.num+r.num:Int):Rat)=q+r:=by
 rw[Rat.add_def',d,e,A27,Rat.mkRat_one];simp
def Vd (q r:Rat):Rat.divInt (q.num*(r.den:Int)+r.num*(q.den:Int)) ((q.den:Int)*(r.den:Int))=q+r:=by
 rw[Rat.add_def',<-A7w,A3x]
def Vf {y z:Int}{k:Nat}(d:nl y.natAbs<=k)(e:nl z.natAbs<=k):nl (y+z).natAbs<=k+1:=by
 have:=Arx y.natAbs z.natAbs;have f:nl (y+z).natAbs<=nl (y.natAbs+z.natAbs):=Cl oV;omega
def Wi (q r:Rat):(q.den:Int)*(r.den:Int)≠0:=by
 have d:=q.den_nz;have e:=r.den_nz;exact A6g oV oV
section
variable {b n off:Nat}{env:Operand->Value}{o:Op}{q:Rat}{v x:Value}{w:World}
instance:A6 prog:=⟨kV,kV⟩
def W1 (u:PH)(b off:Nat)(x:Value):Prop:=∃ cs t fr,u b=some (.cells cs t fr)/\cs[off]?=some x
def W1.mono {u u':PH}(h:W1 u b off x)(hl:PH.le u u'):W1 u' b off x:=by
 obtain⟨cs,t,fr,h1,h2⟩:=h;exact⟨cs,t,fr,hl _ _ h1,h2⟩
def W1.cell {u:PH}{w:World}{b off:Nat}{x:Value}(h:W1 u b off x)(hp:F7 u w):w.cell? ⟨b,off,none⟩=some x:=by
 obtain⟨cs,t,fr,h1,h2⟩:=h;simp[World.cell?,hp _ _ h1,h2]
def ElP (u:PH)(b off:Nat)(e:Value):Prop:=∀ (i:Nat) (x:Value),e.cells[i]?=some x->W1 u b (off+i) x
def ElP.mono {u u':PH}{b off:Nat}{e:Value}(h:ElP u b off e)(hl:PH.le u u'):ElP u' b off e:=fun i x hi=>(h i x hi).mono hl
def Aed (k:Option Nat)(e:Value):Bool :=
 match k with
 |some n=>match e with
  |.agg cs=>Nat.beq n cs.size
  |_=>false
 |none=>match e with|.agg _=>false|_=>true
def Agr (u:PH)(a:Option Addr)(cs:List Value):Prop:=∀ j,j<cs.length->∃ b off,a=some ⟨b,off,none⟩/\W1 u b (off+j) (cs.getD j (.bool false))
def Da (u:PH)(v:Value)(n:Nat):Prop:=∃ a cap,v=.slice a (Aa n).length cap/\(Aa n).length<=cap/\Agr u a (A7 (Aa n))
def Br (u:PH)(v:Value)(z:Int):Prop:=∃ a n c,v=.agg #[.bool (decide (z<0)),.slice a n c]/\Da u (.slice a n c) z.natAbs
def A9 (u:PH)(v:Value)(q:Rat):Prop :=
 ∃ a n c a' n' c',v=.agg #[.bool (decide (q.num<0)),.slice a n c,.bool false,.slice a' n' c']/\Da u (.slice a n c) q.num.natAbs/\Da u (.slice a' n' c') q.den
def Da.mono {u u':PH}{v:Value}{n:Nat}(h:Da u v n)(hl:PH.le u u'):Da u' v n:=by
 obtain⟨a,cap,h1,h2,h3⟩:=h;exact⟨a,cap,h1,h2,fun j hj=>by obtain⟨b,off,e1,e2⟩:=h3 j hj;exact⟨b,off,e1,e2.mono hl⟩⟩
def Br.mono {u u':PH}{v:Value}{z:Int}(h:Br u v z)(hl:PH.le u u'):Br u' v z:=by
 obtain⟨a,n,c,h1,h2⟩:=h;exact⟨a,n,c,h1,h2.mono hl⟩
def A9.mono {u u':PH}{v:Value}{q:Rat}(h:A9 u v q)(hl:PH.le u u'):A9 u' v q:=by
 obtain⟨a,n,c,a',n',c',h1,h2,h3⟩:=h;exact⟨a,n,c,a',n',c',h1,h2.mono hl,h3.mono hl⟩
def Da.toW {u:PH}(h:Da u v n)(hp:F7 u w):Cz w v n:=by
 obtain⟨a,cap,f,g,t⟩:=h;exact⟨a,cap,f,g,fun j z=>by obtain⟨b,off,d,e⟩:=t j z;exact⟨b,off,d,e.cell hp⟩⟩
def Br.toW {u:PH}{w:World}{v:Value}{z:Int}(h:Br u v z)(hp:F7 u w):Qr w v z:=by
 obtain⟨a,n,c,d,e⟩:=h;exact⟨a,n,c,d,e.toW hp⟩
def A9.toW {u:PH}{w:World}{v:Value}{q:Rat}(h:A9 u v q)(hp:F7 u w):Wv w v q:=by
 obtain⟨a,n,c,d,t,e,f,g,j⟩:=h;exact⟨a,n,c,d,t,e,f,g.toW hp,j.toW hp⟩
def Da.ofW {u:PH}(h:Cz w v n)(D:Aeu u w):Da u v n:=by
 obtain⟨a,cap,z,A,C⟩:=h;refine⟨a,cap,z,A,fun j f=>?_⟩;obtain⟨b,off,g,d⟩:=C j f;refine⟨b,off,g,?_⟩;have e:j<(Aa n).length:=by simpa using f
 have E:(A7 (Aa n)).getD j (.bool false)=.int .u64 ((Aa n).getD j 0:Nat):=by simp[A7,e]
 rw[E]at d⊢;unfold World.cell? at d;simp only at d;split at d
 ·rename_i cs t fr hb;simp at d;exact⟨cs,t,fr,D b cs t fr _ _ hb d,d⟩
 cases d
def Br.ofW {u:PH}{w:World}{v:Value}{z:Int}(h:Qr w v z)(f:Aeu u w):Br u v z:=by
 obtain⟨a,n,c,d,e⟩:=h;exact⟨a,n,c,d,Da.ofW e f⟩
def Br.opn {u:PH}{z:Int}(h:Br u v z):∃ b a n c,v=.agg #[.bool b,.slice a n c]:=by
 obtain⟨a,n,c,rfl,_⟩:=h;exact⟨_,a,n,c,rfl⟩
def A9.opn {u:PH}(h:A9 u v q):∃ b a n c b' d f e,v=.agg #[.bool b,.slice a n c,.bool b',.slice d f e]:=by
 obtain⟨a,n,c,d,f,e,rfl,_⟩:=h;exact⟨_,a,n,c,_,d,f,e,rfl⟩
def A9.num {u:PH}{b b':Bool}{a e:Option Addr}{n j c f:Nat}(h:A9 u (.agg #[.bool b,.slice a n c,.bool b',.slice e j f]) q):Br u (.agg #[.bool b,.slice a n c]) q.num:=by
 obtain⟨_,_,_,_,_,_,d,g,t⟩:=h;simp only[Value.agg.injEq,A5b,A3b,Value.bool.injEq,Value.slice.injEq,and_true]at d;obtain⟨rfl,⟨rfl,rfl,rfl⟩,rfl,rfl,rfl,rfl⟩:=d;exact⟨_,_,_,rfl,g⟩
def A9.den {u:PH}{b b':Bool}{a d:Option Addr}{n g c e:Nat}{q:Rat}(h:A9 u (.agg #[.bool b,.slice a n c,.bool b',.slice d g e]) q):Br u (.agg #[.bool b',.slice d g e]) q.den:=by
 obtain⟨_,_,_,_,_,_,f,t,j⟩:=h;simp only[Value.agg.injEq,A5b,A3b,Value.bool.injEq,Value.slice.injEq,and_true]at f;obtain⟨rfl,⟨rfl,rfl,rfl⟩,rfl,rfl,rfl,rfl⟩:=f;refine⟨_,_,_,?_,by rw[A1e];exact j⟩;rw[show decide (((q.den:Nat):Int)<0)=false by simp only[decide_eq_false_iff_not];omega]
def Fn0.ofW {P:Program}{f:FuncId}{args:List Value}{u:PH}{R:Value->PH->Prop}(Q:Value->World->Prop)(h:∀ w,F7 u w->Calls P f args.toArray w fun e w'=>∃ v,e=.returned v/\Q v w'/\Ext w w')
 (L:∀ v w' E,Q v w'->F7 E w'->Aeu E w'->PH.le u E->R v E):Fn0 P f args u R:=by
 intro w C;refine Calls.mono (h w C.pu) fun e w' J=>?_;obtain⟨v,H,I,D⟩:=J;have F:w.heap.size<=w'.heap.size:=D.size;have A:∀ g,g<w.heap.size->w'.heap[g]?=w.heap[g]?:=fun g C=>Below.block D g C;have g1:F7 (fun g=>if g<w.heap.size then u g else w'.heap[g]?) w':=by
  intro g o d;simp only at d;split at d
  ·rename_i hlt;rw[A g hlt];exact C.pu g o d
  exact d
 have g2:Aeu (fun g=>if g<w.heap.size then u g else w'.heap[g]?) w':=by
  intro g cs t fr j z d K;simp only;split
  ·rename_i hlt;rw[A g hlt]at d;exact C.cl g cs t fr j z d K
  exact d
 have g3:PH.le u (fun g=>if g<w.heap.size then u g else w'.heap[g]?):=fun g o d=>by simp only;rw[if_pos (C.pu.lt d)];exact d
 refine⟨v,_,PH.mt,H,⟨g1,F7.mt _,fun _=>.inr rfl,g2⟩,⟨F,fun g C _=>A g C,fun g C=>by simp only;rw[if_pos C],fun _ _ h=>h,⟨D.os,D.output⟩,fun f=>f.elim⟩,rfl,L v w' _ I g1 g2 g3⟩
section rules
variable [Cj] [Dd] [Pu] {P:Program} [A6 P] {fn:Func} {Post:Ca} {st:List KI×S} {u m:PH}
def Aax {k:Option (Option Nat)}(h:Bc P env o=.load k x):∃ t X,o=.load t X/\env X=x/\Xb P t=k:=by
 cases o<;>simp only[Bc]at h<;>try cases h
 any_goals ((repeat' split at h)<;>cases h;done)
 exact⟨_,_,rfl,rfl,rfl⟩
def Zp {sz:Option Nat}{x i:Value}(h:Bc P env o=.addr sz x i):∃ t X I,o=.indexAddr t X I/\env X=x/\env I=i/\Nf P t=sz:=by
 cases o<;>simp only[Bc]at h<;>try cases h
 any_goals ((repeat' split at h)<;>cases h;done)
 exact⟨_,_,_,rfl,rfl,rfl,rfl⟩
def Ajz {d:UnOp}(h:Bc P env o=.un d x):∃ t X,o=.unOp d t X/\env X=x:=by
 cases o<;>simp only[Bc]at h<;>try cases h
 any_goals ((repeat' split at h)<;>cases h;done)
 exact⟨_,_,rfl,rfl⟩
def P0 {t:TypeId}{k:Option Nat}{e:Value}(d:Xb P t=some k)(f:Aed k e=true)(h:ElP u b off e)(hp:F7 u w):(loadVar t ⟨b,off,none⟩).run P w=.ok e w:=by
 unfold Xb at d;unfold loadVar;split at d
 ·rename_i ha;split at d
  ·rename_i n hn;simp at d;subst d;unfold Aed at f;simp only at f;split at f
   ·rename_i cs;have A:=A1u f;have:=run_loadCells_list (P:=P) w ⟨b,off,none⟩ cs.toList (fun j v z=>by rw[Eu];exact (h j v (by simpa[Value.cells] using z)).cell hp);simp only[Sem.run_bind,Ei ha,Result.andThen_ok,if_true,Bg hn,A];simp at this;rw[this];simp
   cases f
  cases d
 ·rename_i ha;simp at d;subst d;unfold Aed at f;have g:e.cells = #[e]:=by cases e<;>simp_all [Value.cells]
  have:=(h 0 e (by simp[g])).cell hp;simp[Ei ha];simp at this;simp[this]
 cases d
def G.loadU (z:Option Nat)(b off:Nat)(e:Value)(h:Ak P (adv P st)=.load (some z) (.pointer (some ⟨b,off,none⟩)))(H:Aed z e=true)(F:ElP u b off e)(k:G P fn Post (nx (adv P st) e) u m):G P fn Post st u m:=by
 refine G.ask h mV (fun env o d w hp=>?_) k;obtain⟨t,X,j,D,E⟩:=Aax d;obtain⟨C,I,A,pos,f,g⟩:=o;simp only at j;subst j;simp[execOp,Instr.loadAt,Instr.sureAddr,D,P0 E H F (hp rfl).1]
def G.loadM (A:Option Nat)(b off:Nat)(e:Value)(h:Ak P (adv P st)=.load (some A) (.pointer (some ⟨b,off,none⟩)))(I:Aed A e=true)(H:ElP m b off e)(k:G P fn Post (nx (adv P st) e) u m)(j:Pu.b=false:=by rfl):G P fn Post st u m:=by
 refine G.ask h mV (fun env o d w hp=>?_) k;obtain⟨t,X,z,E,F⟩:=Aax d;obtain⟨D,J,C,pos,f,g⟩:=o;simp only at z;subst z;simp[execOp,Instr.loadAt,Instr.sureAddr,E,P0 F I H ((hp rfl).2 j)]
def G.addr (b off n c j sz:Nat)(h:Ak P (adv P st)=.addr (some sz) (.slice (some ⟨b,off,none⟩) n c) (.int .i64 j))(K:j<n)
 (k:G P fn Post (nx (adv P st) (.pointer (some ⟨b,off+j*sz,none⟩))) u m):G P fn Post st u m:=by
 refine G.ask h mV (fun env o f w hp=>?_) k;obtain⟨t,X,I,A,E,F,d⟩:=Zp f;obtain⟨D,J,C,pos,g,z⟩:=o;simp only at A;subst A;unfold Nf at d;split at d
 ·rename_i e hu;have H:(0:Int)<=j/\(j:Int)<n:=oV;simp[execOp,Instr.indexAt,asIntOf,E,F,run_underlying hu,H,Bg d,Eu];omega
 cases d
def G.neg (x z:Int)(h:Ak P (adv P st)=.un .neg (.int .i64 x))(H:-x=z)(D:-9223372036854775808<=z)(E:z<=9223372036854775807)
 (k:G P fn Post (nx (adv P st) (.int .i64 z)) u m):G P fn Post st u m:=by
 refine G.ask h mV (fun env o d w hp=>?_) k;obtain⟨t,X,g,C⟩:=Ajz d;obtain⟨A,F,j,pos,e,f⟩:=o;simp only at g;subst g;have:(0:Int)-x=z:=oV
 simp[execOp,Op.unary,C,Op.intArith,this,Fx D E]
end rules
end
section
variable [Cj] [Pu] [Dd]
variable {P:Program} [A6 P] {fn:Func} {Post:Ca} {st:List KI×S} {u m:PH}
def G.a (b off n c j sz:Nat)(hj:j<n)(k:G P fn Post (nx (adv P st) (.pointer (some ⟨b,off+j*sz,none⟩))) u m)(h:Ak P (adv P st)=.addr (some sz) (.slice (some ⟨b,off,none⟩) n c) (.int .i64 (j:Int)):=by kernel_rfl):G P fn Post st u m:=G.addr b off n c j sz h hj k
def G.lU (kd:Option Nat)(b off:Nat)(e:Value)(he:ElP u b off e)(k:G P fn Post (nx (adv P st) e) u m)(h:Ak P (adv P st)=.load (some kd) (.pointer (some ⟨b,off,none⟩)):=by kernel_rfl)(hs:Aed kd e=true:=by kernel_rfl):G P fn Post st u m:=G.loadU kd b off e h hs he k
theorem G.lM (kd:Option Nat)(b off:Nat)(e:Value)(he:ElP m b off e)(k:G P fn Post (nx (adv P st) e) u m)(h:Ak P (adv P st)=.load (some kd) (.pointer (some ⟨b,off,none⟩)):=by kernel_rfl)(hs:Aed kd e=true:=by kernel_rfl)(h00:Pu.b=false:=by rfl):G P fn Post st u m:=G.loadM kd b off e h hs he k h00
end
section
variable {cs z:Array Value}{env:Operand->Value}{es xs:List Value}{g sz:Nat}{o:Oper}{t:TypeId}{v:Value}
variable [Cj] [Dd] [Pu]
def PH.upd (m:PH)(g:Nat)(o:Obj):PH:=fun h=>if h=g then some o else m h
def Ac (m:PH)(g:Nat)(o:Obj):m.upd g o g=some o:=by simp[PH.upd]
def Ad (m:PH){g h:Nat}(o:Obj)(d:h≠g):m.upd g o h=m h:=by simp[PH.upd,d]
def Ds (m:PH)(g:Nat)(o o':Obj):(m.upd g o).upd g o'=m.upd g o':=by
 funext h;by_cases e:h=g
 ·subst e;simp[PH.upd]
 simp[PH.upd,e]
def I9 {m:PH}(o:Obj)(h:m g=none):PH.le m (m.upd g o):=fun k x d=>by
 by_cases e:k=g
 ·subst e;rw[h]at d;cases d
 rw[Ad _ _ e];exact d
def Bb (es:List Value):List Value:=es.flatMap fun e=>e.cells.toList
def Y2 (p:Value->Bool)(sz:Nat)(es:List Value):Prop:=∀ e∈es,e.cells.size=sz/\∀ x∈e.cells.toList,p x=true
abbrev Bm (sz:Nat)(es:List Value):Prop:=Y2 Be sz es
def B7 {p:Value->Bool}{sz:Nat}:∀ {es:List Value},Y2 p sz es->(Bb es).length=es.length*sz
 |[],_=>by simp[Bb]
 |e::es,h=>by
  have f:=(h e mV).1;have d:=B7 (sz:=sz) (es:=es) (fun x j=>h x (A01 _ j));unfold Bb at d⊢;simp only[A7n,A03,d,A1y,A4n,f,A1m,A27];omega
def Fa (a b:List Value):Bb (a++b)=Bb a++Bb b:=by simp[Bb]
def Gu (h:Bm sz es):∀ x∈Bb es,Be x=true:=by
 intro x hx;obtain⟨e,he,hx⟩:=A7x.1 hx;exact (h e he).2 x hx
def Bm.append {a b:List Value}(h:Bm sz a)(k:Bm sz b):Bm sz (a++b):=fun e d=>(A04.1 d).elim (h e) (k e)
def Jd {p:Value->Bool}{sz:Nat}:∀ {es:List Value},Y2 p sz es->∀ {j i:Nat} {e x:Value},es[j]?=some e->e.cells[i]?=some x->(Bb es)[j*sz+i]?=some x
 |[],_,j,i,e,x,hj,_=>by simp at hj
 |d::es,h,j,i,e,x,hj,hi=>by
  have f:=(h d mV).1;have A:Y2 p sz es:=fun x C=>h x (A01 _ C);have n:Bb (d::es)=d.cells.toList++Bb es:=by simp[Bb]
  rw[n];cases j with
  |zero =>
   simp at hj;subst hj;have:i<d.cells.size:=(A6w.1 hi).1;rw[A09 gV];simpa using hi
  |succ j =>
   simp at hj;rw[A1d (by simp[f,A1m];omega)];have:=Jd A hj hi;rw[<-this];congr 1;simp[f,A1m];omega
def Af (m0 m:PH)(v:Value)(t:TypeId)(sz:Nat)(es:List Value):Prop :=
 Bm sz es/\((v=.slice none 0 0/\es = []/\m=m0) \/
  ∃ g cap rest,m0 g=none/\m=m0.upd g (.cells (Bb es++rest).toArray t (0,0))/\v=.slice (some ⟨g,0,none⟩) es.length cap/\es.length<=cap/\(Bb es++rest).length=cap*sz/\∀ x∈rest,Be x=true)
def Af.nil (m:PH)(t:TypeId)(sz:Nat):Af m m (.slice none 0 0) t sz []:=⟨fun _ h=>absurd h mV,.inl ⟨rfl,rfl,rfl⟩⟩
theorem Af.shape {m0 m:PH}(h:Af m0 m v t sz es):∃ a cap,v=.slice a es.length cap:=by
 rcases h.2 with ⟨rfl,rfl,_⟩|⟨g,cap,rest,_,_,rfl,_⟩
 ·grind
 grind
theorem Dw {P:Program}{t e:TypeId}{sz d:Nat}{z:Value}(h:Ly P t=some (e,sz,d,z)):P.underlying t=some (.slice e)/\∃ i,P.info? e=some i/\i.zero=some z/\i.size=sz/\i.bytes=d:=by
 unfold Ly at h;split at h
 ·grind
 cases h
theorem Ir (h:z.toList.all Be=true)(n:Nat):∀ x∈(Builtin.zeroCells z n).toList,Be x=true:=by
 intro x e;simp[Builtin.zeroCells]at e;obtain⟨i,f,rfl⟩:=e;rw[A06]at h;by_cases j:z.size=0
 ·grind
 have d:i%z.size<z.size:=A2l _ oV;refine h _ ?_;rw[getElem!_pos z _ d];simp
def Acv (h:z.toList.all Be=true)(n:Nat)(j:z.size≠0):∀ x∈(madeCells z n).toList,Be x=true:=by
 intro x e;simp[madeCells]at e;obtain⟨i,f,rfl⟩:=e;rw[A06]at h;have d:i%z.size<z.size:=A2l _ oV;refine h _ ?_;rw[getElem!_pos z _ d];simp
section worlds
variable {u m:PH} {w:World}
theorem Ci.newM (h:Ci u m w)(C:∀ x∈cs.toList,Be x=true):Ci u (m.upd w.heap.size (.cells cs t (0,0))) (w.alloc (.cells cs t))/\Cn u m w u (m.upd w.heap.size (.cells cs t (0,0))) (w.alloc (.cells cs t))/\m w.heap.size=none/\u w.heap.size=none:=by
 have f:m w.heap.size=none:=h.pm.none (A0s _);have A:u w.heap.size=none:=h.pu.none (A0s _);have g1:=h.alloc (cs:=cs) (t:=t) (fr:=(0,0)) (fun j z e=>Kc (C _ (by obtain⟨D,n⟩:=A6w.1 e;rw[<-n];simp)) z rfl);refine⟨⟨g1.pu,fun g o d=>?_,fun g=>?_,g1.cl⟩,⟨by rw[Cd];omega,fun g d _=>Bi _ _ d,fun _ _=>rfl,fun g d f=>by rw[Ad _ _ oV];exact f,⟨rfl,rfl⟩,fun _=>⟨rfl,A0s _⟩⟩,f,A⟩
 ·by_cases e:g=w.heap.size
  ·subst e;rw[Ac]at d;rw[Cy];exact d
  rw[Ad _ _ e]at d;exact g1.pm g o d
 by_cases e:g=w.heap.size
 ·grind
 rw[Ad _ _ e];exact h.ap g
def Ci.drew' (h:Ci u m w):Ci u m w.drew:=⟨h.pu,h.pm,h.ap,h.cl⟩
def Ci.less (h:Ci u m w){f:PH}(j:PH.le f m):Ci u f w:=by
 refine⟨h.pu,fun g o d=>h.pm g o (j g o d),fun g=>(h.ap g).imp id fun e=>?_,h.cl⟩;cases d:f g with
 |none=>rfl
 |some o=>rw[j g o d]at e;cases e
theorem Ci.setM (h : Ci u m w)  {cs cs' : Array Value}  (hg : m g = some (.cells cs t (0, 0))) (hw : ∀ x ∈ cs'.toList, Be x = true) : Ci u (m.upd g (.cells cs' t (0, 0))) (w.setRow g cs') ∧ Cn u m w u (m.upd g (.cells cs' t (0, 0))) (w.setRow g cs') := by
  have hb := h.pm g _ hg
  have hug : u g = none := by rcases h.ap g with e | e
                              · exact e
                              · grind
  have hsame := setRow_heap w g cs cs' t (0, 0) hb
  have hother : ∀ k, k ≠ g → (w.setRow g cs').heap[k]? = w.heap[k]? := fun k hk => setRow_other w g k cs' hk
  refine ⟨⟨fun k o hk => ?_, fun k o hk => ?_, fun k => ?_, fun k cs1 t1 fr1 j z hk hj => ?_⟩, ⟨by rw [setRow_size]; exact A0s _, fun k hk hm => hother k (fun e => by rw [e, hg] at hm; cases hm), fun _ _ => rfl, fun k hk hm => by rw [Ad _ _ (fun e => by rw [e, hg] at hm; cases hm)]; exact hm, ⟨rfl, rfl⟩, fun _ => ⟨rfl, A0s _⟩⟩⟩
  · rw [hother k (fun e => by rw [e, hug] at hk; cases hk)]; exact h.pu k o hk
  · by_cases e : k = g
    · subst e; rw [Ac] at hk; rw [hsame]; exact hk
    · rw [Ad _ _ e] at hk; rw [hother k e]; exact h.pm k o hk
  · by_cases e : k = g
    · grind
    · rw [Ad _ _ e]; exact h.ap k
  · by_cases e : k = g
    · subst e
      rw [hsame] at hk
      obtain ⟨rfl, _, _⟩ := hk
      obtain ⟨hlt, he⟩ := A6w.1 hj
      exact absurd he (Kc (hw _ mV) z)
    · rw [hother k e] at hk; exact h.cl k cs1 t1 fr1 j z hk hj
theorem Ci.newU (h:Ci u m w)(o:Obj):Ci (u.upd w.heap.size o) m (w.alloc o)/\Cn u m w (u.upd w.heap.size o) m (w.alloc o)/\m w.heap.size=none/\u w.heap.size=none:=by
 have n:m w.heap.size=none:=h.pm.none (A0s _);have C:u w.heap.size=none:=h.pu.none (A0s _);refine⟨⟨fun g o' d=>?_,fun g o' d=>?_,fun g=>?_,fun g cs t fr j z d A=>?_⟩,⟨by rw[Cd];omega,fun g d _=>Bi _ _ d,fun g d=>Ad _ _ oV,fun g d n=>n,⟨rfl,rfl⟩,fun _=>⟨rfl,A0s _⟩⟩,n,C⟩
 ·by_cases e:g=w.heap.size
  ·subst e;rw[Ac]at d;rw[Cy];exact d
  rw[Ad _ _ e]at d;rw[Bi _ _ (h.pu.lt d)];exact h.pu g o' d
 ·rw[Bi _ _ (h.pm.lt d)];exact h.pm g o' d
 ·by_cases e:g=w.heap.size
  ·grind
  rw[Ad _ _ e];exact h.ap g
 by_cases e:g=w.heap.size
 ·subst e;rw[Cy]at d;rw[Ac];exact d
 rw[Ad _ _ e];have f:=Cf d;rw[Cd]at f;rw[Bi _ _ oV]at d;exact h.cl g cs t fr j z d A
end worlds
def He (u:PH)(b off sz:Nat)(xs:List Value):Prop:=∀ j e,xs[j]?=some e->ElP u b (off+j*sz) e
def He.mono {u u':PH}{b off sz:Nat}{xs:List Value}(h:He u b off sz xs)(hl:PH.le u u'):He u' b off sz xs:=fun j e hj=>(h j e hj).mono hl
def W8 {sz:Nat}(E:0<sz):∀ {xs:List Value},Bm sz xs->∀ {k:Nat} {x:Value},(Bb xs)[k]?=some x->∃ j i e,k=j*sz+i/\xs[j]?=some e/\e.cells[i]?=some x
 |[],_,k,x,h=>by simp[Bb]at h
 |d::xs,ho,k,x,h=>by
  have D:=(ho d mV).1;have f:Bb (d::xs)=d.cells.toList++Bb xs:=by simp[Bb]
  rw[f,A5s]at h;split at h
  ·exact⟨0,k,d,mV,mV,by simpa using h⟩
  rename_i hk;obtain⟨j,i,e,n,A,C⟩:=W8 E (fun x F=>ho x (A01 _ F)) h;refine⟨j+1,i,e,?_,by simpa using A,C⟩;simp[D]at n hk;rw[A1m];omega
def He.cells {u:PH}{w:World}{b d sz:Nat}(D:0<sz)(h:He u b d sz xs)(C:Bm sz xs)(hp:F7 u w):∀ j v,(Bb xs)[j]?=some v->w.cell? ((⟨b,d,none⟩:Addr).add j)=some v:=by
 intro k x A;obtain⟨j,i,e,rfl,f,n⟩:=W8 D C A;rw[Eu];have:=(h j e f i x n).cell hp;rw[show d+(j*sz+i)=d+j*sz+i by omega];exact this
section rules
variable {P:Program} [A6 P] {fn:Func} {Post:Ca} {st:List KI×S} {u m:PH}
def B0 {w w':World}{K:Value->World->Prop}(h:(execOp env o).run P w=.ok (.value v) w')(d:K v w'):Ft P env o w K:=by
 unfold Ft;rw[h];exact d
theorem Es {d:Option (TypeId×Nat×Nat×Value)}(h:Bc P env o.op=.app d true xs):Na o.op=true/\E9 o.op=false/\∃ t,Ly P t=d/\∀ w,(execOp env o).run P w=((Builtin.append_ #[t,t] o.type xs.toArray).run P w).andThen fun v w'=>.ok (.value v) w':=by
 obtain⟨E,n,C,pos,e,f⟩:=o;cases n<;>simp only[Bc]at h<;>try cases h
 ·grind
 rename_i c;obtain⟨D,args,A⟩:=c;simp only at h;split at h
 ·grind
 ·split at h
  ·split at h
   ·rename_i t t' htt;simp only[Tn.app.injEq]at h;obtain⟨rfl,F,rfl⟩:=h;have:=A1u F;have j:A = #[t,t]:=by grind
    refine⟨rfl,rfl,t,rfl,fun w=>?_⟩;have:(args.map env)=(args.toList.map env).toArray:=by grind
    simp[execOp,resolve,invoke,builtin,j,this]
   cases h
  cases h
 cases h
theorem Rv {t e:TypeId}{sz bt:Nat}{z:Value}(m0:PH)(es xs:List Value)(v:Value)(b I n c:Nat)(ty:TypeId)(hi:Ly P t=some (e,sz,bt,z))(hz:z.cells.toList.all Be=true)(a2:z.cells.size=sz)(aa:0<sz)
 (V:Af m0 m v e sz es) (T:Bm sz xs) (F:xs.length=n) (a7:0<n) (hb:(es.length+n)*bt<=140737488355328) (a3:es.length+n<=9223372036854775807) {w:World} (J:Ci u m w)
 (H:∀ j v,(Bb xs)[j]?=some v->w.cell? ((⟨b,I,none⟩:Addr).add j)=some v) :
 ∃ v' w' m',(Builtin.append_ #[t,t] ty #[v,.slice (some ⟨b,I,none⟩) n c]).run P w=.ok v' w'/\Ci u m' w'/\Cn u m w u m' w'/\Af m0 m' v' e sz (es++xs):=by
 obtain⟨hu,i,N,Y,rfl,rfl⟩:=Dw hi;have C:=B7 T;have Q:=V.1.append T;rcases V.2 with ⟨rfl,rfl,rfl⟩|⟨g,cap,rest,X,rfl,rfl,a9,K,R⟩
 ·simp only[A3q,A2e]at hb a3;have U:=run_append_nil (P:=P) w t ty e i z hu N Y ⟨b,I,none⟩ n c (Bb xs) (by rw[C,F]) H a7 oV oV;have A:∀ x∈((Bb xs).toArray++Builtin.zeroCells z.cells (grownCap w n 0 e-n)).toList,Be x=true:=fun x d=>by
   simp only[A90,A04]at d;rcases d with d|d
   ·exact Gu T x d
   exact Ir hz _ x d
  obtain⟨g1,g2,g3,_⟩:=J.drew'.newM (t:=e) A;refine⟨_,_,_,U,g1,⟨g2.sz,g2.old,g2.us,g2.ms,g2.io,fun f=>⟨(g2.dr f).tape,A7o (g2.dr f).dr⟩⟩,Q,.inr ⟨w.heap.size,grownCap w n 0 e,(Builtin.zeroCells z.cells (grownCap w n 0 e-n)).toList,g3,?_,?_,?_,?_,Ir hz _⟩⟩
  ·congr 2;apply A6q;simp
  ·simp[F]
  ·simp only[A41,F];exact grownCap_ge w n 0 e
  have:=grownCap_ge w n 0 e;simp only[A41,A03,C,F,A4n,size_zeroCells,a2];rw[<-A1m];congr 1;omega
 have L:=J.pm g _ (Ac _ _ _);have E:=B7 V.1;by_cases D:es.length+n<=cap
 ·have a5:(es.length+n)*i.size<=cap*i.size:=A1x _ D;rw[A1m]at a5;have U:=run_append_room (P:=P) w t ty e i hu N g es.length cap (Bb es++rest).toArray L ⟨b,I,none⟩ n c (Bb xs) (by rw[C,F]) H (fun x d=>Ja (Gu T x d)) D (by simp only[A7k];rw[K,C,F];omega);have e1:(Bb es++rest).toArray.toList.take (es.length*i.size)=Bb es:=by
   simp only[A3v];rw[<-E,List.take_left]
  rw[e1]at U;have hd:∀ x∈(Bb es++rest).toArray.toList.drop (es.length*i.size+(Bb xs).length),Be x=true:=by
   intro x d;simp only[A3v]at d;rw[<-E,<-A31,A9i]at d;exact R x (A3w d)
  have A:∀ x∈(Bb es++Bb xs++(Bb es++rest).toArray.toList.drop (es.length*i.size+(Bb xs).length)).toArray.toList,Be x=true:=by
   intro x d;simp only[A3v]at d;rcases A04.1 d with d|d
   ·rcases A04.1 d with d|d
    ·exact Gu V.1 x d
    exact Gu T x d
   exact hd x (by simpa using d)
  obtain⟨g1,g2⟩:=J.setM (Ac _ _ _) A;rw[Ds]at g1 g2;refine⟨_,_,_,U,g1,g2,Q,.inr ⟨g,cap,_,X,by rw[Fa],by simp[F],by simp[F];exact D,?_,hd⟩⟩;rw[Fa];simp only[A03,E,C,F,A3v,A7y];simp only[A03,E]at K;omega
 have a1:∀ j v,(Bb es)[j]?=some v->w.cell? ((⟨g,0,none⟩:Addr).add j)=some v:=by
  intro j x hj;rw[Eu];simp[World.cell?,L];rw[A09 (by obtain⟨h,_⟩:=A0o.1 hj;exact h)];exact hj
 have U:=run_append_grow (P:=P) w t ty e i z hu N Y ⟨g,0,none⟩ es.length cap (Bb es) E a1 ⟨b,I,none⟩ n c (Bb xs) (by rw[C,F]) H oV oV (growslice_fits oV hb);have A:∀ x∈((Bb es).toArray++(Bb xs).toArray++Builtin.zeroCells z.cells (grownCap w (es.length+n) cap e-(es.length+n))).toList,Be x=true:=fun x d=>by
  simp only[A90,A04]at d;rcases d with (d|d)|d
  ·exact Gu V.1 x d
  ·exact Gu T x d
  exact Ir hz _ x d
 obtain⟨g1,g2,g3,_⟩:=J.drew'.newM (t:=e) A;have W:w.drew.heap.size=w.heap.size:=rfl;rw[W]at g1 g2 g3;have a8:w.heap.size≠g:=fun h=>by have:=Cf L;omega
 have a6:m0 w.heap.size=none:=by
  have:=g3;rw[Ad _ _ a8]at this;exact this
 refine⟨_,_,m0.upd w.heap.size (.cells ((Bb es).toArray++(Bb xs).toArray++Builtin.zeroCells z.cells (grownCap w (es.length+n) cap e-(es.length+n))) e (0,0)),U,g1.less (fun k o O=>?_),⟨g2.sz,g2.old,g2.us,fun k O a0=>?_,g2.io,fun f=>⟨(g2.dr f).tape,A7o (g2.dr f).dr⟩⟩,Q,.inr ⟨w.heap.size,grownCap w (es.length+n) cap e,(Builtin.zeroCells z.cells (grownCap w (es.length+n) cap e-(es.length+n))).toList,a6,?_,?_,?_,?_,Ir hz _⟩⟩
 ·by_cases Z:k=w.heap.size
  ·subst Z;rw[Ac]at O⊢;exact O
  rw[Ad _ _ Z]at O⊢;rw[Ad _ _ (fun h=>by rw[h,X]at O;cases O)];exact O
 ·rw[Ad _ _ oV];by_cases a4:k=g
  ·grind
  rw[Ad _ _ a4]at a0;exact a0
 ·congr 2;apply A6q;simp[Fa]
 ·grind
 ·simp only[A03,F];exact grownCap_ge w _ cap e
 have:=grownCap_ge w (es.length+n) cap e;rw[Fa];simp only[A03,C,E,A4n,size_zeroCells,a2];rw[<-A1m,<-A1m];congr 1;omega
theorem G.append (e:TypeId)(sz N:Nat)(z:Value)(m0:PH)(es xs:List Value)(v:Value)(b j n c:Nat)(h:Ak P (adv P st)=.app (some (e,sz,N,z)) true [v,.slice (some ⟨b,j,none⟩) n c])(hz:z.cells.toList.all Be=true)(J:z.cells.size=sz)(D:0<sz)
 (W:Af m0 m v e sz es) (hx:He u b j sz xs) (O:Bm sz xs) (Z:xs.length=n) (H:0<n) (X:(es.length+n)*N<=140737488355328) (E:es.length+n<=9223372036854775807)
 (k:∀ A f,Af m0 f A e sz (es++xs)->G P fn Post (nx (adv P st) A) u f):G P fn Post st u m:=by
 refine G.big (K:=fun A Q f=>Q=u/\Af m0 f A e sz (es++xs)) h mV (fun env L I=>(Es (P:=P) (o:=⟨none,L,0, "",#[],none⟩) I).2.1) (.inr fun env L I=>(Es (P:=P) (o:=⟨none,L,0, "",#[],none⟩) I).1) (fun env o d w C=>?_) (fun A Q f _ hk=>?_)
 ·obtain⟨_,_,t,Y,F⟩:=Es (P:=P) d;obtain⟨A,w',f,R,T,U,V⟩:=Rv (P:=P) m0 es xs v b j n c o.type Y hz J D W O Z H X E C (hx.cells D O C.pu);exact B0 (by rw[F,R];rfl) ⟨u,f,T,U,rfl,V⟩
 grind
end rules
end
section
variable [Cj] [Pu] [Dd]
variable {P:Program} [A6 P] {fn:Func} {Post:Ca} {st:List KI×S} {u m:PH}
def G.k (e:TypeId)(sz bt:Nat)(z:Value)(m0:PH)(es xs:List Value)(v:Value)(b off n c:Nat)(ha:Af m0 m v e sz es)(hx:He u b off sz xs)(ho:Bm sz xs)(k:∀ v' m',Af m0 m' v' e sz (es++xs)->G P fn Post (nx (adv P st) v') u m')(h:Ak P (adv P st)=.app (some (e,sz,bt,z)) true [v,.slice (some ⟨b,off,none⟩) n c]:=by kernel_rfl)(hz:z.cells.toList.all Be=true:=by rfl)(hzs:z.cells.size=sz:=by rfl)(hsz:0<sz:=by omega)(hn:xs.length=n:=by rfl)(hn0:0<n:=by omega)(hb:(es.length+n)*bt<=140737488355328:=by simp;omega)(hb2:es.length+n<=9223372036854775807:=by simp;omega):G P fn Post st u m:=G.append e sz bt z m0 es xs v b off n c h hz hzs hsz ha hx ho hn hn0 hb hb2 k
end
section
variable {c j n sz:Nat}{e x y:Value}{env:Operand->Value}{es:List Value}{inf:Option (TypeId×Nat×Nat×Value)}{m0:PH}{o:Op}{t:TypeId}
variable [Cj] [Dd] [Pu]
section fill
def Rs {p:Value->Bool}{sz:Nat}:∀ (es:List Value) (k:Nat) (cells:Array Value),Y2 p sz es->(k+es.length)*sz<=cells.size ->
 Instr.fill (fun i=>some (i*sz,sz)) cells (es.zipIdx k |>.map fun p=>(p.2,p.1))=some (cells.toList.take (k*sz)++Bb es++cells.toList.drop ((k+es.length)*sz)).toArray
 |[],k,cells,_,h=>by simp[Instr.fill,Bb]
 |e::es,k,cells,ho,h=>by
  have d:=(ho e mV).1;have f:Y2 p sz es:=fun x D=>ho x (A01 _ D);have z:(k+(es.length+1))*sz=k*sz+sz+es.length*sz:=by rw[A1m,A1m];omega
  simp only[A1y]at h;rw[z]at h;simp only[List.zipIdx_cons,A1t];rw[Aar _ _ _ (k*sz) sz _ _ rfl d oV];rw[Rs es (k+1) _ f (by simp[d];rw[A1m,A1m];omega)]
  congr 2
  have g:(cells.toList.take (k*sz)++e.cells.toList).length=(k+1)*sz:=by simp[d,A1m];omega
  have A:(cells.toList.take (k*sz)++e.cells.toList++cells.toList.drop (k*sz+sz)).toArray.toList.take ((k+1)*sz)=cells.toList.take (k*sz)++e.cells.toList:=by
   simp only[A3v];rw[<-g,List.take_left]
  have C:(cells.toList.take (k*sz)++e.cells.toList++cells.toList.drop (k*sz+sz)).toArray.toList.drop ((k+1+es.length)*sz)=cells.toList.drop ((k+(es.length+1))*sz):=by
   simp only[A3v];rw[show (k+1+es.length)*sz=(k+1)*sz+es.length*sz by rw[A1m],<-g,<-A31,A9i,A31]
   congr 1;rw[z]
  rw[A,C];simp[Bb]
end fill
section rules
variable {P:Program} [A6 P] {fn:Func} {Post:Ca} {st:List KI×S} {u m:PH}
theorem Ef {d:List (Nat×Value)}(h:Bc P env o=.buildS inf n d):∃ t qs,o=.buildSlice t n qs/\(qs.map fun (i,x)=>(i,env x))=d.toArray/\Ly P t=inf:=by
 cases o<;>simp only[Bc]at h<;>try cases h
 any_goals ((repeat' split at h)<;>cases h;done)
 grind
theorem Zk (h:Bc P env o=.make inf x y):∃ t X Y,o=.makeSlice t X Y/\env X=x/\env Y=y/\Ly P t=inf:=by
 cases o<;>simp only[Bc]at h<;>try cases h
 any_goals ((repeat' split at h)<;>cases h;done)
 grind
theorem Hj {sz:Option Nat}(h:Bc P env o=.store sz x y):∃ t X Y,o=.store t X Y/\env X=x/\env Y=y/\szB P t=sz:=by
 cases o<;>simp only[Bc]at h<;>try cases h
 any_goals ((repeat' split at h)<;>cases h;done)
 grind
theorem G.buildW {p:Value->Bool}(e:TypeId)(sz V:Nat)(z:Value)(es:List Value)(h:Ak P (adv P st)=.buildS (some (e,sz,V,z)) es.length (es.zipIdx.map fun p=>(p.2,p.1)))(L:Y2 p sz es)(a1:z.cells.size=sz)(N:0<sz)(I:0<es.length)(hb:es.length*sz<=16777216)
 (k:∀ g A,PH.le u A->He A g 0 sz es->G P fn Post (nx (adv P st) (.slice (some ⟨g,0,none⟩) es.length es.length)) A m):G P fn Post st u m:=by
 refine G.big (K:=fun U A O=>O=m/\∃ g,U=.slice (some ⟨g,0,none⟩) es.length es.length/\He A g 0 sz es) h mV (fun env op hv=>?_) (.inl fun v A O R=>by rw[R.1];exact PH.le_refl _) (fun env o f w E=>?_) (fun U A O a0 R=>?_)
 ·obtain⟨t,qs,rfl,_⟩:=Ef hv;rfl
 ·obtain⟨t,qs,Q,Y,hi⟩:=Ef f;obtain⟨W,a2,T,pos,C,D⟩:=o;simp only at Q;subst Q;obtain⟨hu,i,F,H,rfl,rfl⟩:=Dw hi;obtain⟨g1,g2,g3,g4⟩:=E.newU (.cells (Bb es).toArray e (0,0));have Z:=B7 L;have J:es.length*i.size≠0:=by have:=A5e I N;omega
  have d:=Rs es 0 ((Array.range (es.length*i.size)).map (z.cells[· % z.cells.size]!)) L mV;have X:((Array.range (es.length*i.size)).map (z.cells[· % z.cells.size]!)).toList.drop (es.length*i.size) = []:=by grind
  simp only[A2e,X]at d;refine B0 (w':=w.alloc (.cells (Bb es).toArray e (0,0))) (v:=.slice (some ⟨w.heap.size,0,none⟩) es.length es.length) ?_ ⟨_,m,g1,g2,rfl,_,rfl,?_⟩
  ·simp only[execOp,Y];simp[Instr.buildSlice,run_underlying hu,sizeOf,typeInfo,zeroValue,F,H,J,d,newRow,show ¬ 16777216<es.length*i.size by omega]
  intro j x hj ii y hy;refine⟨_,_,_,Ac _ _ _,?_⟩;rw[A2x,A2e];exact Jd L hj hy
 grind
def G.buildU (e:TypeId)(sz D:Nat)(z:Value)(es:List Value)(h:Ak P (adv P st)=.buildS (some (e,sz,D,z)) es.length (es.zipIdx.map fun p=>(p.2,p.1)))(F:Bm sz es)(A:z.cells.size=sz)(f:0<sz)(d:0<es.length)(E:es.length*sz<=16777216)
 (k:∀ g C,PH.le u C->He C g 0 sz es->G P fn Post (nx (adv P st) (.slice (some ⟨g,0,none⟩) es.length es.length)) C m):G P fn Post st u m:=G.buildW e sz D z es h F A f d E k
theorem G.make (e : TypeId) (sz bt : Nat) (z : Value) (n : Nat) (h : Ak P (adv P st) = .make (some (e, sz, bt, z)) (.int .i64 (n : Int)) (.int .i64 (n : Int))) (hz : z.cells.toList.all Be = true) (hzs : z.cells.size = sz) (hsz : 0 < sz)
    (hb : bt * n ≤ 281474976710656) (hb2 : n ≤ 9223372036854775807) (k : ∀ v' m', Af m m' v' e sz (List.replicate n z) → (∃ a, v' = .slice (some a) n n) → G P fn Post (nx (adv P st) v') u m') : G P fn Post st u m := by
  refine G.big (K := fun v' u' m' => u' = u ∧ PH.le m m' ∧ Af m m' v' e sz (List.replicate n z) ∧ ∃ a, v' = .slice (some a) n n) h mV (fun env op hv => by obtain ⟨t, X, Y, rfl, _⟩ := Zk hv; rfl) (.inl fun v u' m' hk => hk.2.1) (fun env o hview w hgd => ?_) (fun v' u' m' hle hk => ?_)
  · obtain ⟨t, X, Y, e1, e2, e3, hi⟩ := Zk hview
    obtain ⟨dst, opp, type, pos, after, guard⟩ := o
    simp only at e1; subst e1
    obtain ⟨hu, i, hi1, hi2, rfl, rfl⟩ := Dw hi
    have hb' : (i.bytes : Int) * (n : Int) ≤ 281474976710656 := by have : ((i.bytes * n : Nat) : Int) ≤ 281474976710656 := by omega
                                                                   rwa [A3x] at this
    have hr := run_make (P := P) w t e i z hu hi1 hi2 .i64 .i64 n n oV (Int.le_refl _) hb' oV
    obtain ⟨g1, g2, g3, g4⟩ := hgd.newM (t := e) (Acv hz (n * i.size) oV)
    have hok : Bm i.size (List.replicate n z) := fun x hx => by
      rw [A66 hx]
      exact ⟨hzs, fun y hy => by rw [A06] at hz; exact hz y hy⟩
    have hflat : (Bb (List.replicate n z)).toArray = madeCells z.cells (n * i.size) := by
      apply Array.ext
      · rw [size_madeCells, A7k, B7 hok, A2z]
      · intro j h1 h2
        rw [size_madeCells] at h2
        have hlt : j % i.size < i.size := A2l _ hsz
        have hq : j / i.size < n := (A2o hsz).2 h2
        have hget := Jd hok (j := j / i.size) (i := j % i.size) (e := z) (x := z.cells[j % i.size]'oV) (by simp [hq]) mV
        rw [show j / i.size * i.size + j % i.size = j by rw [A1r]; exact A2u _ _] at hget
        have : (Bb (List.replicate n z)).toArray[j]? = some z.cells[j % i.size] := by grind
        rw [A15 h1] at this
        have h3 := A2k this
        rw [h3]
        simp only [madeCells, Array.getElem_map, Array.getElem_range, hzs]
        rw [getElem!_pos z.cells _ oV]
    refine B0 (w' := w.alloc (.cells (madeCells z.cells (n * i.size)) e (0, 0))) (v := .slice (some ⟨w.heap.size, 0, none⟩) n n) ?_ ⟨u, _, g1, g2, rfl, I9 _ g3, ⟨hok, .inr ⟨w.heap.size, n, [], g3, ?_, by simp, by simp, ?_, by simp⟩⟩, _, rfl⟩
    · simp only [execOp, e2, e3]
      simp [hr]
    · grind
    · rw [A1i, B7 hok, A2z]
  · grind
def Adw {sz:Nat}:∀ {es:List Value} {j:Nat} {e:Value},Bm sz es->e.cells.size=sz->j<es.length->Bb (es.set j e)=(Bb es).take (j*sz)++e.cells.toList++(Bb es).drop (j*sz+sz)
 |[],j,e,_,_,h=>by simp at h
 |d::es,j,e,ho,he,h=>by
  have z:=(ho d mV).1;have f:∀ d (l:List Value),Bb (d::l)=d.cells.toList++Bb l:=fun d l=>by simp[Bb]
  cases j with
  |zero =>
   rw[A2y,f,f];have:d.cells.toList.length=sz:=by simpa using z
   simp only[A42,A5y,A41,A2e];rw[<-this,A9i]
  |succ j =>
   rw[A2s,f,f,Adw (sz:=sz) (fun x F=>ho x (A01 _ F)) he (by simpa using h)];have g:d.cells.toList.length=sz:=by simpa using z
   rw[List.take_append,List.drop_append,g];have A:(j+1)*sz-sz=j*sz:=by rw[A1m];omega
   have C:(j+1)*sz+sz-sz=j*sz+sz:=by rw[A1m];omega
   have D:d.cells.toList.take ((j+1)*sz)=d.cells.toList:=A00 (by rw[g,A1m];omega);have E:d.cells.toList.drop ((j+1)*sz+sz) = []:=A9d (by rw[g,A1m];omega);rw[A,C,D,E];simp
def Bm.set (h:Bm sz es)(f:e.cells.size=sz/\∀ x∈e.cells.toList,Be x=true):Bm sz (es.set j e):=by
 intro x d;rcases A8s d with d|rfl
 ·exact h x d
 exact f
theorem G.storeA {t:TypeId}(sz:Nat)(m0:PH)(es:List Value)(b n c j:Nat)(e:Value)(h:Ak P (adv P st)=.store (some sz) (.pointer (some ⟨b,0+j*sz,none⟩)) e)(R:Af m0 m (.slice (some ⟨b,0,none⟩) n c) t sz es)(hj:j<es.length)(L:e.cells.size=sz)(V:e.cells.toList.all Be=true)
 (k:∀ O,Af m0 O (.slice (some ⟨b,0,none⟩) n c) t sz (es.set j e)->G P fn Post (nx (adv P st) undef) u O):G P fn Post st u m:=by
 refine G.big (K:=fun v' u' O=>u'=u/\v'=undef/\Af m0 O (.slice (some ⟨b,0,none⟩) n c) t sz (es.set j e)) h mV (fun env op I=>?_) (.inr fun env op I=>?_) (fun env o H w N=>?_) (fun v' u' O _ hk=>?_)
 ·obtain⟨t',X,Y,rfl,_⟩:=Hj I;rfl
 ·obtain⟨t',X,Y,rfl,_⟩:=Hj I;rfl
 ·obtain⟨t',X,Y,e1,e2,e3,ht⟩:=Hj H;obtain⟨U,a3,Q,pos,A,C⟩:=o;simp only at e1;subst e1;rw[A06]at V;rcases R.2 with ⟨I,_⟩|⟨g,cap,rest,a0,rfl,I,J,z,d⟩
  ·grind
  obtain⟨rfl,rfl,rfl⟩:=I;have a1:=N.pm b _ (Ac _ _ _);have Z:=B7 R.1;have a2:j*sz+sz<=es.length*sz:=by
   have:=A1x sz (show j+1<=es.length by omega);rw[A1m]at this;omega
  have F:=run_storeCells_at P b (j*sz) t e.cells.toList 0 (Bb es++rest).toArray w a1 (by simp[L];omega) (fun x T=>Ja (V x T));simp only[A2w,A4n,L]at F;have f:(Bb es++rest).take (j*sz)++e.cells.toList++(Bb es++rest).drop (j*sz+sz)=Bb (es.set j e)++rest:=by
   rw[Adw R.1 L hj,A47 oV,List.drop_append_of_le_length oV];simp
  rw[f]at F;have E:=R.1.set (j:=j) (e:=e) ⟨L,V⟩;have D:∀ x∈(Bb (es.set j e)++rest).toArray.toList,Be x=true:=by
   intro x T;simp only[A04]at T;exact T.elim (Gu E x) (d x)
  obtain⟨g1,g2⟩:=N.setM (Ac _ _ _) D;rw[Ds]at g1 g2;unfold Ft;have W:(execOp env ⟨U,.store t' X Y,Q,pos,A,C⟩).run P w=.ok .skip (w.setRow b (Bb (es.set j e)++rest).toArray):=by
   simp only[execOp,e2,e3];simp[Instr.storeAt,Instr.sureAddr,storeVar,Bg ht,L,F]
  rw[W];refine⟨u,_,g1,g2,rfl,rfl,E,.inr ⟨b,c,rest,a0,rfl,mV,by simpa using J,?_,d⟩⟩;simp only[A03,B7 E,A3r,Z]at z⊢;exact z
 grind
theorem Af.el {b n c j:Nat}(f:Af m0 m (.slice (some ⟨b,0,none⟩) n c) t sz es)(E:es[j]?=some e):ElP m b (0+j*sz) e:=by
 rcases f.2 with ⟨C,_⟩|⟨g,cap,rest,D,rfl,C,z,A,d⟩
 ·grind
 obtain⟨rfl,rfl,rfl⟩:=C;intro i x F;refine⟨_,_,_,Ac _ _ _,?_⟩;rw[A2x,A2e];have:=Jd f.1 E F;rw[A09 (by obtain⟨h,_⟩:=A0o.1 this;exact h)];exact this
theorem Af.len {a:Option Addr}(d:Af m0 m (.slice a n c) t sz es):n=es.length:=by
 rcases d.2 with ⟨h,rfl,_⟩|⟨g,cap,rest,f,rfl,h,_⟩
 ·grind
 grind
theorem Af.ptr {v:Value}(d:Af m0 m v t sz es)(h:es≠[]):∃ b c,v=.slice (some ⟨b,0,none⟩) es.length c:=by
 rcases d.2 with ⟨_,rfl,_⟩|⟨g,cap,rest,f,rfl,z,_⟩
 ·grind
 grind
def Ab (u:PH)(v:Value)(sz:Nat)(es:List Value):Prop:=∃ a c,v=.slice a es.length c/\es.length<=c/\∀ j e,es[j]?=some e->∃ b off,a=some ⟨b,off,none⟩/\ElP u b (off+j*sz) e
def Ab.mono {u u':PH}{v:Value}{sz:Nat}{es:List Value}(h:Ab u v sz es)(hl:PH.le u u'):Ab u' v sz es:=by
 obtain⟨a,c,h1,h2,h3⟩:=h;exact⟨a,c,h1,h2,fun j e hj=>by obtain⟨b,off,e1,e2⟩:=h3 j e hj;exact⟨b,off,e1,e2.mono hl⟩⟩
def Ab.nil (u:PH)(a:Option Addr)(c sz:Nat):Ab u (.slice a 0 c) sz []:=⟨a,c,rfl,A1c _,fun j e h=>by simp at h⟩
theorem G.give (m0:PH)(es:List Value)(v:Value)(h:G2 (ctl P 100 st).1=true)(W:Af m0 m v t sz es)(h0:∀ g,Post.m0 g=none\/m0 g≠none)(k:∀ V,PH.le u V->Ab V v sz es->G P fn Post (ctl P 100 st) V m0):G P fn Post st u m:=by
 refine⟨Ll 100 st ?_⟩;rcases W.2 with ⟨rfl,rfl,rfl⟩|⟨g,cap,rest,F,rfl,rfl,E,X,R⟩
 ·exact (k u (PH.le_refl _) (Ab.nil _ _ _ _)).out
 have N:∀ o,u g=none->PH.le u (u.upd g o):=fun o T=>I9 o T;rw[Sym.ofNo h];intro c ρ a w I d;have H:=d.gd.pm g _ (Ac _ _ _);have U:u g=none:=by
  rcases d.gd.ap g with e|e
  ·exact e
  rw[Ac]at e;cases e
 have Y:c.w0.heap.size<=g:=by
  rcases A16 g c.w0.heap.size with O|a0
  ·have Q:c.m0 g=none:=by
    rw[I];rcases h0 g with e|e
    ·exact e
    exact absurd F e
   have:=d.gr.ms g O Q;rw[Ac]at this;cases this
  grind
 have K:=k (u.upd g (.cells (Bb es++rest).toArray t (0,0))) (N _ U) ⟨_,_,rfl,E,fun j e L=>⟨g,0,rfl,fun i x hx=>⟨_,_,_,Ac _ _ _,by
  rw[A2x,A2e];have:=Jd W.1 L hx;rw[A09 (by obtain⟨h,_⟩:=A0o.1 this;exact h)];exact this⟩⟩⟩
 have K:=K.out;rw[Sym.ofNo h]at K;refine K c ρ a w I ⟨d.sz,d.tm,d.df.of fun r e _ T D=>(by
  have C:r≠g:=fun e'=>(by rw[e',Ac]at D;cases D);rw[Ad _ _ C]at D;exact⟨e,by rw[Ad _ _ C];exact T,D⟩),fun Z b hb=>?_,d.inj,d.lv,⟨fun A o f=>?_,fun A o f=>?_,fun A=>?_,fun A cs t' fr j z f L=>?_⟩,⟨d.gr.sz,d.gr.old,fun A f=>?_,fun A f D=>?_,d.gr.io,d.gr.dr⟩⟩
 ·obtain⟨e1,e2,e3,J⟩:=d.box Z b hb;have C:ρ Z≠g:=fun e=>by rw[e,Ac]at J;cases J
  refine⟨e1,e2,by rw[Ad _ _ C];exact e3,?_⟩;rw[Ad _ _ C]at J;exact J
 ·by_cases e:A=g
  ·subst e;rw[Ac]at f;rw[H];exact f
  rw[Ad _ _ e]at f;exact d.gd.pu A o f
 ·refine d.gd.pm A o ?_;rw[Ad _ _ (fun e=>by rw[e,F]at f;cases f)];exact f
 ·by_cases e:A=g
  ·grind
  rw[Ad _ _ e];have:=d.gd.ap A;rw[Ad _ _ e]at this;exact this
 ·by_cases e:A=g
  ·subst e;rw[Ac,<-H];exact f
  rw[Ad _ _ e];exact d.gd.cl A cs t' fr j z f L
 ·rw[Ad _ _ oV];exact d.gr.us A f
 have:=d.gr.ms A f D;rw[Ad _ _ oV]at this;exact this
end rules
end
section
variable [Cj] [Pu] [Dd]
variable {P:Program} [A6 P] {fn:Func} {Post:Ca} {st:List KI×S} {u m:PH}
def G.B (e:TypeId)(sz bt:Nat)(z:Value)(es:List Value)(ho:Bm sz es)(k:∀ g u',PH.le u u'->He u' g 0 sz es->G P fn Post (nx (adv P st) (.slice (some ⟨g,0,none⟩) es.length es.length)) u' m)(h:Ak P (adv P st)=.buildS (some (e,sz,bt,z)) es.length (es.zipIdx.map fun p=>(p.2,p.1)):=by kernel_rfl)(hzs:z.cells.size=sz:=by rfl)(hsz:0<sz:=by omega)(hn0:0<es.length:=by simp)(hb:es.length*sz<=16777216:=by simp):G P fn Post st u m:=G.buildU e sz bt z es h ho hzs hsz hn0 hb k
end
section
variable {a:Option Addr}{c n:Nat}{env:Operand->Value}{l:List Nat}{o:Op}
variable [Cj] [Dd] [Pu]
section rules
variable {P:Program} [A6 P] {fn:Func} {Post:Ca} {st:List KI×S} {u m:PH}
def Jr {sz:Option Nat}{x:Value}{e d f:Option Value}(h:Bc P env o=.slice sz x e d f):∃ t X L H M,o=.slice t X L H M/\env X=x/\L.map env=e/\H.map env=d/\M.map env=f/\Nf P t=sz:=by
 cases o<;>simp only[Bc]at h<;>try cases h
 any_goals ((repeat' split at h)<;>cases h;done)
 exact⟨_,_,_,_,_,rfl,rfl,rfl,rfl,rfl,rfl⟩
def Y8 (a:Option Addr):a.map (·.add 0)=a:=by cases a<;>rfl
def G.sliceTo (sz:Nat)(a:Option Addr)(n c k:Nat)(h:Ak P (adv P st)=.slice (some sz) (.slice a n c) none (some (.int .i64 k)) none)(O:k<=c)
 (g:G P fn Post (nx (adv P st) (.slice a k c)) u m):G P fn Post st u m:=by
 refine G.ask h mV (fun env o f w hp=>?_) g;obtain⟨t,X,L,H,M,A,E,F,I,J,d⟩:=Jr f;obtain⟨D,N,C,pos,j,z⟩:=o;simp only at A;subst A;unfold Nf at d;split at d
 ·rename_i e hu;have K:(0:Int)<=k/\(k:Int)<=c:=oV;simp only[execOp,E,F,I,J];simp only[Instr.sliceAt,Sem.run_bind,run_underlying hu,Result.andThen_ok,Instr.slice,Instr.sliceBounds,Instr.sliceBound,asIntOf,Sem.run_pure,if_true,Option.isSome,Sem.run_ite,Bg d,K,and_self,A2r,A42,Y8,A68];simp
 cases d
def G.sliceFrom (b j n c k sz:Nat)(h:Ak P (adv P st)=.slice (some sz) (.slice (some ⟨b,j,none⟩) n c) (some (.int .i64 k)) none none)(T:k<=n)(R:k<c)
 (g:G P fn Post (nx (adv P st) (.slice (some ⟨b,j+k*sz,none⟩) (n-k) (c-k))) u m):G P fn Post st u m:=by
 refine G.ask h mV (fun env o f w hp=>?_) g;obtain⟨t,X,L,H,M,C,F,I,J,K,d⟩:=Jr f;obtain⟨E,Q,D,pos,z,A⟩:=o;simp only at C;subst C;unfold Nf at d;split at d
 ·rename_i e hu;have N:(0:Int)<=k/\(k:Int)<=n:=oV;have O:¬ (c=k):=oV;simp only[execOp,F,I,J,K];simp only[Instr.sliceAt,Sem.run_bind,run_underlying hu,Result.andThen_ok,Instr.slice,Instr.sliceBounds,Instr.sliceBound,asIntOf,Sem.run_pure,if_true,Option.isSome,Sem.run_ite,Bg d,N,and_self,A2r,O,if_false,A3g,Eu]
 cases d
def G.quo (x y z:Int)(h:Ak P (adv P st)=.bin .quo (.int .i64 x) (.int .i64 y))(d:0<=x)(j:x<=9223372036854775807)(D:0<y)(e:x/y=z)
 (k:G P fn Post (nx (adv P st) (.int .i64 z)) u m):G P fn Post st u m:=by
 refine G.bin _ h Dq (fun t w=>?_) k;have f:x.tdiv y=z:=by rw[A3i d];exact e
 have A:0<=z:=by rw[<-e];exact A79 d oV
 have C:z<=x:=by rw[<-e];exact A80 _ d
 have g:¬ y=0:=oV
 simp[binOp,Op.intDiv,g,f,Fx (z:=z) oV oV]
def G.rem (x y z:Int)(h:Ak P (adv P st)=.bin .rem (.int .i64 x) (.int .i64 y))(g:0<=x)(e:x<=9223372036854775807)(j:0<y)(d:x%y=z)
 (k:G P fn Post (nx (adv P st) (.int .i64 z)) u m):G P fn Post st u m:=by
 refine G.bin _ h Dq (fun t w=>?_) k;have A:x.tmod y=z:=by rw[A5p g];exact d
 have f:¬ y=0:=oV
 have C:0<=z:=by rw[<-d];exact Int.emod_nonneg _ f
 have D:z<=x:=by rw[<-d];have:=A9h x y;have E:=Int.mul_nonneg (A96 j) (A79 g (A96 j));omega
 simp[binOp,Op.intDiv,f,A,Fx (z:=z) oV oV]
def X9 {d:BinOp}{x y:Bool}(t:TypeId)(X Y:Operand)(w:World):(eqGuard d t X Y (.bool x) (.bool y)).run P w=.ok () w:=by
 unfold eqGuard;split<;>simp
def Aj8 {t:TypeId}(d:P.underlying t=some .bool)(x y:Bool)(w:World):(Op.equal t (.bool x) (.bool y)).run P w=.ok (x==y) w:=by
 unfold Op.equal;rw[show Op.maxDepth=9999+1 from rfl,Op.equalIn];simp[run_underlying d]
def G.eqB (x y:Bool)(h:Ak P (adv P st)=.binT .eql (some .bool) (.bool x) (.bool y))(k:G P fn Post (nx (adv P st) (.bool (x==y))) u m):G P fn Post st u m:=by
 refine G.ask h mV (fun env o d w _=>?_) k;obtain⟨t,X,Y,F,e,A,C,D⟩:=Lg d;obtain⟨z,E,j,pos,f,g⟩:=o;simp only at e;subst e;simp[execOp,A,C,X9,binOp,Aj8 D]
def G.neB (x y:Bool)(h:Ak P (adv P st)=.binT .neq (some .bool) (.bool x) (.bool y))(k:G P fn Post (nx (adv P st) (.bool (!(x==y)))) u m):G P fn Post st u m:=by
 refine G.ask h mV (fun env o d w _=>?_) k;obtain⟨t,X,Y,F,e,A,C,D⟩:=Lg d;obtain⟨z,E,j,pos,f,g⟩:=o;simp only at e;subst e;simp[execOp,A,C,X9,binOp,Aj8 D]
def Ai (l:List Nat):List Value:=l.map fun (n:Nat)=>Value.int .i64 n
def Cs (u:PH)(v:Value)(l:List Nat):Prop:=Ab u v 1 (Ai l)
def Am (l:List Nat):(Ai l).length=l.length:=by simp[Ai]
def Cs.mono {u u':PH}{v:Value}{l:List Nat}(h:Cs u v l)(hl:PH.le u u'):Cs u' v l:=Ab.mono h hl
def Cs.opn {u:PH}{v:Value}(h:Cs u v l):∃ a c,v=.slice a l.length c/\l.length<=c:=by
 obtain⟨a,c,d,e,_⟩:=h;rw[Am]at d e;exact⟨a,c,d,e⟩
def Cs.len {u:PH}(h:Cs u (.slice a n c) l):n=l.length/\l.length<=c:=by
 obtain⟨f,g,d,e⟩:=h.opn;simp at d;obtain⟨_,rfl,rfl⟩:=d;exact⟨rfl,e⟩
def Cs.at {u:PH}{a:Option Addr}{n c:Nat}{l:List Nat}(h:Cs u (.slice a n c) l){j:Nat}(g:j<l.length):∃ b d,a=some ⟨b,d,none⟩/\ElP u b (d+j*1) (.int .i64 (l.getD j 0:Nat)):=by
 obtain⟨t,z,e,A,f⟩:=h;simp at e;obtain⟨rfl,_,rfl⟩:=e;exact f j _ (by simp[Ai,g])
def Cs.take {u:PH}(h:Cs u (.slice a n c) l)(k:Nat)(C:k<=l.length):Cs u (.slice a k c) (l.take k):=by
 obtain⟨z,A,f,g,t⟩:=h;simp at f;obtain⟨rfl,_,rfl⟩:=f;rw[Am]at g;refine⟨a,c,by simp[Ai];omega,by simp[Ai];omega,fun j e d=>?_⟩;refine t j e ?_;simp only[Ai,A37,A3f]at d⊢;split at d
 ·exact d
 cases d
def Np {b:Builtin}{ts:List TypeId}{xs:List Value}(h:Bc P env o=.blt b ts xs):∃ c,o=.call c/\c.callee=.builtin b/\c.argTypes=ts.toArray/\(c.args.map env)=xs.toArray:=by
 cases o<;>simp only[Bc]at h<;>try cases h
 ·split at h<;>cases h
 split at h
 ·split at h<;>cases h
 ·rename_i c b' hc;split at h
  ·split at h<;>cases h
  simp only[Tn.blt.injEq]at h;obtain⟨rfl,rfl,rfl⟩:=h;exact⟨_,rfl,hc,mV,by apply A6q;simp⟩
 cases h
def G.minI (ts:List TypeId)(x y z:Int)(h:Ak P (adv P st)=.blt .min ts [.int .i64 x,.int .i64 y])(E:min x y=z)(k:G P fn Post (nx (adv P st) (.int .i64 z)) u m):G P fn Post st u m:=by
 refine G.ask h mV (fun env o d w _=>?_) k;obtain⟨c,g,A,H,C⟩:=Np d;obtain⟨t,F,j,pos,e,f⟩:=o;simp only at g;subst g;subst E;have D:(if y<x then y else x)=min x y:=by split<;>omega
 simp[execOp,resolve,A,invoke,builtin,C,Builtin.min_,Builtin.min2,D]
def G.maxI (ts:List TypeId)(x y z:Int)(h:Ak P (adv P st)=.blt .max ts [.int .i64 x,.int .i64 y])(E:max x y=z)(k:G P fn Post (nx (adv P st) (.int .i64 z)) u m):G P fn Post st u m:=by
 refine G.ask h mV (fun env o d w _=>?_) k;obtain⟨c,g,A,H,C⟩:=Np d;obtain⟨t,F,j,pos,e,f⟩:=o;simp only at g;subst g;subst E;have D:(if x<y then y else x)=max x y:=by split<;>omega
 simp[execOp,resolve,A,invoke,builtin,C,Builtin.max_,Builtin.max2,D]
def G.appendNil (e:TypeId)(sz F:Nat)(z:Value)(a:Option Addr)(c:Nat)(h:Ak P (adv P st)=.app (some (e,sz,F,z)) true [.slice none 0 0,.slice a 0 c])
 (k:G P fn Post (nx (adv P st) (.slice none 0 0)) u m):G P fn Post st u m:=by
 refine G.big (K:=fun E D C=>D=u/\C=m/\E=.slice none 0 0) h mV (fun env R Q=>(Es (P:=P) (o:=⟨none,R,0, "",#[],none⟩) Q).2.1) (.inl fun v D C A=>by rw[A.2.1];exact PH.le_refl _) (fun env o d w g=>?_) (fun E D C _ A=>?_)
 ·obtain⟨_,_,t,H,f⟩:=Es (P:=P) d;obtain⟨O,i,j,I,J,L⟩:=Dw H;have N:(Builtin.append_ #[t,t] o.type #[.slice none 0 0,.slice a 0 c]).run P w=.ok (.slice none 0 0) w:=by
   cases a<;>simp[Builtin.append_,run_underlying O,sizeOf,typeInfo,j,Builtin.lenOf,Builtin.firstCells,loadCells,loadCellsFrom]
  exact B0 (by rw[f,N];rfl) ⟨u,m,g,Cn.refl _ _ _,rfl,rfl,rfl⟩
 obtain⟨rfl,rfl,rfl⟩:=A;exact k
def Er (l:List Int):List Value:=l.map fun (n:Int)=>Value.int .i64 n
def Ch (l:List Int):(Er l).length=l.length:=by simp[Er]
def Yv (l:List Int):Bm 1 (Er l):=by
 intro e d;simp only[Er,A0r]at d;obtain⟨n,_,rfl⟩:=d;simp[Value.cells,Be]
def Kz (l:List Int)(j:Nat)(d:Int):(Er l).set j (.int .i64 d)=Er (l.set j d):=by simp[Er,A10]
def Sn (l:List Nat):Er (l.map fun (n:Nat)=>(n:Int))=Ai l:=by simp[Er,Ai]
def A4 (l:List Nat):Bm 1 (Ai l):=by rw[<-Sn];exact Yv _
def Cs.els {u:PH}{b d n c:Nat}(h:Cs u (.slice (some ⟨b,d,none⟩) n c) l):He u b d 1 (Ai l):=by
 obtain⟨D,E,g,F,A⟩:=h;simp at g;obtain⟨rfl,_,rfl⟩:=g;intro j e C;obtain⟨b',t,f,z⟩:=A j e C;simp at f;obtain⟨rfl,rfl⟩:=f;exact z
end rules
end
section
variable [Cj] [Dd] [Pu]
section rules
variable {P:Program} [A6 P] {fn:Func} {Post:Ca} {st:List KI×S} {u m:PH}
def Ab.els {sz:Nat}{es:List Value}{b d n c:Nat}(h:Ab u (.slice (some ⟨b,d,none⟩) n c) sz es):He u b d sz es:=by
 obtain⟨D,E,g,F,A⟩:=h;simp at g;obtain⟨rfl,_,rfl⟩:=g;intro j e C;obtain⟨b',t,f,z⟩:=A j e C;simp at f;obtain⟨rfl,rfl⟩:=f;exact z
def G.append0 (e:TypeId)(sz J:Nat)(z:Value)(a f:Option Addr)(n c H:Nat)(h:Ak P (adv P st)=.app (some (e,sz,J,z)) true [.slice a n c,.slice f 0 H])(L:n<=c)
 (k:G P fn Post (nx (adv P st) (.slice a n c)) u m):G P fn Post st u m:=by
 refine G.big (K:=fun I F E=>F=u/\E=m/\I=.slice a n c) h mV (fun g W V=>(Es (P:=P) (o:=⟨none,W,0, "",#[],none⟩) V).2.1) (.inl fun v F E D=>by rw[D.2.1];exact PH.le_refl _) (fun g o d w A=>?_) (fun I F E _ D=>?_)
 ·obtain⟨_,_,t,N,j⟩:=Es (P:=P) d;obtain⟨U,i,C,O,Q,R⟩:=Dw N;have T:(Builtin.append_ #[t,t] o.type #[.slice a n c,.slice f 0 H]).run P w=.ok (.slice a n c) w:=by
   cases a<;>cases f<;>simp[Builtin.append_,run_underlying U,sizeOf,typeInfo,C,Builtin.lenOf,Builtin.firstCells,loadCells,loadCellsFrom,L,storeCells]
  exact B0 (by rw[j,T];rfl) ⟨u,m,A,Cn.refl _ _ _,rfl,rfl,rfl⟩
 obtain⟨rfl,rfl,rfl⟩:=D;exact k
def G.appendU (e:TypeId)(sz bt:Nat)(z:Value)(es xs:List Value)(a:Option Addr)(V b d n c:Nat)(h:Ak P (adv P st)=.app (some (e,sz,bt,z)) true [.slice a V V,.slice (some ⟨b,d,none⟩) n c])(U:0<sz)
 (ha:Ab u (.slice a V V) sz es) (H:Bm sz es) (hx:He u b d sz xs) (ho:Bm sz xs) (R:xs.length=n) (a2:0<n) (hb:(es.length+n)*bt<=140737488355328) (Y:es.length+n<=9223372036854775807)
 (k:∀ L C,PH.le u C->Ab C L sz (es++xs)->G P fn Post (nx (adv P st) L) C m):G P fn Post st u m:=by
 refine G.big (K:=fun L C m'=>m'=m/\Ab C L sz (es++xs)) h mV (fun X op hv=>(Es (P:=P) (o:=⟨none,op,0, "",#[],none⟩) hv).2.1) (.inl fun v C m' Q=>by rw[Q.1];exact PH.le_refl _) (fun X o I w A=>?_) (fun L C m' a0 Q=>?_)
 ·obtain⟨_,_,t,hi,O⟩:=Es (P:=P) I;obtain⟨hu,i,E,F,rfl,rfl⟩:=Dw hi;have g:=hx.cells U ho A.pu;have D:=B7 ho;have Z:=B7 H;obtain⟨a1,c1,e1,e2,e3⟩:=id ha;simp only[Value.slice.injEq]at e1;obtain⟨rfl,rfl,rfl⟩:=e1;have key:∀ (cap:Nat) (rest:List Value),es.length+n<=cap->Ab (u.upd w.heap.size (.cells (Bb (es++xs)++rest).toArray e (0,0))) (.slice (some ⟨w.heap.size,0,none⟩) (es.length+n) cap) i.size (es++xs):=by
   intro cap rest N;refine⟨_,cap,by simp[R],by simp[R];exact N,fun j x hj=>⟨_,0,rfl,fun ii y hy=>⟨_,_,_,Ac _ _ _,?_⟩⟩⟩;rw[A2x,A2e];have:=Jd (H.append ho) hj hy;rw[A09 (by obtain⟨h,_⟩:=A0o.1 this;exact h)];exact this
  rcases A1p es.length with h0|h0
  ·have:es = []:=A14 h0;subst this;simp only[A3q,A2e]at hb Y;have J:∃ v w',(Builtin.append_ #[t,t] o.type #[.slice a 0 0,.slice (some ⟨b,d,none⟩) n c]).run P w=.ok v w'/\v=.slice (some ⟨w.heap.size,0,none⟩) n (grownCap w n 0 e)/\w'=w.drew.alloc (.cells (Bb xs++(Builtin.zeroCells z.cells (grownCap w n 0 e-n)).toList).toArray e):=by
    cases a with
    |none =>
     refine⟨_,_,run_append_nil (P:=P) w t o.type e i z hu E F ⟨b,d,none⟩ n c (Bb xs) (by rw[D,R]) g a2 oV oV,rfl,?_⟩
     congr 2;apply A6q;simp
    |some a =>
     have:=run_append_grow (P:=P) w t o.type e i z hu E F a 0 0 [] mV mV ⟨b,d,none⟩ n c (Bb xs) (by rw[D,R]) g oV oV (growslice_fits oV (by rw[A2e];omega));simp only[A2e]at this;refine⟨_,_,this,rfl,?_⟩
     congr 2;apply A6q;simp
   obtain⟨v,w',J,rfl,rfl⟩:=J;obtain⟨g1,g2,g3,g4⟩:=A.drew'.newU (.cells (Bb xs++(Builtin.zeroCells z.cells (grownCap w n 0 e-n)).toList).toArray e (0,0));have:=key (grownCap w n 0 e) (Builtin.zeroCells z.cells (grownCap w n 0 e-n)).toList (by simpa using grownCap_ge w n 0 e);simp only[A41,A3q,A2e]at this;exact B0 (by rw[O];simp only[A3q];rw[J];rfl) ⟨_,m,g1,⟨g2.sz,g2.old,g2.us,g2.ms,g2.io,fun f=>⟨(g2.dr f).tape,A7o (g2.dr f).dr⟩⟩,rfl,this⟩
  obtain⟨W,oe,rfl,_⟩:=e3 0 es[0] mV;have T:=He.cells U ha.els H A.pu;have J:=run_append_grow (P:=P) w t o.type e i z hu E F ⟨W,oe,none⟩ es.length es.length (Bb es) Z T ⟨b,d,none⟩ n c (Bb xs) (by rw[D,R]) g oV oV (growslice_fits oV hb);have ew:(Bb es).toArray++(Bb xs).toArray++Builtin.zeroCells z.cells (grownCap w (es.length+n) es.length e-(es.length+n))=(Bb (es++xs)++(Builtin.zeroCells z.cells (grownCap w (es.length+n) es.length e-(es.length+n))).toList).toArray:=by
   apply A6q;simp[Fa]
  rw[ew]at J;obtain⟨g1,g2,g3,g4⟩:=A.drew'.newU (.cells (Bb (es++xs)++(Builtin.zeroCells z.cells (grownCap w (es.length+n) es.length e-(es.length+n))).toList).toArray e (0,0));exact B0 (by rw[O,show ([Value.slice (some ⟨W,oe,none⟩) es.length es.length,Value.slice (some ⟨b,d,none⟩) n c]).toArray = #[.slice (some ⟨W,oe,none⟩) es.length es.length,.slice (some ⟨b,d,none⟩) n c] from rfl,J];rfl) ⟨_,m,g1,⟨g2.sz,g2.old,g2.us,g2.ms,g2.io,fun f=>⟨(g2.dr f).tape,A7o (g2.dr f).dr⟩⟩,rfl,key _ _ (grownCap_ge w _ _ e)⟩
 obtain⟨rfl,Q⟩:=Q;exact k L C a0 Q
def G.appendV (e:TypeId)(sz f:Nat)(z:Value)(es xs:List Value)(a:Option Addr)(d:Nat)(g:Option Addr)(n c:Nat)(h:Ak P (adv P st)=.app (some (e,sz,f,z)) true [.slice a d d,.slice g n c])(A:0<sz)
 (E:Ab u (.slice a d d) sz es) (t:Bm sz es) (F:Ab u (.slice g n c) sz xs) (N:Bm sz xs) (L:(es.length+xs.length)*f<=140737488355328) (j:es.length+xs.length<=9223372036854775807)
 (k:∀ H C,PH.le u C->Ab C H sz (es++xs)->G P fn Post (nx (adv P st) H) C m):G P fn Post st u m:=by
 obtain⟨I,Q,D,R,K⟩:=id F;simp only[Value.slice.injEq]at D;obtain⟨rfl,rfl,rfl⟩:=D;rcases A1p xs.length with h0|h0
 ·have:xs = []:=A14 h0;subst this;exact G.append0 e sz f z a g d d c h (A0s _) (k _ u (PH.le_refl _) (by rw[A1i];exact E))
 obtain⟨J,O,rfl,_⟩:=K 0 xs[0] mV;exact G.appendU e sz f z es xs a d J O xs.length c h A E t F.els N rfl h0 L j k
end rules
end
section
variable {env:Operand->Value}{o:Op}{x:Value}
variable [Cj] [Dd] [Pu]
abbrev mkS (l:List UInt8):ByteArray:=⟨l.toArray⟩
def Add {a b:List UInt8}:mkS a=mkS b↔a=b:=by
 constructor
 ·intro h;injection h with h;simpa using h
 rintro rfl;rfl
def L0 (l:List UInt8):(mkS l).toList=l:=by
 rw[Go.Lib.toList_data]
def K8 (a b:List UInt8):((mkS a).toList==(mkS b).toList)=decide (a=b):=by
 rw[L0,L0,Bool.eq_iff_iff];simp
section rules
variable {P:Program} [A6 P] {fn:Func} {Post:Ca} {st:List KI×S} {u m:PH}
def Xp (Q:Op->Bool)(st:List KI×S):Bool :=
 match st.1 with
 |.reg _ ops _ (i::_)::_=>match ops[i]? with
  |some o=>Q o.op
  |none=>false
 |_=>false
def G.askQ (Q:Op->Bool){V:Tn}{v:Value}(h:Ak P (adv P st)=V)(n:Xp Q (adv P st)=true)(g:V≠.other)(D:∀ env (o:Oper),Bc P env o.op=V->Q o.op=true->∀ w,(Ij o.op=true->F7 u w/\(Pu.b=false->F7 m w))->(execOp env o).run P w=.ok (.value v) w)
 (k:G P fn Post (nx (adv P st) v) u m):G P fn Post st u m:=by
 refine G.stp ?_;obtain⟨J,H,I,i,l,K,s,o,e,j,C,A,F,E,d,f⟩:=E8 h g;have k:=k.out;rw[f]at k;have t:Q o.op=true:=by
  rw[e]at n;simpa[Xp,j] using n
 rw[e];exact⟨Ob.ask j C A F E (Ab1 d g) (fun w hp=>D _ o d t w fun h=>⟨(hp (.inl h)).1,fun z=>(hp (.inl h)).2 (.inl z)⟩) k⟩
def Mi (P:Program):Op->Bool
 |.slice t ..=>match P.underlying t with|some .string=>true|_=>false
 |_=>false
def Hg {d:BinOp}{x y:ByteArray}(t:TypeId)(X Y:Operand)(w:World):(eqGuard d t X Y (.string x) (.string y)).run P w=.ok () w:=by
 unfold eqGuard;split<;>simp
def G.eqST (a b:List UInt8)(h:Ak P (adv P st)=.bin .eql (.string (mkS a)) (.string (mkS b)))(d:a=b)(k:G P fn Post (nx (adv P st) (.bool true)) u m):G P fn Post st u m :=
 G.bin _ h Hg (fun t w=>by simp[binOp,Op.stringOp,K8,d]) k
def G.eqSF (a b:List UInt8)(h:Ak P (adv P st)=.bin .eql (.string (mkS a)) (.string (mkS b)))(d:a≠b)(k:G P fn Post (nx (adv P st) (.bool false)) u m):G P fn Post st u m :=
 G.bin _ h Hg (fun t w=>by simp only[binOp,Op.stringOp,K8,decide_eq_false d];rfl) k
def G.neST (a b:List UInt8)(h:Ak P (adv P st)=.bin .neq (.string (mkS a)) (.string (mkS b)))(d:a≠b)(k:G P fn Post (nx (adv P st) (.bool true)) u m):G P fn Post st u m :=
 G.bin _ h Hg (fun t w=>by simp only[binOp,Op.stringOp,K8,decide_eq_false d];rfl) k
def G.neSF (a b:List UInt8)(h:Ak P (adv P st)=.bin .neq (.string (mkS a)) (.string (mkS b)))(d:a=b)(k:G P fn Post (nx (adv P st) (.bool false)) u m):G P fn Post st u m :=
 G.bin _ h Hg (fun t w=>by simp only[binOp,Op.stringOp,K8,decide_eq_true d];rfl) k
def Aij (a b:List UInt8):mkS a++mkS b=mkS (a++b):=by
 rw[mkS,mkS,ByteArray.mk_append_mk]
def G.addS (a b:List UInt8)(h:Ak P (adv P st)=.bin .add (.string (mkS a)) (.string (mkS b)))(e:a.length+b.length<=9223372036854775807)(k:G P fn Post (nx (adv P st) (.string (mkS (a++b)))) u m):G P fn Post st u m :=
 G.bin _ h Hg (fun t w=>by
  have d:¬ (((mkS a).size+(mkS b).size:Nat):Int)>IntKind.i64.max:=by
   rw[Go.Lib.size_mk,Go.Lib.size_mk];simp[IntKind.max,IntKind.signed,IntKind.bits];omega
  simp only[binOp,Op.stringOp];rw[if_neg d,Aij];rfl) k
def Yr {t:Option TypeDesc}{x i:Value}(h:Bc P env o=.index t x i):∃ d X I,o=.index d X I/\env X=x/\env I=i/\P.underlying d=t:=by
 cases o<;>simp only[Bc]at h<;>try cases h
 any_goals ((repeat' split at h)<;>cases h;done)
 exact⟨_,_,_,rfl,rfl,rfl,rfl⟩
def On {s d:Option TypeDesc}(h:Bc P env o=.conv s d x):∃ f e X,o=.convert f e X/\env X=x/\P.underlying f=s/\P.underlying e=d:=by
 cases o<;>simp only[Bc]at h<;>try cases h
 any_goals ((repeat' split at h)<;>cases h;done)
 exact⟨_,_,_,rfl,rfl,rfl,rfl⟩
def G.idxS (l:List UInt8)(i:Nat)(b:UInt8)(h:Ak P (adv P st)=.index (some .string) (.string (mkS l)) (.int .i64 i))(j:l[i]?=some b)
 (k:G P fn Post (nx (adv P st) (.int .u8 (b.toNat:Int))) u m):G P fn Post st u m:=by
 refine G.ask h mV (fun env o d w _=>?_) k;obtain⟨t,X,I,g,A,C,D⟩:=Yr d;obtain⟨z,J,n,pos,e,f⟩:=o;simp only at g;subst g;obtain⟨H,j⟩:=A0o.1 j;have E:(mkS l)[i]?=some b:=by
  have F:i<(mkS l).size:=by rw[Go.Lib.size_mk];exact H
  rw[getElem?_pos (mkS l) i F]
  congr 1
 have h0:(0:Int)<=(i:Int):=oV
 simp[execOp,A,C,Instr.index,run_underlying D,asIntOf,E,h0]
def G.sliceSTo (l:List UInt8)(n:Nat)(h:Ak P (adv P st)=.slice none (.string (mkS l)) none (some (.int .i64 n)) none)(J:Xp (Mi P) (adv P st)=true)(O:n<=l.length)
 (k:G P fn Post (nx (adv P st) (.string (mkS (l.take n)))) u m):G P fn Post st u m:=by
 refine G.askQ _ h J mV (fun env o d g w hp=>?_) k;obtain⟨t,X,L,H,M,j,C,D,E,F,K⟩:=Jr d;obtain⟨A,N,z,pos,e,f⟩:=o;simp only at j;subst j;simp only[Mi]at g;split at g
 ·rename_i hu;have I:(0:Int)<=n/\(n:Int)<=(mkS l).size:=by rw[Go.Lib.size_mk];omega
  simp only[execOp,C,D,E,F];simp only[Instr.sliceAt,Sem.run_bind,run_underlying hu,Result.andThen_ok,Instr.slice,Instr.sliceBounds,Instr.sliceBound,asIntOf,Sem.run_pure,if_true,Option.isSome,Sem.run_ite,I,and_self,A2r,A68];simp[Go.Lib.extract_mk]
 cases g
def G.sliceSFrom (l:List UInt8)(n:Nat)(h:Ak P (adv P st)=.slice none (.string (mkS l)) (some (.int .i64 n)) none none)(K:Xp (Mi P) (adv P st)=true)(Q:n<=l.length)
 (k:G P fn Post (nx (adv P st) (.string (mkS (l.drop n)))) u m):G P fn Post st u m:=by
 refine G.askQ _ h K mV (fun env o d g w hp=>?_) k;obtain⟨t,X,L,H,M,j,C,D,E,F,N⟩:=Jr d;obtain⟨A,O,z,pos,e,f⟩:=o;simp only at j;subst j;simp only[Mi]at g;split at g
 ·rename_i hu;have I:(0:Int)<=n/\(n:Int)<=(mkS l).size:=by rw[Go.Lib.size_mk];omega
  simp only[execOp,C,D,E,F];simp only[Instr.sliceAt,Sem.run_bind,run_underlying hu,Result.andThen_ok,Instr.slice,Instr.sliceBounds,Instr.sliceBound,asIntOf,Sem.run_pure,if_true,Option.isSome,Sem.run_ite,I,and_self,A2r,A68];have J:(mkS l).extract n (mkS l).size=mkS (l.drop n):=by
   rw[Go.Lib.extract_mk,Go.Lib.size_mk,A00 mV]
  simp[J]
 cases g
def G.convI (H j I:IntKind)(x z:Int)(h:Ak P (adv P st)=.conv (some (.int H)) (some (.int j)) (.int I x))(F:j.wrap x=z)
 (k:G P fn Post (nx (adv P st) (.int j z)) u m):G P fn Post st u m:=by
 refine G.ask h mV (fun env o e w _=>?_) k;obtain⟨s,d,X,n,C,D,E⟩:=On e;obtain⟨A,J,t,pos,f,g⟩:=o;simp only at n;subst n;simp[execOp,convert,C,run_underlying D,run_underlying E,Conv.intToInt,F]
def Ajd {z:Int}(d:0<=z)(e:z<256):IntKind.u8.wrap z=z:=by
 simp only[IntKind.wrap,IntKind.signed,IntKind.bits];simp;omega
def G.sub8 (x y z:Int)(h:Ak P (adv P st)=.bin .sub (.int .u8 x) (.int .u8 y))(f:x-y=z)(d:0<=z)(e:z<256)
 (k:G P fn Post (nx (adv P st) (.int .u8 z)) u m):G P fn Post st u m :=
 G.bin _ h Dq (fun t w=>by simp[binOp,Op.intArith,f,Ajd d e]) k
def Bv (l:List UInt8):List Value:=l.map fun b=>Value.int .u8 (b.toNat:Int)
def Az (l:List UInt8):(Bv l).length=l.length:=by simp[Bv]
def Pd (l d:List UInt8):Bv (l++d)=Bv l++Bv d:=by simp[Bv]
def Oh (l:List UInt8):Bm 1 (Bv l):=by
 intro e d;simp only[Bv,A0r]at d;obtain⟨b,_,rfl⟩:=d;exact⟨rfl,fun x f=>by simp[Value.cells]at f;subst f;rfl⟩
def Af.take {m0:PH}{t:TypeId}{sz:Nat}{es:List Value}{a:Option Addr}{n c k:Nat}(z:Af m0 m (.slice a n c) t sz es)(E:k<=es.length):Af m0 m (.slice a k c) t sz (es.take k):=by
 refine⟨fun e H=>z.1 e (A23 H),?_⟩;rcases z.2 with ⟨j,rfl,I⟩|⟨g,cap,rest,C,rfl,j,D,h,f⟩
 ·left;simp at j E;obtain⟨rfl,rfl,rfl⟩:=j;subst E;exact⟨rfl,rfl,I⟩
 right;simp only[Value.slice.injEq]at j;obtain⟨rfl,rfl,rfl⟩:=j;have e:Bb es=Bb (es.take k)++Bb (es.drop k):=by rw[<-Fa,A4g]
 refine⟨g,c,Bb (es.drop k)++rest,C,by rw[<-A2m,<-e],gV,gV,by rw[<-A2m,<-e];exact h,fun x d=>?_⟩;rcases A04.1 d with d|d
 ·simp only[Bb,A7x]at d;obtain⟨F,A,d⟩:=d;exact (z.1 F (A3w A)).2 x d
 exact f x d
def Af.cap {m0:PH}{t:TypeId}{sz:Nat}{es:List Value}{a:Option Addr}{n c:Nat}(j:Af m0 m (.slice a n c) t sz es):n<=c:=by
 rcases j.2 with ⟨e,rfl,A⟩|⟨g,cap,rest,z,rfl,e,f,h,d⟩
 ·simp at e;omega
 simp at e;omega
def G.convB (m0:PH)(t e:TypeId)(l:List UInt8)(b n c:Nat)(h:Ak P (adv P st)=.conv (some (.slice e)) (some .string) (.slice (some ⟨b,0,none⟩) n c))(O:P.underlying e=some (.int .u8))
 (E:Af m0 m (.slice (some ⟨b,0,none⟩) n c) t 1 (Bv l)) (k:G P fn Post (nx (adv P st) (.string (mkS l))) u m) (A:Pu.b=false:=by rfl):G P fn Post st u m:=by
 refine G.ask h mV (fun env o f w hp=>?_) k;obtain⟨s,d,X,C,J,K,D⟩:=On f;obtain⟨I,T,H,pos,g,z⟩:=o;simp only at C;subst C;have R:=(hp (by simp[Ij,Alc D mV])).2 A;have F:=E.len;rw[Az]at F;subst F;have:=run_convert_bytes_back (P:=P) w s d e ⟨b,0,none⟩ c l K O D (fun j Q=>by
  have L:=E.el (j:=j) (e:=.int .u8 (l[j].toNat:Int)) (by simp[Bv,Q]);have N:=(L 0 (.int .u8 (l[j].toNat:Int)) (by simp[Value.cells])).cell R;rw[Eu];simpa using N)
 simp[execOp,J,this]
end rules
end
section
variable [Cj] [Pu] [Dd]
variable {P:Program} [A6 P] {fn:Func} {Post:Ca} {st:List KI×S} {u m:PH}
def G.q (a b:List UInt8)(hab:a=b)(k:G P fn Post (nx (adv P st) (.bool true)) u m)(h:Ak P (adv P st)=.bin .eql (.string (mkS a)) (.string (mkS b)):=by kernel_rfl):G P fn Post st u m:=G.eqST a b h hab k
def G.w (a b:List UInt8)(hab:a≠b)(k:G P fn Post (nx (adv P st) (.bool false)) u m)(h:Ak P (adv P st)=.bin .eql (.string (mkS a)) (.string (mkS b)):=by kernel_rfl):G P fn Post st u m:=G.eqSF a b h hab k
def G.x (a b:List UInt8)(hab:a≠b)(k:G P fn Post (nx (adv P st) (.bool true)) u m)(h:Ak P (adv P st)=.bin .neq (.string (mkS a)) (.string (mkS b)):=by kernel_rfl):G P fn Post st u m:=G.neST a b h hab k
def G.y (a b:List UInt8)(hab:a=b)(k:G P fn Post (nx (adv P st) (.bool false)) u m)(h:Ak P (adv P st)=.bin .neq (.string (mkS a)) (.string (mkS b)):=by kernel_rfl):G P fn Post st u m:=G.neSF a b h hab k
def tV (l:List UInt8):SV:=.v (.string (mkS l))
end
section
variable {a:Option Addr}{b neg:Bool}{c n:Nat}{l:List Nat}{q:Rat}{y z:Int}
section
variable [Cj] {P:Program} [A6 P] {fn:Func} {Post:Ca} {st:List KI×S} {u m:PH}
def Ax1 (d:0<=z)(e:z<18446744073709551616):IntKind.u64.wrap z=z:=by
 simp only[IntKind.wrap,IntKind.signed,IntKind.bits];simp;omega
theorem G.quoW (x y z:Nat)(h:Ak P (adv P st)=.bin .quo (.int .u64 (x:Int)) (.int .u64 (y:Int)))(f:x/y=z)(j:x<18446744073709551616)(A:0<y)(k:G P fn Post (nx (adv P st) (.int .u64 (z:Int))) u m):G P fn Post st u m:=by
 refine G.bin _ h Dq (fun t w=>?_) k;have g:z<=x:=by rw[<-f];exact A24 _ _
 have d:(x:Int).tdiv y=z:=by grind
 have e:¬ y=0:=oV
 simp[binOp,Op.intDiv,e,d,Ax1 (z:=(z:Int)) oV oV]
theorem G.remW (x y z:Nat)(h:Ak P (adv P st)=.bin .rem (.int .u64 (x:Int)) (.int .u64 (y:Int)))(j:x%y=z)(f:x<18446744073709551616)(g:0<y)(k:G P fn Post (nx (adv P st) (.int .u64 (z:Int))) u m):G P fn Post st u m:=by
 refine G.bin _ h Dq (fun t w=>?_) k;have d:(x:Int).tmod y=z:=by grind
 have e:¬ y=0:=oV
 simp[binOp,Op.intDiv,e,d]
def G.negW (x z:Int)(h:Ak P (adv P st)=.un .neg (.int .u64 x))(E:IntKind.u64.wrap (-x)=z)(k:G P fn Post (nx (adv P st) (.int .u64 z)) u m):G P fn Post st u m:=by
 refine G.ask h mV (fun D o d w hp=>?_) k;obtain⟨t,X,g,C⟩:=Ajz d;obtain⟨A,F,j,pos,e,f⟩:=o;simp only at g;subst g;simp[execOp,Op.unary,C,Op.intArith,E]
end
section
variable {u:PH} {x x':Value}
def Alh {m n:Nat}(h:Da u x m)(d:Da u x' n)(e:nl m<=10000000000000)(sb:nl n<=10000000000000):Fn0 prog 195 [x,x'] u fun v f=>Da f v (m+n) :=
 Fn0.ofW (fun v w=>Cz w v (m+n)) (fun w hp=>Agu x x' m n w (h.toW hp) (d.toW hp) e sb) (fun _ _ _ h _ c _=>Da.ofW h c)
def Ab2 {m n:Nat}(h:Da u x m)(e:Da u x' n)(f:nl m<=10000000000000)(d:n<=m):Fn0 prog 197 [x,x'] u fun v g=>Da g v (m-n) :=
 Fn0.ofW (fun v w=>Cz w v (m-n)) (fun w hp=>Agn x x' m n w (h.toW hp) (e.toW hp) f d) (fun _ _ _ h _ c _=>Da.ofW h c)
def Atm {m n:Nat}(h:Da u x m)(d:Da u x' n)(e:nl m<=10000000000000)(sb:nl n<=10000000000000):Fn0 prog 182 [x,x'] u fun v f=>Da f v (m*n) :=
 Fn0.ofW (fun v w=>Cz w v (m*n)) (fun w hp=>Aho x x' m n w (h.toW hp) (d.toW hp) e sb) (fun _ _ _ h _ c _=>Da.ofW h c)
def Agg {m n:Nat}(h:Da u x m)(d:Da u x' n)(e:nl m<=10000000000000)(sb:nl n<=10000000000000):Fn0 prog 196 [x,x'] u fun v _=>v=.int .i64 (sgn ((m:Int)-n)) :=
 Fn0.ofW (fun v _=>v=.int .i64 (sgn ((m:Int)-n))) (fun w hp=>(Gl x x' m n w (h.toW hp) (d.toW hp) e sb).mono fun _ _ h=>⟨_,h.ext.1,rfl,h.ext.2⟩) (fun _ _ _ h _ _ _=>h)
def Qo {m n:Nat}(h:Da u x m)(j:Da u x' n)(C:nl m<=5000000000000)(sb:nl n<=5000000000000)(t:0<n):Fn0 prog 227 [x,x'] u fun v g=>∃ a b,v=.tuple #[a,b]/\Da g a (m/n)/\Da g b (m%n) :=
 Fn0.ofW (fun v w=>∃ a b,v=.tuple #[a,b]/\Cz w a (m/n)/\Cz w b (m%n)) (fun w hp=>(Za x x' m n w (h.toW hp) (j.toW hp) C sb t).mono fun _ _ ⟨a,b,e,d,f,A⟩=>⟨_,e,⟨a,b,rfl,d,f⟩,A⟩)
  (fun _ _ _ ⟨a,b,e,d,f⟩ _ c _=>⟨a,b,e,Da.ofW d c,Da.ofW f c⟩)
def Aat (h:Da u x n)(d:nl n<=2):Fn0 prog 243 [x] u fun v _=>v=.int .u64 (n:Int) :=
 Fn0.ofW (fun v _=>v=.int .u64 (n:Int)) (fun w hp=>(Adf x n w (h.toW hp) d).mono fun _ _ ⟨e,k⟩=>⟨_,e,rfl,k▸Ext.refl _⟩) (fun _ _ _ h _ _ _=>h)
def Agr.els {g:Nat}(h:He u g 0 1 (A7 l)):Agr u (some ⟨g,0,none⟩) (A7 l):=fun j e=>by
 refine⟨g,0,rfl,?_⟩;have d:j<l.length:=by simpa[A7] using e
 have:=h j (.int .u64 (l[j]:Nat)) (by simp[A7,d]) 0 (.int .u64 (l[j]:Nat)) rfl;simpa[A7,d] using this
def Av9 (E:Low l)(H:Agr u a (A7 l))(F:val l=n)(t:l.length<=c)(C:l.length<=9223372036854775807):Fn0 prog 191 [.slice a l.length c] u fun v I=>Da I v n :=
 Fn0.ofW (fun v w=>Cz w v n) (fun w hp=>by
  have A:Row w a (A7 l):=fun j D=>by obtain⟨b,g,d,f⟩:=H j D;exact⟨b,g,d,f.cell hp⟩
  exact (G5 a c l.length l w rfl C t A).mono fun e w' ⟨d,f⟩=>by subst f;exact⟨_,d,D0 E A F t,Ext.refl _⟩) (fun _ _ _ h _ c _=>Da.ofW h c)
def Da.len {k c n:Nat}(h:Da u (.slice a k c) n):k=nl n:=by
 obtain⟨_,_,e,_⟩:=h;cases e;rfl
def Da.opn (h:Da u x n):∃ a c,x=.slice a (nl n) c:=by
 obtain⟨a,c,e,_⟩:=h;exact⟨a,c,e⟩
theorem Atj {m n : Nat} (h : Da u x m) (h' : Da u x' n) (sa : nl m ≤ 5000000000000) (sb : nl n ≤ 5000000000000) : Fn0 prog 202 [x, x'] u fun v u' => Da u' v (Nat.gcd m n) := by
  obtain ⟨a, c, rfl⟩ := h.opn
  obtain ⟨b, d, rfl⟩ := h'.opn
  refine Fn0.o func202 ?_
  refine G.l (ι := (Option Addr × Nat × Nat) × (Option Addr × Nat × Nat)) (fun i => [(0, sV i.1.1 (nl i.1.2.1) i.1.2.2), (1, sV i.2.1 (nl i.2.2.1) i.2.2.2)]) (fun _ => [])
    (fun i u' m' => m' = PH.mt ∧ Da u' (.slice i.1.1 (nl i.1.2.1) i.1.2.2) i.1.2.1 ∧ Da u' (.slice i.2.1 (nl i.2.2.1) i.2.2.2) i.2.2.1 ∧ Nat.gcd i.1.2.1 i.2.2.1 = Nat.gcd m n ∧ nl i.1.2.1 ≤ 5000000000000 ∧ nl i.2.2.1 ≤ 5000000000000)
    (fun i => i.2.2.1) ((a, m, c), (b, n, d)) ⟨rfl, h, h', rfl, sa, sb⟩ ?_
  rintro J ⟨⟨a1, m1, c1⟩, b1, n1, d1⟩ hJ u1 _ l1 ⟨rfl, h1, h1', hg, s1, s1'⟩
  simp only at h1 h1' hg s1 s1' hJ
  by_cases h2 : 2 < nl n1
  · refine G.gT (nl n1 : Int) 2 ?_
    have hp : 0 < n1 := C5.1 (show 0 < nl n1 by omega)
    refine G.c call227 (Qo h1 h1' s1 s1' hp) ?_
    rintro _ u2 l2 ⟨q, r, rfl, hq, hr⟩
    obtain ⟨aq, cq, rfl⟩ := hq.opn
    obtain ⟨ar, cr, rfl⟩ := hr.opn
    have hlt := A2l m1 hp
    exact G.b (hJ ((b1, n1, d1), (ar, m1 % n1, cr)) _ _ _ cV (l1.trans l2) ⟨rfl, h1'.mono l2, hr, by rw [← hg]; exact V3 m1 n1, s1', A0l (Cl (A67 hlt)) s1'⟩ hlt)
  refine G.gF (nl n1 : Int) 2 ?_
  by_cases h0 : nl n1 = 0
  · refine G.eT (nl n1 : Int) 0 ?_
    have e0 : n1 = 0 := by rcases A1p n1 with e | e; · exact e
                           · have := C5.2 e; unfold nl at h0; omega
    rw [← hg, e0, A8j]
    exact G.r _ ⟨rfl, h1⟩
  have hp : 0 < n1 := C5.1 (show 0 < nl n1 by omega)
  refine G.eF (nl n1 : Int) 0 ?_
  refine dite (2 < nl m1) (fun h3 => ?y) (fun h3 => ?n)
  case' y =>
    refine G.gT (nl m1 : Int) 2 ?_
    refine G.c call227 (Qo h1 h1' s1 s1' hp) ?_
    rintro _ u2 l2 ⟨q, r, rfl, hq, hr⟩
    have ha := h1'.mono l2
    have hg2 : Nat.gcd n1 (m1 % n1) = Nat.gcd m n := by rw [← hg]; exact V3 m1 n1
    have hm2 : nl n1 ≤ 2 := by omega
    have hn2 : nl (m1 % n1) ≤ 2 := A0l (Cl (A67 (A2l m1 hp))) hm2
  case' n =>
    refine G.gF (nl m1 : Int) 2 ?_
    have ha := h1
    have hr := h1'
    have hg2 := hg
    have hm2 : nl m1 ≤ 2 := by omega
    have hn2 : nl n1 ≤ 2 := by omega
  case y | n =>
    refine G.c call243 (Aat ha hm2) ?_
    rintro _ u3 l3 rfl
    refine G.c call243 (Aat (hr.mono l3) hn2) ?_
    rintro _ u4 l4 rfl
    refine G.l (ι := Nat × Nat) (fun i => [(9, .v (.int .u64 (i.1 : Int))), (10, .v (.int .u64 (i.2 : Int)))]) (fun _ => [])
      (fun i u' m' => m' = PH.mt ∧ Nat.gcd i.1 i.2 = Nat.gcd m n ∧ i.1 < 1000000000000000000 ∧ i.2 < 1000000000000000000) (fun i => i.2) (_, _) ⟨rfl, hg2, Aay hm2, Aay hn2⟩ ?_
    rintro J ⟨p, q⟩ hJ u5 _ l5 ⟨rfl, hpq, b1, b2⟩
    by_cases hq : q = 0
    · refine G.cmpG .neq .u64 (q : Int) 0 false kV rfl (by simp [C8, hq]) ?_
      refine G.remW p 1000000000 _ kV rfl oV oV ?_
      refine G.quoW p 1000000000 _ kV rfl oV oV ?_
      refine G.buildW (p := fun _ => true) 251 1 8 (.int .u64 0) (A7 [p % 1000000000, p / 1000000000]) kV (by simp [Y2, A7, Value.cells]) rfl oV (by simp [A7]) (by simp [A7]) ?_
      intro g u6 l6 e6
      refine G.c call191 (Av9 (l := [p % 1000000000, p / 1000000000]) (n := p) (Low.cons (A2l _ oV) (Low.cons oV Low.nil)) (Agr.els e6) (by simp [val]; omega) (c := 2) mV mV) ?_
      intro v7 u7 l7 k7
      obtain ⟨a7, c7, rfl⟩ := k7.opn
      rw [hq, A8j] at hpq
      exact G.r (.slice a7 (nl p) c7) ⟨rfl, by rw [← hpq]; exact k7⟩
    · refine G.cmpG .neq .u64 (q : Int) 0 true kV rfl (by simp [C8, hq]) ?_
      refine G.remW p q _ kV rfl oV oV ?_
      have hlt := A2l p (show 0 < q by omega)
      exact G.b (hJ (q, p % q) _ _ _ cV l5 ⟨rfl, by rw [← hpq]; exact V3 p q, b2, by dsimp only; omega⟩ hlt)
def Adc {s:Value}(e:b=(neg&&decide (0<n)))(d:Da u s n):Br u (.agg #[.bool b,s]) (Cc neg n):=by
 obtain⟨a,c,rfl,f⟩:=id d;exact⟨a,_,c,by rw[Yb,e],by rw[Ko];exact d⟩
def Iq (h:Da u x n):Fn0 prog 181 [.bool neg,x] u fun v e=>Br e v (Cc neg n):=by
 obtain⟨a,c,rfl⟩:=h.opn;have d:0<nl n↔0<n:=C5;refine Fn0.o func181 ?_;cases neg
 ·exact G.r (.agg #[.bool false,.slice a (nl n) c]) ⟨rfl,Adc rfl h⟩
 by_cases h0:0<nl n
 ·exact G.gT (nl n:Int) 0<|G.r (.agg #[.bool true,.slice a (nl n) c]) ⟨rfl,Adc (by simp[d.1 h0]) h⟩
 exact G.gF (nl n:Int) 0<|G.r (.agg #[.bool false,.slice a (nl n) c]) ⟨rfl,Adc (by simp[mt d.2 h0]) h⟩
def Br.opn' (h:Br u x z):∃ a c,x=.agg #[.bool (decide (z<0)),.slice a (nl z.natAbs) c]/\Da u (.slice a (nl z.natAbs) c) z.natAbs:=by
 obtain⟨a,n,c,rfl,h⟩:=h;have:=h.len;subst this;exact⟨a,c,rfl,h⟩
def Rd (h:Br u x z)(f:nl z.natAbs<=100000000000000):Fn0 prog 179 [x] u fun v _=>v=.int .i64 (sgn z):=by
 obtain⟨a,c,rfl,k⟩:=h.opn';have e:0<nl z.natAbs↔0<z.natAbs:=C5;refine Fn0.o func179 ?_;by_cases h0:z<0
 ·rw[decide_eq_true h0,En h0];exact G.r (.int .i64 (-1)) ⟨rfl,rfl⟩
 rw[decide_eq_false h0];by_cases d:0<nl z.natAbs
 ·refine G.gT (nl z.natAbs:Int) 0 ?_;rw[Db oV];exact G.r (.int .i64 1) ⟨rfl,rfl⟩
 refine G.gF (nl z.natAbs:Int) 0 ?_;rw[show z=0 by omega,R7];exact G.r (.int .i64 0) ⟨rfl,rfl⟩
def Aod (z:Int):Cc (!decide (z<0)) z.natAbs = -z:=by unfold Cc;by_cases h:z<0<;>simp[h]<;>omega
def Ve (h:Br u x z)(t:nl z.natAbs<=100000000000000):Fn0 prog 180 [x] u fun v e=>Br e v (-z):=by
 obtain⟨a,c,rfl,k⟩:=h.opn';refine Fn0.o func180<|G.c call181 (Iq (neg:=!decide (z<0)) k) ?_;intro E D A d;rw[Aod]at d;obtain⟨g,f,C,j,rfl⟩:=d.opn;exact G.r _ ⟨rfl,d⟩
def El (h:Br u x y)(e:Br u x' z)(I:nl y.natAbs<=5000000000000)(sz:nl z.natAbs<=5000000000000):Fn0 prog 100 [x,x'] u fun v j=>Br j v (y*z):=by
 obtain⟨a,c,rfl,k⟩:=h.opn';obtain⟨t,D,rfl,f⟩:=e.opn';refine Fn0.o func100<|G.neB (decide (y<0)) (decide (z<0)) kV<|G.c call182 (Atm k f oV oV) ?_;intro L J F g;refine G.c call181 (Iq (neg:=!(decide (y<0)==decide (z<0))) g) ?_;intro N K l2 d;rw[Ae1]at d;obtain⟨C,A,H,E,rfl⟩:=d.opn;exact G.r _ ⟨rfl,d⟩
def Acl (h:Br u x y)(H:Br u x' z)(Z:nl y.natAbs<=5000000000000)(sz:nl z.natAbs<=5000000000000):Fn0 prog 119 [x,x'] u fun v L=>Br L v (y+z):=by
 obtain⟨a,c,rfl,k⟩:=h.opn';obtain⟨T,W,rfl,j⟩:=H.opn';refine Fn0.o func119<|G.eqB (decide (y<0)) (decide (z<0)) kV ?_;by_cases f:decide (y<0)=decide (z<0)
 ·rw[show (decide (y<0)==decide (z<0))=true by simp[f]];refine G.c call195 (Alh k j oV oV) ?_;intro Q N g I;refine G.c call181 (Iq (neg:=decide (y<0)) I) ?_;intro C A l2 d;rw[Afo f]at d;obtain⟨V,U,Y,X,rfl⟩:=d.opn;exact G.r _ ⟨rfl,d⟩
 rw[show (decide (y<0)==decide (z<0))=false by simpa using f];refine G.c call196 (Agg k j oV oV) ?_;rintro Q N g rfl;by_cases t:z.natAbs<=y.natAbs
 ·refine G.hT' (sgn ((y.natAbs:Int)-z.natAbs)) 0 (Aiv t)<|G.c call197 (Ab2 (k.mono g) (j.mono g) oV t) ?_;intro C A l2 d;refine G.c call181 (Iq (neg:=decide (y<0)) d) ?_;intro R O J e;rw[Aad f t]at e;obtain⟨E,D,K,F,rfl⟩:=e.opn;exact G.r _ ⟨rfl,e⟩
 refine G.hF' (sgn ((y.natAbs:Int)-z.natAbs)) 0 (by rw[En oV];omega)<|G.c call197 (Ab2 (j.mono g) (k.mono g) oV oV) ?_;intro C A l2 d;refine G.c call181 (Iq (neg:=decide (z<0)) d) ?_;intro R O J e;rw[Aaz f oV]at e;obtain⟨E,D,K,F,rfl⟩:=e.opn;exact G.r _ ⟨rfl,e⟩
def Ak2 (h:Br u x y)(d:Br u x' z)(j:nl y.natAbs<=5000000000000)(sz:nl z.natAbs<=5000000000000):Fn0 prog 203 [x,x'] u fun v t=>Br t v (y-z):=by
 obtain⟨b,a,n,c,rfl⟩:=h.opn;obtain⟨b',A,H,E,rfl⟩:=d.opn;refine Fn0.o func203<|G.c call180 (Ve d oV) ?_;intro L J g f;refine G.c call119 (Acl (h.mono g) f j (by rw[A26];exact sz)) ?_;intro N K l2 e;obtain⟨D,C,I,F,rfl⟩:=e.opn;exact G.r _ ⟨rfl,e⟩
def Kg (h:Br u x y)(d:Br u x' z)(e:nl y.natAbs<=5000000000000)(sz:nl z.natAbs<=5000000000000):Fn0 prog 133 [x,x'] u fun v _=>v=.int .i64 (sgn (y-z)):=by
 obtain⟨b,a,n,c,rfl⟩:=h.opn;obtain⟨b',g,A,j,rfl⟩:=d.opn;refine Fn0.o func133<|G.c call203 (Ak2 h d e sz) ?_;intro E C t f;have:=Vf (y:=y) (z:=-z) e (by rw[A26];exact sz);refine G.c call179 (Rd f (by rw[A69];omega)) ?_;rintro F D l2 rfl;exact G.r (.int .i64 (sgn (y-z))) ⟨rfl,rfl⟩
def Abx (h:Br u x y)(e:Br u x' z)(j:nl y.natAbs<=5000000000000)(sz:nl z.natAbs<=5000000000000):Fn0 prog 132 [x,x'] u fun v t=>Br t v (Nat.gcd y.natAbs z.natAbs):=by
 obtain⟨a,c,rfl,k⟩:=h.opn';obtain⟨A,E,rfl,f⟩:=e.opn';refine Fn0.o func132<|G.c call202 (Atj k f j sz) ?_;intro L J H g;refine G.c call181 (Iq (neg:=false) g) ?_;intro N K l2 d;obtain⟨D,C,I,F,rfl⟩:=d.opn;exact G.r _ ⟨rfl,d⟩
def Oi (h:Br u x y)(U:Br u x' z)(sy:nl y.natAbs<=4000000000000)(sz:nl z.natAbs<=4000000000000)(H:z≠0):Fn0 prog 176 [x,x'] u fun v R=>∃ a b,v=.tuple #[a,b]/\Br R a (y/z)/\Br R b (y%z):=by
 obtain⟨a,c,rfl,k⟩:=h.opn';obtain⟨a',c',rfl,K⟩:=U.opn';have I:0<nl (y.natAbs%z.natAbs)↔0<y.natAbs%z.natAbs:=C5;have W:=A2l y.natAbs (show 0<z.natAbs by omega);refine Fn0.o func176<|G.c call227 (Qo k K oV oV oV) ?_;rintro _ u1 Y ⟨q,r,rfl,J,F⟩;obtain⟨ar,cr,rfl⟩:=F.opn;refine dite (y<0) (fun f=>?A) (fun f=>?D)
 case' A =>
  rw[decide_eq_true f];refine dite (0<y.natAbs%z.natAbs) (fun h0=>?B) (fun h0=>?C)
 case' B =>
  refine G.gT' (nl (y.natAbs%z.natAbs):Int) 0 (by have:=I.2 h0;omega)<|G.buildW (p:=fun _=>true) 251 1 8 (.int .u64 0) (A7 [1]) kV (by simp[Y2,A7,Value.cells]) rfl oV (by simp[A7]) (by simp[A7]) ?_;intro g u2 l2 T;have X:Da u2 (.slice (some ⟨g,0,none⟩) 1 1) 1:=by
   have:=E1 (d:=1) oV oV;exact⟨_,1,by rw[this];rfl,by rw[this];simp,by rw[this];exact Agr.els T⟩
  refine G.c call195 (Alh (J.mono l2) X (by have:=Cl (A24 y.natAbs z.natAbs);omega) (by have:=S9;omega)) ?_;intro v3 u3 Q t;refine G.c call197 (Ab2 ((K.mono Y).mono (l2.trans Q)) (F.mono (l2.trans Q)) oV oV) ?_;intro v4 u4 Z L;obtain⟨e,j⟩:=Ac4 f H h0;rw[decide_eq_true f]at e;have t:=t.mono Z
 case' C =>
  refine G.gF' (nl (y.natAbs%z.natAbs):Int) 0 (by have:=mt I.1 h0;omega) ?_;obtain⟨e,j⟩:=Y4 f H oV;rw[decide_eq_true f]at e
 case' D =>
  obtain⟨e,j⟩:=Zb f H;rw[decide_eq_false f]at e⊢
 case' C|D =>
  have t:=J;have L:=F
 case' B|C=>generalize V:true=E at e⊢
 case' D=>generalize V:false=E at e⊢
 case B|C|D =>
  refine G.neB E (decide (z<0)) kV<|G.c call181 (Iq (neg:=!(E==decide (z<0))) t) ?_;intro v5 u5 l5 N;obtain⟨b5,a5,n5,c5,rfl⟩:=N.opn;refine G.c call181 (Iq (neg:=false) (L.mono l5)) ?_;intro v6 u6 l6 O;obtain⟨b6,a6,n6,c6,rfl⟩:=O.opn;exact G.r (.tuple #[_,_]) ⟨rfl,_,_,rfl,e▸N.mono l6,j▸O⟩
def N8 (t:-9223372036854775808<=z)(C:z<=9223372036854775807):Fn0 prog 115 [.int .i64 z] u fun v F=>Br F v z:=by
 refine Fn0.o func115<|G.convI .i64 .u64 .i64 z _ kV rfl ?_;have e:=Tb z;refine dite (z<0) (fun d=>?A) (fun d=>?B)
 case' A =>
  rw[decide_eq_true d]at e;generalize f:true=E at e;refine G.lT' z 0 d<|G.negW _ _ kV (Ah9 d t)<|G.lT' z 0 d ?_
 case' B =>
  rw[decide_eq_false d]at e;generalize f:false=E at e;rw[Ah6 oV C];refine G.lF' z 0 d<|G.lF' z 0 d ?_
 case A|B =>
  refine G.remW z.natAbs 1000000000 _ kV rfl oV oV<|G.quoW z.natAbs 1000000000 _ kV rfl oV oV<|G.remW (z.natAbs/1000000000) 1000000000 _ kV rfl oV oV<|G.quoW z.natAbs 1000000000 _ kV rfl oV oV<|G.quoW (z.natAbs/1000000000) 1000000000 _ kV rfl oV oV<|G.buildW (p:=fun _=>true) 251 1 8 (.int .u64 0) (A7 [z.natAbs%1000000000,z.natAbs/1000000000%1000000000,z.natAbs/1000000000/1000000000]) kV (by simp[Y2,A7,Value.cells]) rfl oV (by simp[A7]) (by simp[A7]) ?_;intro g Q K j;refine G.c call191 (Av9 (l:=[_,_,_]) (n:=z.natAbs) (Low.cons (A2l _ oV) (Low.cons (A2l _ oV) (Low.cons oV Low.nil))) (Agr.els j) (by simp[val];omega) (c:=3) mV mV) ?_;intro U R L D;refine G.c call181 (Iq (neg:=E) (by cases f;exact D)) ?_;intro V T N h;obtain⟨I,H,O,J,rfl⟩:=h.opn;exact G.r _ ⟨rfl,e▸h⟩
def Alw (h:A9 u x q)(d:nl q.num.natAbs<=100000000000000):Fn0 prog 134 [x] u fun v _=>v=.int .i64 (sgn q.num):=by
 obtain⟨b,a,n,c,b',e,j,f,rfl⟩:=h.opn;refine Fn0.o func134<|G.c call179 (Rd h.num d) ?_;rintro A t g rfl;exact G.r (.int .i64 (sgn q.num)) ⟨rfl,rfl⟩
def I8 (h:A9 u x q)(C:nl q.den<=4000000000000):Fn0 prog 118 [x] u fun v _=>v=.bool (decide (q.den=1)):=by
 obtain⟨b,a,n,c,b',t,D,A,rfl⟩:=h.opn;refine Fn0.o func118<|G.c call115 (N8 (z:=1) oV oV) ?_;intro H E j g;refine G.c call133 (Kg (h.den.mono j) g (by rw[A1e];omega) (by have:=S9;show nl 1<=_;omega)) ?_;rintro I F l2 rfl;have f:=T6 (d:=q.den);by_cases e:q.den=1
 ·exact G.eT' (sgn ((q.den:Int)-1)) 0 (by simpa[e] using f)<|G.r (.bool true) ⟨rfl,by rw[decide_eq_true e]⟩
 exact G.eF' (sgn ((q.den:Int)-1)) 0 (by simpa[e] using f)<|G.r (.bool false) ⟨rfl,by rw[decide_eq_false e]⟩
def A9.mk4 {d:Nat}{b b':Bool}{a f:Option Addr}{n j c g:Nat}(h:Br u (.agg #[.bool b,.slice a n c]) y)(A:Br u (.agg #[.bool b',.slice f j g]) (d:Int))(e:q.num=y)(t:q.den=d) :
 A9 u (.agg #[.bool b,.slice a n c,.bool b',.slice f j g]) q:=by
 obtain⟨_,_,_,C,D⟩:=h;obtain⟨_,_,_,E,F⟩:=A;obtain⟨rfl,rfl,rfl,rfl⟩:=C;obtain⟨rfl,rfl,rfl,rfl⟩:=E;exact⟨_,_,_,_,_,_,by rw[e,decide_eq_false (show ¬ ((d:Int)<0) by omega)],by rw[e];exact D,by rw[t];exact F⟩
theorem Br.cast (h:Br u x z)(d:0<z):Br u x ((z.natAbs:Nat):Int):=by grind
def Ql (h:Br u x z):Fn0 prog 114 [x] u fun v f=>A9 f v (z:Rat):=by
 obtain⟨b,a,n,c,rfl⟩:=h.opn;refine Fn0.o func114<|G.c call115 (N8 (z:=1) oV oV) ?_;intro D C e d;obtain⟨j,g,A,t,rfl⟩:=d.opn;exact G.r (.agg #[_,_,_,_]) ⟨rfl,A9.mk4 (h.mono e) d mV mV⟩
def O5 (h:-9223372036854775808<=z)(j:z<=9223372036854775807):Fn0 prog 47 [.int .i64 z] u fun v C=>A9 C v (z:Rat):=by
 refine Fn0.o func47<|G.c call115 (N8 h j) ?_;intro L J H t;refine G.c call114 (Ql t) ?_;intro N K l2 d;obtain⟨E,D,I,F,f,e,A,g,rfl⟩:=d.opn;exact G.r _ ⟨rfl,d⟩
def An2 (h:A9 u x q)(D:nl q.num.natAbs<=4000000000000):Fn0 prog 120 [x] u fun v f=>A9 f v (-q):=by
 obtain⟨b,a,n,c,b',g,E,A,rfl⟩:=h.opn;refine Fn0.o func120<|G.c call180 (Ve h.num oV) ?_;intro I H e d;obtain⟨t,j,F,C,rfl⟩:=d.opn;exact G.r (.agg #[_,_,_,_]) ⟨rfl,A9.mk4 d (h.den.mono e) (A9e q) (A9f q)⟩
theorem Rb (h:Br u x y)(E:Br u x' z)(sy:nl y.natAbs<=4000000000000)(sz:nl z.natAbs<=4000000000000)(hz:z≠0):Fn0 prog 99 [x,x'] u fun v u'=>A9 u' v (Rat.divInt y z):=by
 obtain⟨b,a,n,c,rfl⟩:=h.opn;obtain⟨b',a',n',c',rfl⟩:=E.opn;refine Fn0.o func99<|G.c call179 (Rd E oV) ?_;rintro v1 u1 H rfl;refine dite (z<0) (fun h0=>?A) (fun h0=>?B)
 case' A =>
  refine G.lT' (sgn z) 0 (by rw[En h0];omega)<|G.c call180 (Ve (h.mono H) oV) ?_;intro v2 u2 l2 f;obtain⟨b2,a2,n2,c2,rfl⟩:=f.opn;refine G.c call180 (Ve (E.mono (H.trans l2)) oV) ?_;intro v3 u3 Z j;obtain⟨b3,a3,n3,c3,rfl⟩:=j.opn;have f:=f.mono Z;have e:=M5 y z;have J:nl (-y).natAbs<=4000000000000:=by grind
  have D:nl (-z).natAbs<=4000000000000:=by grind
  have hp:0 < -z:=oV;generalize -y=y2 at f e J;generalize -z=z2 at j e D hp
 case' B =>
  refine G.lF' (sgn z) 0 (by rw[Db oV];omega) ?_;have f:=h.mono H;have j:=E.mono H;have e:Rat.divInt y z=Rat.divInt y z:=rfl;have J:=sy;have D:=sz;have hp:0<z:=oV;generalize y=y2 at f e J;generalize z=z2 at j e D hp
 case A|B =>
  have V:0<Nat.gcd y2.natAbs z2.natAbs:=A7a _ oV;have K:Nat.gcd y2.natAbs z2.natAbs<=z2.natAbs:=Nat.gcd_le_right _ oV;have C:nl (Nat.gcd y2.natAbs z2.natAbs)<=4000000000000:=A0l (Cl K) D;refine G.c call132 (Abx f j oV oV) ?_;intro v4 u4 l4 F;obtain⟨b4,a4,n4,c4,rfl⟩:=F.opn;refine G.c call115 (N8 (z:=1) oV oV) ?_;intro v5 u5 I W;refine G.c call133 (Kg (F.mono I) W (by rw[A1e];omega) (by have:=S9;show nl 1<=_;omega)) ?_;rintro v6 u6 O rfl;have Q:=T6 (d:=Nat.gcd y2.natAbs z2.natAbs);have g:=(l4.trans I).trans O;by_cases L:Nat.gcd y2.natAbs z2.natAbs=1
  ·refine G.nF' (sgn ((Nat.gcd y2.natAbs z2.natAbs:Int)-1)) 0 (by simpa[L] using Q) ?_;have t:=V9 hp L;exact G.r (.agg #[_,_,_,_]) ⟨rfl,A9.mk4 (f.mono g) ((j.mono g).cast hp) (by rw[<-e];exact t.1) (by rw[<-e];exact t.2)⟩
  refine G.nT' (sgn ((Nat.gcd y2.natAbs z2.natAbs:Int)-1)) 0 (by simpa[L] using Q) ?_;have t:=Xr hp (y:=y2) rfl;refine G.c call176 (Oi (f.mono g) (F.mono (I.trans O)) J (by rw[A1e];exact C) oV) ?_;rintro _ u7 T ⟨q,r,rfl,R,X⟩;obtain⟨b7,a7,n7,c7,rfl⟩:=R.opn;refine G.c call176 (Oi (j.mono (g.trans T)) (F.mono ((I.trans O).trans T)) D (by rw[A1e];exact C) oV) ?_;rintro _ u8 l8 ⟨q8,r8,rfl,N,Y⟩;obtain⟨b8,a8,n8,c8,rfl⟩:=N.opn;have U:(((z2.natAbs/Nat.gcd y2.natAbs z2.natAbs:Nat)):Int)=z2/(Nat.gcd y2.natAbs z2.natAbs:Nat):=by grind
  rw[<-U]at N;exact G.r (.agg #[_,_,_,_]) ⟨rfl,A9.mk4 (R.mono l8) N (by rw[<-e];exact t.1) (by rw[<-e];exact t.2)⟩
end
end
section
variable {q r:Rat}{y:Int}
section
variable {u:PH} {x x':Value}
def Adz (h:A9 u x q):Fn0 prog 177 [x] u fun v d=>Br d v q.num :=
 Fn0.ofW (fun v w=>Qr w v q.num) (fun w hp=>Afv x q w (h.toW hp)) (fun _ _ _ h _ c _=>Br.ofW h c)
def Rn (h:A9 u x q):Fn0 prog 175 [x] u fun v d=>Br d v q.den :=
 Fn0.ofW (fun v w=>Qr w v q.den) (fun w hp=>Adu x q w (h.toW hp)) (fun _ _ _ h _ c _=>Br.ofW h c)
def Aq9 (h:A9 u x q)(j:A9 u x' r)(V:Sz q 1000000000000)(W:Sz r 1000000000000):Fn0 prog 61 [x,x'] u fun v u'=>A9 u' v (q*r):=by
 obtain⟨s1,s2⟩:=V;obtain⟨s3,s4⟩:=W;obtain⟨b,a,n,c,b',a',n',c',rfl⟩:=h.opn;obtain⟨d,e,k,f,d',e',k',f',rfl⟩:=j.opn;refine Fn0.o func61<|G.c call118 (I8 h oV) ?_;rintro v1 u1 t rfl;refine dite (q.den=1) (fun A=>?y) (fun A=>?n1)
 case' y =>
  rw[decide_eq_true A];refine G.c call118 (I8 (j.mono t) oV) ?_;rintro v2 u2 l2 rfl;refine dite (r.den=1) (fun C=>?yy) (fun C=>?n2)
 case yy =>
  rw[decide_eq_true C];refine G.c call100 (El (h.num.mono (t.trans l2)) (j.num.mono (t.trans l2)) oV oV) ?_;intro v3 u3 E m;obtain⟨L,H,X,Q,rfl⟩:=m.opn;refine G.c call114 (Ql m) ?_;intro v4 u4 F g;rw[Ano A C]at g;obtain⟨N,I,Y,R,O,J,Z,T,rfl⟩:=g.opn;exact G.r _ ⟨rfl,g⟩
 case' n1 =>
  rw[decide_eq_false A];have l2:=t
 case' n2 =>
  rw[decide_eq_false C];have l2:=t.trans l2
 case n1|n2 =>
  refine G.c call100 (El (h.num.mono l2) (j.num.mono l2) oV oV) ?_;intro v3 u3 E m;obtain⟨L,H,X,Q,rfl⟩:=m.opn;refine G.c call100 (El (h.den.mono (l2.trans E)) (j.den.mono (l2.trans E)) (by rw[A1e];omega) (by rw[A1e];omega)) ?_;intro v4 u4 F g;obtain⟨N,I,Y,R,rfl⟩:=g.opn;refine G.c call99 (Rb (m.mono F) g (by have:=B5 s1 s3;omega) (by have:=B5 (y:=(q.den:Int)) (z:=(r.den:Int)) (k:=1000000000000) (by rw[A1e];omega) (by rw[A1e];omega);omega) (Wi q r)) ?_;intro v5 u5 l5 D;rw[Ada]at D;obtain⟨b5,a5,n5,c5,P,K,a0,U,rfl⟩:=D.opn;exact G.r _ ⟨rfl,D⟩
def Xh (h:A9 u x q)(g:A9 u x' r)(Z:Sz q 1000000000000)(h2:Sz r 1000000000000):Fn0 prog 49 [x,x'] u fun v u'=>A9 u' v (q+r):=by
 obtain⟨s1,s2⟩:=Z;obtain⟨s3,s4⟩:=h2;obtain⟨b,a,n,c,b',a',n',c',rfl⟩:=h.opn;obtain⟨d,e,k,f,d',e',k',f',rfl⟩:=g.opn;have J:nl ((q.den:Int)).natAbs<=1000000000000:=by rw[A1e];exact s2
 have K:nl ((r.den:Int)).natAbs<=1000000000000:=by rw[A1e];exact s4
 have m1:=B5 s1 K;have m2:=B5 s3 J;have m3:=B5 J K;have m4:=Vf m1 m2;refine Fn0.o func49<|G.c call118 (I8 h oV) ?_;rintro v1 u1 t rfl;refine dite (q.den=1) (fun A=>?y) (fun A=>?n1)
 case' y =>
  rw[decide_eq_true A];refine G.c call118 (I8 (g.mono t) oV) ?_;rintro v2 u2 l2 rfl;refine dite (r.den=1) (fun C=>?yy) (fun C=>?n2)
 case yy =>
  rw[decide_eq_true C];refine G.c call119 (Acl (h.num.mono (t.trans l2)) (g.num.mono (t.trans l2)) oV oV) ?_;intro v3 u3 D m;obtain⟨Q,L,n3,V,rfl⟩:=m.opn;refine G.c call114 (Ql m) ?_;intro v4 u4 F j;rw[Amw A C]at j;obtain⟨R,N,n4,W,T,O,a0,X,rfl⟩:=j.opn;exact G.r _ ⟨rfl,j⟩
 case' n1 =>
  rw[decide_eq_false A];have l2:=t
 case' n2 =>
  rw[decide_eq_false C];have l2:=t.trans l2
 case n1|n2 =>
  refine G.c call100 (El (h.num.mono l2) (g.den.mono l2) oV oV) ?_;intro v3 u3 D m;obtain⟨Q,L,n3,V,rfl⟩:=m.opn;refine G.c call100 (El (g.num.mono (l2.trans D)) (h.den.mono (l2.trans D)) oV oV) ?_;intro v4 u4 F j;obtain⟨R,N,n4,W,rfl⟩:=j.opn;refine G.c call119 (Acl (m.mono F) j oV oV) ?_;intro v5 u5 l5 H;obtain⟨b5,a5,n5,c5,rfl⟩:=H.opn;have z:=((l2.trans D).trans F).trans l5;refine G.c call100 (El (h.den.mono z) (g.den.mono z) oV oV) ?_;intro v6 u6 l6 I;obtain⟨b6,a6,n6,c6,rfl⟩:=I.opn;refine G.c call99 (Rb (H.mono l6) I oV oV (Wi q r)) ?_;intro v7 u7 l7 E;rw[Vd]at E;obtain⟨b7,a7,n7,c7,U,P,a1,Y,rfl⟩:=E.opn;exact G.r _ ⟨rfl,E⟩
def Afb (h:A9 u x q)(m:A9 u x' r)(H:Sz q 1000000000000)(g:Sz r 1000000000000):Fn0 prog 51 [x,x'] u fun v L=>A9 L v (q-r):=by
 obtain⟨b,a,n,c,b',N,Z,T,rfl⟩:=h.opn;obtain⟨d,e,k,f,W,X,Y,f',rfl⟩:=m.opn;refine Fn0.o func51<|G.c call120 (An2 m (A0l g.1 oV)) ?_;intro v1 u1 I t;obtain⟨Q,O,n1,U,C,z,J,E,rfl⟩:=t.opn;refine G.c call49 (Xh (h.mono I) t H ⟨by rw[A9e,A26];exact g.1,by rw[A9f];exact g.2⟩) ?_;intro v2 u2 l2 j;rw[<-A7b]at j;obtain⟨R,P,n2,V,D,A,K,F,rfl⟩:=j.opn;exact G.r _ ⟨rfl,j⟩
def Afs (h:A9 u x q)(g:A9 u x' r)(E:Sz q 1000000000000)(F:Sz r 1000000000000)(H:r≠0):Fn0 prog 50 [x,x'] u fun v R=>A9 R v (q/r):=by
 obtain⟨K,L⟩:=E;obtain⟨N,O⟩:=F;obtain⟨b,a,n,c,b',T,n',c',rfl⟩:=h.opn;obtain⟨d,e,k,f,d',e',k',f',rfl⟩:=g.opn;have P:nl ((q.den:Int)).natAbs<=1000000000000:=by rw[A1e];exact L
 have Q:nl ((r.den:Int)).natAbs<=1000000000000:=by rw[A1e];exact O
 have m1:=B5 K Q;have m2:=B5 P N;refine Fn0.o func50<|G.c call100 (El h.num g.den oV oV) ?_;intro v3 u3 z m;obtain⟨X,U,n3,c3,rfl⟩:=m.opn;refine G.c call100 (El (h.den.mono z) (g.num.mono z) oV oV) ?_;intro v4 u4 I t;obtain⟨Y,V,n4,c4,rfl⟩:=t.opn;refine G.c call99 (Rb (m.mono I) t oV oV (A6g (by have:=q.den_nz;omega) (fun e=>H (A4d.1 e)))) ?_;intro v5 u5 l5 j;rw[Acy]at j;obtain⟨Z,W,n5,c5,C,A,J,D,rfl⟩:=j.opn;exact G.r _ ⟨rfl,j⟩
end
def S3 (y z:Nat):nl (y/z)<=nl y:=Cl (A24 y z)
def At2 (d:0<y)(g:Nat):(y/(g:Int)).natAbs=y.natAbs/g:=by
 obtain⟨k,rfl⟩:=A58 (A96 d);rfl
def Akj {u:PH}{x x':Value}{y z:Int}(h:Br u x y)(d:Br u x' z)(A:nl y.natAbs<=4000000000000)(sz:nl z.natAbs<=4000000000000)(E:0<y):Fn0 prog 174 [x,x'] u fun v F=>Br F v (y/(Nat.gcd y.natAbs z.natAbs:Nat)*z):=by
 obtain⟨b,a,n,c,rfl⟩:=h.opn;obtain⟨b',H,Y,R,rfl⟩:=d.opn;refine Fn0.o func174 ?_;have D:0<Nat.gcd y.natAbs z.natAbs:=Nat.gcd_pos_of_pos_left _ oV;have e:Nat.gcd y.natAbs z.natAbs<=y.natAbs:=Nat.gcd_le_left _ oV;have f:nl (Nat.gcd y.natAbs z.natAbs)<=4000000000000:=A0l (Cl e) A;refine G.c call132 (Abx h d oV oV) ?_;intro v1 u1 t g;obtain⟨N,I,Z,T,rfl⟩:=g.opn;refine G.c call176 (Oi (h.mono t) g A (by rw[A1e];exact f) oV) ?_;rintro v2 u2 l2 ⟨v3,v4,rfl,j,C⟩;obtain⟨O,J,n3,U,rfl⟩:=j.opn;obtain⟨P,K,n4,V,rfl⟩:=C.opn;refine G.c call100 (El j (d.mono (t.trans l2)) (by rw[At2 E];exact A0l (S3 _ _) oV) oV) ?_;intro v5 u5 X m;obtain⟨Q,L,n5,W,rfl⟩:=m.opn;exact G.r _ ⟨rfl,m⟩
end
def Arn {u:PH}{b:Bool}{a:Option Addr}{n c:Nat}{l:List Nat}(h:Cs u (.slice a n c) l)(D:l.length<=1000000000000000000) :
 Fn0 prog 141 [.agg #[.bool b,.slice a n c]] u fun v _=>v=.agg #[.bool (b&&decide (0<Bz l l.length)),.slice a (Bz l l.length) c]:=by
 obtain⟨rfl,A⟩:=h.len;refine Fn0.o func141<|G.l (ι:=Nat) (fun _=>[(1,.p 0 0),(2,.p 1 0)]) (fun k=>[(0,⟨82,[bV b,sV a k c]⟩),(1,⟨82,[bV false,sV none 0 0]⟩)])
  (fun k _ m=>k<=l.length/\Bz l l.length=Bz l k/\m=PH.mt) id l.length ⟨A0s _,rfl,rfl⟩ ?_
 rintro J k t F E e ⟨C,g,rfl⟩;rw[g];rcases k with _|k
 ·exact G.gF (0:Nat) 0<|G.eT' (0:Nat) 0 rfl<|G.r (.agg #[.bool false,.slice a 0 c]) ⟨rfl,by simp[Bz]⟩
 refine G.gT (k+1:Nat) 0<|G.s (k+1:Nat) 1 k ?_;obtain⟨f,d,rfl,z⟩:=(h.mono e).at (j:=k) oV;refine G.a f d (k+1) c k 1 oV<|G.lU none f (d+k*1) (.int .i64 (l.getD k 0:Nat)) z ?_;by_cases h0:l.getD k 0=0
 ·exact G.eT (l.getD k 0:Nat) 0<|G.s (k+1:Nat) 1 k<|G.sliceTo 1 (some ⟨f,d,none⟩) (k+1) c k kV oV<|G.b (t k _ _ _ cV e ⟨oV,by rw[g];simp only[Bz,if_pos h0],rfl⟩ mV)
 exact G.eF (l.getD k 0:Nat) 0<|G.eF (k+1:Nat) 0<|G.r (.agg #[.bool b,.slice (some ⟨f,d,none⟩) (k+1) c]) ⟨rfl,by simp only[Bz,if_neg h0];simp⟩
section
variable {k:Nat}{u:PH}{va vb:Value}
def D4 (l:List Nat)(n:Nat):Ai l++[.int .i64 n]=Ai (l++[n]):=by simp[Ai]
def K1 {m n:Nat}(N:Cs u va (Aa m))(O:Cs u vb (Aa n))(V:nl m<=1000000000000000000)(sb:nl n<=1000000000000000000) :
 Fn0 prog 143 [va,vb] u fun v _=>v=.int .i64 (sgn ((m:Int)-n)):=by
 obtain⟨a,E,rfl,R⟩:=N.opn;obtain⟨b,F,rfl,T⟩:=O.opn;have W:(Aa m).length<=1000000000000000000:=V;refine Fn0.o func143 ?_;by_cases D:(Aa m).length=(Aa n).length
 ·refine G.nF ((Aa m).length:Int) ((Aa n).length:Int)<|G.sub ((Aa m).length:Int) 1 (((Aa m).length:Int)-1) kV rfl oV oV<|G.l (ι:=Int) (fun z=>[(0,sV a (Aa m).length E),(1,sV b (Aa n).length F),(5,iV z)]) (fun _=>[])
   (fun z _ P=>-1<=z/\z<(Aa m).length/\(Aa m).drop (z+1).toNat=(Aa n).drop (z+1).toNat/\P=PH.mt) (fun z=>(z+1).toNat) (((Aa m).length:Int)-1)
   ⟨oV,oV,by rw[A11 oV,A11 oV],rfl⟩ ?_
  rintro J z Q Z P e ⟨X,Y,d,rfl⟩;by_cases U:0<=z
  ·obtain⟨k,rfl⟩:=A58 U;have t:k<(Aa m).length:=oV;rw[show ((k:Int)+1).toNat=k+1 by omega]at d;obtain⟨g,A,rfl,H⟩:=(N.mono e).at (j:=k) t;obtain⟨h,C,rfl,I⟩:=(O.mono e).at (j:=k) oV;refine G.hT k 0<|G.a g A (Aa m).length E k 1 t<|G.lU none g (A+k*1) (.int .i64 ((Aa m).getD k 0:Nat)) H<|G.a h C (Aa n).length F k 1 oV<|G.lU none h (C+k*1) (.int .i64 ((Aa n).getD k 0:Nat)) I ?_;rcases A5q ((Aa m).getD k 0) ((Aa n).getD k 0) with f|K|L
   ·refine G.lT ((Aa m).getD k 0:Nat) ((Aa n).getD k 0:Nat) ?_;have:=Gz D t (Ar _) d f;rw[Al,Al]at this;exact G.r (.int .i64 (-1)) ⟨rfl,by rw[En oV]⟩
   ·refine G.lF ((Aa m).getD k 0:Nat) ((Aa n).getD k 0:Nat)<|G.a g A (Aa m).length E k 1 t<|G.lU none g (A+k*1) (.int .i64 ((Aa m).getD k 0:Nat)) H<|G.a h C (Aa n).length F k 1 oV<|G.lU none h (C+k*1) (.int .i64 ((Aa n).getD k 0:Nat)) I<|G.gF ((Aa m).getD k 0:Nat) ((Aa n).getD k 0:Nat)<|G.sub (k:Int) 1 ((k:Int)-1) kV rfl oV oV<|G.b (Q ((k:Int)-1) _ _ _ cV e ⟨oV,oV,?_,rfl⟩ mV);rw[show ((k:Int)-1+1).toNat=k by omega,Cq (Aa m) k t,Cq (Aa n) k oV,d,K]
   refine G.lF ((Aa m).getD k 0:Nat) ((Aa n).getD k 0:Nat)<|G.a g A (Aa m).length E k 1 t<|G.lU none g (A+k*1) (.int .i64 ((Aa m).getD k 0:Nat)) H<|G.a h C (Aa n).length F k 1 oV<|G.lU none h (C+k*1) (.int .i64 ((Aa n).getD k 0:Nat)) I<|G.gT ((Aa m).getD k 0:Nat) ((Aa n).getD k 0:Nat) ?_;have:=Gz D.symm oV (Ar _) d.symm L;rw[Al,Al]at this;exact G.r (.int .i64 1) ⟨rfl,by rw[Db oV]⟩
  obtain rfl:z = -1:=oV;refine G.hF (-1) 0 ?_;have:m=n:=by
   have d:(Aa m).drop 0=(Aa n).drop 0:=d;rw[A4v,A4v]at d;rw[<-Al m,<-Al n,d]
  exact G.r (.int .i64 0) ⟨rfl,by rw[this,Int.sub_self];rfl⟩
 refine G.nT ((Aa m).length:Int) ((Aa n).length:Int) ?_;by_cases f:(Aa m).length<(Aa n).length
 ·refine G.lT ((Aa m).length:Int) ((Aa n).length:Int) ?_;have:=Kr (m:=m) (n:=n) f;exact G.r (.int .i64 (-1)) ⟨rfl,by rw[En oV]⟩
 refine G.lF ((Aa m).length:Int) ((Aa n).length:Int) ?_;have:=Kr (m:=n) (n:=m) (show nl n<nl m by unfold nl;omega);exact G.r (.int .i64 1) ⟨rfl,by rw[Db oV]⟩
theorem I1 {l:List Nat}(h:¬ k<l.length):l.getD k 0=0:=by grind
def Ln.over {a b ys:List Nat}{k c:Nat}(h:Ln a b k ys c)(g:Low a)(j:Low b)(e:¬ k<a.length)(f:¬ k<b.length)(d:c=0):val ys=val a+val b:=by
 have:=h.sum;rw[A00 oV,A00 oV,d]at this;simpa using this
def Apz {la d:List Nat}(W:Cs u va la)(Q:Cs u vb d)(n:Low la)(t:Low d)(sa:la.length<=1000000000000)(sb:d.length<=1000000000000) :
 Fn0 prog 142 [va,vb] u fun v Z=>∃ l,Cs Z v l/\Low l/\val l=val la+val d/\l.length<=max la.length d.length+1:=by
 obtain⟨a,V,rfl,a3⟩:=W.opn;obtain⟨b,N,rfl,a4⟩:=Q.opn;refine Fn0.o func142<|G.l (ι:=Nat×List Nat×Nat×Value) (fun i=>[(0,sV a la.length V),(1,sV b d.length N),(5,.v i.2.2.2),(6,iV i.2.2.1),(7,iV i.1)]) (fun _=>[])
  (fun i _ X=>(i.1<=max la.length d.length+1/\(max la.length d.length+1<=i.1->i.2.2.1=0))/\Af PH.mt X i.2.2.2 3 1 (Ai i.2.1)/\Ln la d i.1 i.2.1 i.2.2.1) (fun i=>max la.length d.length+2-i.1) (0,[],0,.slice none 0 0)
  ⟨⟨mV,fun _=>rfl⟩,Af.nil _ _ _,Ln.start _ _⟩ ?_
 rintro J ⟨k,ys,c,A⟩ I Z X m ⟨hk,C,e⟩;simp only at hk C e I;have a2:=e.carry;have P:=n.getD k;have a0:=t.getD k;obtain⟨ao,co,rfl⟩:=C.shape;obtain⟨A,R⟩:∃ A,A=Value.slice ao (Ai ys).length co:=⟨_,rfl⟩;rw[<-R]at C⊢;have fin:max la.length d.length+1<=1000000000001:=oV;by_cases z:k<la.length
 ·refine G.lT k la.length<|G.lT k la.length ?_;have a5:la.getD k 0<1000000000:=P;obtain⟨U,Y,rfl,ea⟩:=(W.mono m).at (j:=k) z;refine G.a U Y la.length V k 1 z<|G.lU none U (Y+k*1) (.int .i64 (la.getD k 0:Nat)) ea<|G.p c (la.getD k 0:Nat) (c+la.getD k 0:Nat) ?_;by_cases h:k<d.length
  ·refine G.lT k d.length ?_;obtain⟨H,K,rfl,O⟩:=(Q.mono m).at (j:=k) h;refine G.a H K d.length N k 1 h<|G.lU none H (K+k*1) (.int .i64 (d.getD k 0:Nat)) O<|G.p (c+la.getD k 0:Nat) (d.getD k 0:Nat) (c+la.getD k 0+d.getD k 0:Nat)<|G.rem ((c+la.getD k 0+d.getD k 0:Nat):Int) 1000000000 (((c+la.getD k 0+d.getD k 0)%1000000000:Nat):Int) kV oV oV oV oV<|G.B 3 1 8 (.int .i64 0) [.int .i64 (((c+la.getD k 0+d.getD k 0)%1000000000:Nat):Int)] (A4 [(c+la.getD k 0+d.getD k 0)%1000000000]) ?_;intro g L D E;refine G.append 3 1 8 (.int .i64 0) PH.mt (Ai ys) [.int .i64 (((c+la.getD k 0+d.getD k 0)%1000000000:Nat):Int)] A g 0 1 1 kV rfl rfl oV C E (A4 [(c+la.getD k 0+d.getD k 0)%1000000000]) rfl oV (by rw[Am,e.len];omega) (by rw[Am,e.len];omega) ?_;intro F T f;rw[D4]at f;refine G.quo ((c+la.getD k 0+d.getD k 0:Nat):Int) 1000000000 (((c+la.getD k 0+d.getD k 0)/1000000000:Nat):Int) kV oV oV oV oV<|G.i k<|G.b (I (k+1,ys++[(c+la.getD k 0+d.getD k 0)%1000000000],(c+la.getD k 0+d.getD k 0)/1000000000,F) _ _ _ cV (m.trans D) ⟨⟨oV,dV⟩,f,?_⟩ (by show max la.length d.length+2-(k+1)<max la.length d.length+2-k;omega));have:=e.step n t (x:=la.getD k 0) (y:=d.getD k 0) rfl rfl;rw[show la.getD k 0+d.getD k 0+c=c+la.getD k 0+d.getD k 0 by omega]at this;exact this
  have hz:=I1 h;refine G.lF k d.length<|G.rem ((c+la.getD k 0:Nat):Int) 1000000000 (((c+la.getD k 0)%1000000000:Nat):Int) kV oV oV oV oV<|G.B 3 1 8 (.int .i64 0) [.int .i64 (((c+la.getD k 0)%1000000000:Nat):Int)] (A4 [(c+la.getD k 0)%1000000000]) ?_;intro g L D E;refine G.append 3 1 8 (.int .i64 0) PH.mt (Ai ys) [.int .i64 (((c+la.getD k 0)%1000000000:Nat):Int)] A g 0 1 1 kV rfl rfl oV C E (A4 [(c+la.getD k 0)%1000000000]) rfl oV (by rw[Am,e.len];omega) (by rw[Am,e.len];omega) ?_;intro F T f;rw[D4]at f;refine G.quo ((c+la.getD k 0:Nat):Int) 1000000000 (((c+la.getD k 0)/1000000000:Nat):Int) kV oV oV oV oV<|G.i k<|G.b (I (k+1,ys++[(c+la.getD k 0)%1000000000],(c+la.getD k 0)/1000000000,F) _ _ _ cV (m.trans D) ⟨⟨oV,dV⟩,f,?_⟩ (by show max la.length d.length+2-(k+1)<max la.length d.length+2-k;omega));have:=e.step n t (x:=la.getD k 0) (y:=d.getD k 0) rfl rfl;rw[show la.getD k 0+d.getD k 0+c=c+la.getD k 0 by omega]at this;exact this
 have a6:=I1 z;by_cases h:k<d.length
 ·refine G.lF k la.length<|G.lT k d.length<|G.lF k la.length<|G.lT k d.length ?_;obtain⟨H,K,rfl,O⟩:=(Q.mono m).at (j:=k) h;refine G.a H K d.length N k 1 h<|G.lU none H (K+k*1) (.int .i64 (d.getD k 0:Nat)) O<|G.p (c:Nat) (d.getD k 0:Nat) (c+d.getD k 0:Nat)<|G.rem ((c+d.getD k 0:Nat):Int) 1000000000 (((c+d.getD k 0)%1000000000:Nat):Int) kV oV oV oV oV<|G.B 3 1 8 (.int .i64 0) [.int .i64 (((c+d.getD k 0)%1000000000:Nat):Int)] (A4 [(c+d.getD k 0)%1000000000]) ?_;intro g L D E;refine G.append 3 1 8 (.int .i64 0) PH.mt (Ai ys) [.int .i64 (((c+d.getD k 0)%1000000000:Nat):Int)] A g 0 1 1 kV rfl rfl oV C E (A4 [(c+d.getD k 0)%1000000000]) rfl oV (by rw[Am,e.len];omega) (by rw[Am,e.len];omega) ?_;intro F T f;rw[D4]at f;refine G.quo ((c+d.getD k 0:Nat):Int) 1000000000 (((c+d.getD k 0)/1000000000:Nat):Int) kV oV oV oV oV<|G.i k<|G.b (I (k+1,ys++[(c+d.getD k 0)%1000000000],(c+d.getD k 0)/1000000000,F) _ _ _ cV (m.trans D) ⟨⟨oV,dV⟩,f,?_⟩ (by show max la.length d.length+2-(k+1)<max la.length d.length+2-k;omega));have:=e.step n t (x:=la.getD k 0) (y:=d.getD k 0) rfl rfl;rw[show la.getD k 0+d.getD k 0+c=c+d.getD k 0 by omega]at this;exact this
 have a7:=I1 h;by_cases a1:0<c
 ·refine G.lF k la.length<|G.lF k d.length<|G.gT c 0<|G.lF k la.length<|G.lF k d.length<|G.rem ((c:Nat):Int) 1000000000 (((c)%1000000000:Nat):Int) kV oV oV oV oV<|G.B 3 1 8 (.int .i64 0) [.int .i64 (((c)%1000000000:Nat):Int)] (A4 [(c)%1000000000]) ?_;intro g L D E;refine G.append 3 1 8 (.int .i64 0) PH.mt (Ai ys) [.int .i64 (((c)%1000000000:Nat):Int)] A g 0 1 1 kV rfl rfl oV C E (A4 [(c)%1000000000]) rfl oV (by rw[Am,e.len];omega) (by rw[Am,e.len];omega) ?_;intro F T f;rw[D4]at f;refine G.quo ((c:Nat):Int) 1000000000 (((c)/1000000000:Nat):Int) kV oV oV oV oV<|G.i k<|G.b (I (k+1,ys++[(c)%1000000000],(c)/1000000000,F) _ _ _ cV (m.trans D) ⟨⟨oV,dV⟩,f,?_⟩ (by show max la.length d.length+2-(k+1)<max la.length d.length+2-k;omega));have:=e.step n t (x:=la.getD k 0) (y:=d.getD k 0) rfl rfl;rw[show la.getD k 0+d.getD k 0+c=c by omega]at this;exact this
 refine G.lF k la.length<|G.lF k d.length<|G.gF c 0<|G.give PH.mt (Ai ys) A kV C (fun _=>.inl rfl) ?_;intro L D hL;refine G.r A ⟨rfl,ys,hL,e.low,e.over n t z h oV,?_⟩;rw[e.len];omega
end
section
variable {la ys:List Nat}
def Hu (l:List Nat):List Int:=l.map fun (n:Nat)=>(n:Int)
def Zl (la ys:List Nat)(c:Nat):List Int:=Hu ys++(match la.drop ys.length with|[]=>[]|x::r=>((x:Int)-c)::Hu r)
def Ap8 (la:List Nat):Zl la [] 0=Hu la:=by
 unfold Zl;cases la<;>simp[Hu]
def U9 (c:Nat)(h:ys.length<la.length):Zl la ys c=Hu ys++((la.getD ys.length 0:Nat)-(c:Int))::Hu (la.drop (ys.length+1)):=by
 unfold Zl;rw[Cq la ys.length h]
def Ns (c:Nat)(h:ys.length<=la.length):(Zl la ys c).length=la.length:=by
 rcases A16 ys.length la.length with d|d
 ·rw[U9 c d];simp[Hu];omega
 unfold Zl;rw[A11 d];simp[Hu];omega
def Avv (c:Nat)(h:ys.length<la.length):(Zl la ys c)[ys.length]?=some ((la.getD ys.length 0:Nat)-(c:Int)):=by
 rw[U9 c h,A1d (by simp[Hu])];simp[Hu]
def Aok (c:Nat)(d:Int)(h:ys.length<la.length):(Zl la ys c).set ys.length d=Hu ys++d::Hu (la.drop (ys.length+1)):=by
 rw[U9 c h,A5l _ _ (by simp[Hu])];simp[Hu]
def Uz (c n:Nat)(h:ys.length<la.length):(Zl la ys c).set ys.length (n:Int)=Zl la (ys++[n]) 0:=by
 rw[Aok c _ h];unfold Zl;simp only[A03,A28];cases la.drop (ys.length+1)<;>simp[Hu]
def Af2 (c n:Nat)(h:ys.length+1<la.length):((Zl la ys c).set ys.length (n:Int)).set (ys.length+1) ((la.getD (ys.length+1) 0:Nat)-1)=Zl la (ys++[n]) 1:=by
 rw[Uz c n oV];have d:(ys++[n]).length<la.length:=by simpa using h
 have:=Aok (la:=la) (ys:=ys++[n]) 0 ((la.getD (ys.length+1) 0:Nat)-1) d;rw[A03,A28]at this;rw[this,U9 1 d];simp
def Ak0 (c n:Nat)(h:ys.length+1<la.length):((Zl la ys c).set ys.length (n:Int))[ys.length+1]?=some ((la.getD (ys.length+1) 0:Nat):Int):=by
 rw[Uz c n oV];have:=Avv (la:=la) (ys:=ys++[n]) 0 (by simpa using h);rw[A03,A28]at this;simpa using this
def Avh (c:Nat)(h:ys.length=la.length):Zl la ys c=Hu ys:=by
 unfold Zl;rw[A11 oV];simp
def La.last {a b ys:List Nat}{c:Nat}(h:La a b a.length ys c)(e:b.length<=a.length)(f:val b<=val a):c=0:=by
 have g:=h.sum;rw[A00 (A0s _),A00 e]at g;have d:=Ku h.low;rw[h.len]at d;rcases A1p c with h0|h0
 ·exact h0
 have:1000000000^a.length*1<=1000000000^a.length*c:=A19 _ h0;omega
def elZ {l:List Int}{j:Nat}{d:Int}(h:l[j]?=some d):(Er l)[j]?=some (.int .i64 d):=by simp[Er,h]
def K7 {u:PH}{va vb:Value}{la t:List Nat}(ha:Cs u va la)(hb:Cs u vb t)(K:Low la)(V:Low t)(sa:la.length<=1000000000000)(L:t.length<=la.length)(N:val t<=val la) :
 Fn0 prog 144 [va,vb] u fun v u'=>∃ l,Cs u' v l/\Low l/\val l=val la-val t/\l.length=la.length:=by
 obtain⟨a,ca,rfl,a7⟩:=ha.opn;obtain⟨b,cb,rfl,a8⟩:=hb.opn;refine Fn0.o func144 ?_;rcases A1p la.length with h0|h0
 ·have e1:la = []:=A14 h0;have e2:t = []:=A14 oV;subst e1 e2;refine G.appendNil 3 1 8 (.int .i64 0) a ca kV<|G.l (ι:=Unit) (fun _=>[(5,sV none 0 0),(6,iV 0)]) (fun _=>[]) (fun _ _ m'=>m'=PH.mt) (fun _=>0) () rfl ?_;rintro J _ hJ u' m' O rfl;exact G.lF 0 (0:Nat)<|G.r (.slice none 0 0) ⟨rfl,[],Ab.nil _ _ _ _,Low.nil,by simp[val],rfl⟩
 obtain⟨ba,oa,rfl,_⟩:=ha.at (j:=0) h0;refine G.append 3 1 8 (.int .i64 0) PH.mt [] (Ai la) (.slice none 0 0) ba oa la.length ca kV rfl rfl oV (Af.nil _ _ _) ha.els (A4 la) (Am la) h0 gV gV ?_;intro vo m1 Q;rw[A41,<-Sn]at Q;obtain⟨g,A,rfl⟩:=Q.ptr (by intro e;have:=congrArg List.length e;rw[Ch,A0k,A3q]at this;omega);have a0:Af PH.mt m1 (.slice (some ⟨g,0,none⟩) la.length A) 3 1 (Er (Zl la [] 0)):=by
  have:=Q;rw[Ch,A0k]at this;rw[Ap8];exact this
 rw[Ch,A0k];refine G.l (ι:=Nat×List Nat×Nat) (fun i=>[(1,sV b t.length cb),(5,sV (some ⟨g,0,none⟩) la.length A),(6,iV i.1)]) (fun _=>[])
  (fun i _ m'=>i.1<=la.length/\La la t i.1 i.2.1 i.2.2/\Af PH.mt m' (.slice (some ⟨g,0,none⟩) la.length A) 3 1 (Er (Zl la i.2.1 i.2.2))) (fun i=>la.length-i.1) (0,[],0)
  ⟨mV,La.start _ _,a0⟩ ?_
 clear Q a0 m1;rintro J ⟨k,ys,c⟩ hJ u' m' O ⟨hk,C,Q⟩;simp only at hk C Q hJ;have a6:=C.carry;have D:=C.len;have a3:=K.getD k;have a4:=V.getD k;by_cases m:k<la.length
 ·refine G.lT k la.length ?_;have a2:ys.length<la.length:=oV;have W:=Avv (la:=la) (ys:=ys) c a2;rw[D]at W;by_cases Y:k<t.length
  ·obtain⟨bb,ob,rfl,eb⟩:=(hb.mono O).at (j:=k) Y;refine G.lT k t.length<|G.a g 0 la.length A k 1 m<|G.lM none g (0+k*1) (.int .i64 ((la.getD k 0:Nat)-(c:Int))) (Q.el (elZ W))<|G.a bb ob t.length cb k 1 Y<|G.lU none bb (ob+k*1) (.int .i64 (t.getD k 0:Nat)) eb ?_;obtain⟨d,hd⟩:∃ d:Int,d=(la.getD k 0:Nat)-(c:Int)-(t.getD k 0:Nat):=⟨_,rfl⟩;refine G.s ((la.getD k 0:Nat)-(c:Int)) (t.getD k 0:Nat) d<|G.a g 0 la.length A k 1 m<|G.storeA 1 PH.mt _ g la.length A k (.int .i64 d) kV Q (by rw[Ch,Ns c oV];exact m) rfl rfl ?_;intro m2 z;rw[Kz]at z;have T:((Zl la ys c).set k d)[k]?=some d:=by rw[A2q (by rw[Ns c oV];exact m)]
   refine G.a g 0 la.length A k 1 m<|G.lM none g (0+k*1) (.int .i64 d) (z.el (elZ T)) ?_;by_cases E:d<0
   ·refine G.lT' d 0 E ?_;have f:=C.step K V (x:=la.getD k 0) (y:=t.getD k 0) rfl rfl;obtain⟨n,Z⟩:∃ n:Nat,n=(la.getD k 0+1000000000-t.getD k 0-c)%1000000000:=⟨_,rfl⟩;have H:1-(la.getD k 0+1000000000-t.getD k 0-c)/1000000000=1:=oV;rw[<-Z,H]at f;have I:k+1<la.length:=by
     rcases A16 (k+1) la.length with h|h
     ·exact h
     have:k+1=la.length:=oV;rw[this]at f;have:=f.last L N;omega
    refine G.a g 0 la.length A k 1 m<|G.lM none g (0+k*1) (.int .i64 d) (z.el (elZ T))<|G.p d 1000000000 n<|G.a g 0 la.length A k 1 m<|G.storeA 1 PH.mt _ g la.length A k (.int .i64 n) kV z (by rw[Ch,A3r,Ns c oV];exact m) rfl rfl ?_;intro m3 F;rw[Kz,A5i]at F;refine G.i k ?_;have U:=Ak0 (la:=la) (ys:=ys) c n oV;rw[D]at U;have a1:=K.getD (k+1);refine G.a g 0 la.length A (k+1) 1 I<|G.lM none g (0+(k+1)*1) (.int .i64 ((la.getD (k+1) 0:Nat):Int)) (F.el (elZ U))<|G.sub ((la.getD (k+1) 0:Nat):Int) 1 ((la.getD (k+1) 0:Nat)-1) kV rfl oV oV<|G.a g 0 la.length A (k+1) 1 I<|G.storeA 1 PH.mt _ g la.length A (k+1) (.int .i64 ((la.getD (k+1) 0:Nat)-1)) kV F (by rw[Ch,A3r,Ns c oV];exact I) rfl rfl ?_;intro m4 R;have P:=Af2 (la:=la) (ys:=ys) c n oV;rw[D]at P;rw[Kz,P]at R;exact G.i k<|G.b (hJ (k+1,ys++[n],1) _ _ _ cV O ⟨oV,f,R⟩ dV)
   refine G.lF' d 0 E ?_;have f:=C.step K V (x:=la.getD k 0) (y:=t.getD k 0) rfl rfl;obtain⟨n,Z⟩:∃ n:Nat,n=(la.getD k 0+1000000000-t.getD k 0-c)%1000000000:=⟨_,rfl⟩;have H:1-(la.getD k 0+1000000000-t.getD k 0-c)/1000000000=0:=oV;rw[<-Z,H]at f;have X:d=(n:Int):=oV;have P:=Uz (la:=la) (ys:=ys) c n oV;rw[D]at P;rw[X,P]at z;exact G.i k<|G.b (hJ (k+1,ys++[n],0) _ _ _ cV O ⟨oV,f,z⟩ dV)
  have hz:=I1 Y;refine G.lF k t.length ?_;obtain⟨d,hd⟩:∃ d:Int,d=(la.getD k 0:Nat)-(c:Int)-(t.getD k 0:Nat):=⟨_,rfl⟩;have z:Af PH.mt m' (.slice (some ⟨g,0,none⟩) la.length A) 3 1 (Er ((Zl la ys c).set k d)):=by
   have e:(Zl la ys c).set k d=Zl la ys c:=by
    have:(la.getD k 0:Nat)-(c:Int)=d:=oV;rw[this]at W;refine A4m fun j=>?_;by_cases hj:k=j
    ·subst hj;rw[A2q (by rw[Ns c oV];exact m),W]
    rw[A5t hj]
   rw[e];exact Q
  have T:((Zl la ys c).set k d)[k]?=some d:=by rw[A2q (by rw[Ns c oV];exact m)]
  refine G.a g 0 la.length A k 1 m<|G.lM none g (0+k*1) (.int .i64 d) (z.el (elZ T)) ?_;by_cases E:d<0
  ·refine G.lT' d 0 E ?_;have f:=C.step K V (x:=la.getD k 0) (y:=t.getD k 0) rfl rfl;obtain⟨n,Z⟩:∃ n:Nat,n=(la.getD k 0+1000000000-t.getD k 0-c)%1000000000:=⟨_,rfl⟩;have H:1-(la.getD k 0+1000000000-t.getD k 0-c)/1000000000=1:=oV;rw[<-Z,H]at f;have I:k+1<la.length:=by
    rcases A16 (k+1) la.length with h|h
    ·exact h
    have:k+1=la.length:=oV;rw[this]at f;have:=f.last L N;omega
   refine G.a g 0 la.length A k 1 m<|G.lM none g (0+k*1) (.int .i64 d) (z.el (elZ T))<|G.p d 1000000000 n<|G.a g 0 la.length A k 1 m<|G.storeA 1 PH.mt _ g la.length A k (.int .i64 n) kV z (by rw[Ch,A3r,Ns c oV];exact m) rfl rfl ?_;intro m3 F;rw[Kz,A5i]at F;refine G.i k ?_;have U:=Ak0 (la:=la) (ys:=ys) c n oV;rw[D]at U;have a1:=K.getD (k+1);refine G.a g 0 la.length A (k+1) 1 I<|G.lM none g (0+(k+1)*1) (.int .i64 ((la.getD (k+1) 0:Nat):Int)) (F.el (elZ U))<|G.sub ((la.getD (k+1) 0:Nat):Int) 1 ((la.getD (k+1) 0:Nat)-1) kV rfl oV oV<|G.a g 0 la.length A (k+1) 1 I<|G.storeA 1 PH.mt _ g la.length A (k+1) (.int .i64 ((la.getD (k+1) 0:Nat)-1)) kV F (by rw[Ch,A3r,Ns c oV];exact I) rfl rfl ?_;intro m4 R;have P:=Af2 (la:=la) (ys:=ys) c n oV;rw[D]at P;rw[Kz,P]at R;exact G.i k<|G.b (hJ (k+1,ys++[n],1) _ _ _ cV O ⟨oV,f,R⟩ dV)
  refine G.lF' d 0 E ?_;have f:=C.step K V (x:=la.getD k 0) (y:=t.getD k 0) rfl rfl;obtain⟨n,Z⟩:∃ n:Nat,n=(la.getD k 0+1000000000-t.getD k 0-c)%1000000000:=⟨_,rfl⟩;have H:1-(la.getD k 0+1000000000-t.getD k 0-c)/1000000000=0:=oV;rw[<-Z,H]at f;have X:d=(n:Int):=oV;have P:=Uz (la:=la) (ys:=ys) c n oV;rw[D]at P;rw[X,P]at z;exact G.i k<|G.b (hJ (k+1,ys++[n],0) _ _ _ cV O ⟨oV,f,z⟩ dV)
 obtain rfl:k=la.length:=oV;refine G.lF la.length la.length ?_;have a5:=C.last L N;rw[Avh c D,show Er (Hu ys)=Ai ys from Sn ys]at Q;refine G.give PH.mt (Ai ys) _ kV Q (fun _=>.inl rfl) ?_;intro u1 l1 hL;exact G.r (.slice (some ⟨g,0,none⟩) la.length A) ⟨rfl,ys,hL,C.low,C.done L N,D⟩
end
end Go.Proofs.YtdgncafgglafjaaGreatDoor
