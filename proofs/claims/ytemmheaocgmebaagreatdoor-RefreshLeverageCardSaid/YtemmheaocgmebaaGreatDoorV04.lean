import Derived.Test.YtemmheaocgmebaaGreatDoorV03
import Derived.Laws.AppendOwn
import Derived.Laws.MakeOwn
import Derived.IntWalk
import Derived.Lib.TrimByte
import Derived.Lib.ItoaNum
import Derived.Laws.IdiomStrings
set_option linter.defProp false
set_option linter.unusedVariables false
set_option linter.unusedSimpArgs false
set_option linter.unusedSectionVars false
set_option maxHeartbeats 16000000
namespace Go.Proofs.YtemmheaocgmebaaGreatDoor
open Go.Proofs.Tryz
open Go.RowKit
def A6o:=@List.flatMap_cons
def A57:=@List.mem_flatMap
def A61:=@Array.getElem?_eq_some_iff
def A1r:=@List.getElem?_append_left
def A18:=@List.getElem?_append_right
def A30:=@List.length_nil
def A97:=@Array.toList_append
def A7v:=@Nat.le_of_succ_le
def A3q:=@List.nil_append
def A3t:=@List.toList_toArray
def A8r:=@List.drop_drop
def A8s:=@List.drop_left
def A4y:=@List.length_drop
def A05:=@List.getElem?_eq_some_iff
def A58:=@Nat.zero_mul
def A9o:=@List.drop_eq_nil_of_le
def A6n:=@List.take_append_of_le_length
def A21:=@List.length_set
def A6t:=@Nat.sub_zero
def A32:=@Int.tdiv_eq_ediv_of_nonneg
def A8m:=@Int.ediv_nonneg
def A9b:=@Int.ediv_le_self
def A47:=@Int.tmod_eq_emod_of_nonneg
def Bad:=@Int.le_of_lt
def A3u:=@Nat.div_le_self
def A8x:=@Nat.gcd_zero_right
def A3l:=@Int.natAbs_neg
def A7i:=@Int.sub_eq_add_neg
def Ba3:=@Rat.neg_num
def Ba4:=@Rat.neg_den
def A7j:=@Nat.gcd_pos_of_pos_right
def A4r:=@Rat.num_eq_zero
def A20:=@List.length_singleton
def A03:=@List.length_map
def A9z:=@List.getElem?_set_ne
section
variable {b n off:Nat}{env:Operand->Value}{o:Op}{q:Rat}{v x:Value}{w:World}
instance:A6 prog:=⟨kV,kV⟩
def Xn (u:PH)(b off:Nat)(x:Value):Prop:=∃ cs t fr,u b=some (.cells cs t fr)/\cs[off]?=some x
def Xn.mono {u e:PH}(h:Xn u b off x)(A:PH.le u e):Xn e b off x:=by
 obtain⟨cs,t,fr,f,j⟩:=h;exact⟨cs,t,fr,A _ _ f,j⟩
def Xn.cell {u:PH}{w:World}{b off:Nat}{x:Value}(h:Xn u b off x)(hp:Fj u w):w.cell? ⟨b,off,none⟩=some x:=by
 obtain⟨cs,t,fr,e,f⟩:=h;simp[World.cell?,hp _ _ e,f]
def ElP (u:PH)(b off:Nat)(e:Value):Prop:=∀ (i:Nat) (x:Value),e.cells[i]?=some x->Xn u b (off+i) x
def ElP.mono {u f:PH}{b off:Nat}{e:Value}(h:ElP u b off e)(j:PH.le u f):ElP f b off e:=fun i x hi=>(h i x hi).mono j
def Wg (k:Option Nat)(e:Value):Bool :=
 match k with
 |some n=>match e with
  |.agg cs=>Nat.beq n cs.size
  |_=>false
 |none=>match e with|.agg _=>false|_=>true
def Ahl (u:PH)(a:zP)(cs:zV):Prop:=∀ j,j<cs.length->∃ b off,a=some ⟨b,off,none⟩/\Xn u b (off+j) (cs.getD j zL)
def Dk (u:PH)(v:Value)(n:Nat):Prop:=∃ a cap,v=.slice a (Aa n).length cap/\(Aa n).length<=cap/\Ahl u a (A8 (Aa n))
def Bi (u:PH)(v:Value)(z:Int):Prop:=∃ a n c,v=.agg #[.bool (decide (z<0)),.slice a n c]/\Dk u (.slice a n c) z.natAbs
def Bg (u:PH)(v:Value)(q:Rat):Prop :=
 ∃ a n c a' n' c',v=.agg #[.bool (decide (q.num<0)),.slice a n c,zL,.slice a' n' c']/\Dk u (.slice a n c) q.num.natAbs/\Dk u (.slice a' n' c') q.den
def Dk.mono {u e:PH}{v:Value}{n:Nat}(h:Dk u v n)(F:PH.le u e):Dk e v n:=by
 obtain⟨a,cap,A,C,D⟩:=h;exact⟨a,cap,A,C,fun j E=>by obtain⟨b,off,f,t⟩:=D j E;exact⟨b,off,f,t.mono F⟩⟩
def Bi.mono {u e:PH}{v:Value}{z:Int}(h:Bi u v z)(t:PH.le u e):Bi e v z:=by
 obtain⟨a,n,c,f,j⟩:=h;exact⟨a,n,c,f,j.mono t⟩
def Bg.mono {u f:PH}{v:Value}{q:Rat}(h:Bg u v q)(e:PH.le u f):Bg f v q:=by
 obtain⟨a,n,c,j,E,t,A,C,D⟩:=h;exact⟨a,n,c,j,E,t,A,C.mono e,D.mono e⟩
def Dk.toW {u:PH}(h:Dk u v n)(hp:Fj u w):C8 w v n:=by
 obtain⟨a,cap,t,A,C⟩:=h;exact⟨a,cap,t,A,fun j D=>by obtain⟨b,off,e,f⟩:=C j D;exact⟨b,off,e,f.cell hp⟩⟩
def Bi.toW {u:PH}{w:World}{v:Value}{z:Int}(h:Bi u v z)(hp:Fj u w):St w v z:=by
 obtain⟨a,n,c,e,f⟩:=h;exact⟨a,n,c,e,f.toW hp⟩
def Bg.toW {u:PH}{w:World}{v:Value}{q:Rat}(h:Bg u v q)(hp:Fj u w):Xd w v q:=by
 obtain⟨a,n,c,e,C,f,j,t,A⟩:=h;exact⟨a,n,c,e,C,f,j,t.toW hp,A.toW hp⟩
def Dk.ofW {u:PH}(h:C8 w v n)(H:Adw u w):Dk u v n:=by
 obtain⟨a,cap,D,E,F⟩:=h;refine⟨a,cap,D,E,fun j A=>?_⟩;obtain⟨b,off,C,e⟩:=F j A;refine⟨b,off,C,?_⟩;have f:j<(Aa n).length:=by simpa using A
 have I:(A8 (Aa n)).getD j zL=.int .u64 ((Aa n).getD j 0:Nat):=by simp[A8,f]
 rw[I]at e⊢;unfold World.cell? at e;simp only at e;split at e
 ·rename_i cs t fr hb;simp at e;exact⟨cs,t,fr,H b cs t fr _ _ hb e,e⟩
 cases e
def Bi.ofW {u:PH}{w:World}{v:Value}{z:Int}(h:St w v z)(j:Adw u w):Bi u v z:=by
 obtain⟨a,n,c,e,f⟩:=h;exact⟨a,n,c,e,Dk.ofW f j⟩
def Bi.opn {u:PH}{z:Int}(h:Bi u v z):∃ b a n c,v=.agg #[.bool b,.slice a n c]:=by
 obtain⟨a,n,c,rfl,_⟩:=h;exact⟨_,a,n,c,rfl⟩
def Bg.opn {u:PH}(h:Bg u v q):∃ b a n c b' e j f,v=.agg #[.bool b,.slice a n c,.bool b',.slice e j f]:=by
 obtain⟨a,n,c,e,j,f,rfl,_⟩:=h;exact⟨_,a,n,c,_,e,j,f,rfl⟩
def Bg.num {u:PH}{b b':Bool}{a f:zP}{n A c j:Nat}(h:Bg u (.agg #[.bool b,.slice a n c,.bool b',.slice f A j]) q):Bi u (.agg #[.bool b,.slice a n c]) q.num:=by
 obtain⟨_,_,_,_,_,_,e,t,C⟩:=h;simp only[Value.agg.injEq,A5j,A3g,Value.bool.injEq,Value.slice.injEq,and_true]at e;obtain⟨rfl,⟨rfl,rfl,rfl⟩,rfl,rfl,rfl,rfl⟩:=e;exact⟨_,_,_,rfl,t⟩
def Bg.den {u:PH}{b b':Bool}{a e:zP}{n t c f:Nat}{q:Rat}(h:Bg u (.agg #[.bool b,.slice a n c,.bool b',.slice e t f]) q):Bi u (.agg #[.bool b',.slice e t f]) q.den:=by
 obtain⟨_,_,_,_,_,_,j,C,A⟩:=h;simp only[Value.agg.injEq,A5j,A3g,Value.bool.injEq,Value.slice.injEq,and_true]at j;obtain⟨rfl,⟨rfl,rfl,rfl⟩,rfl,rfl,rfl,rfl⟩:=j;refine⟨_,_,_,?_,by rw[A1s];exact A⟩;rw[show decide (((q.den:Nat):Int)<0)=false by simp only[decide_eq_false_iff_not];omega]
def Fn0.ofW {P:Program}{f:FuncId}{args:zV}{u:PH}{R:Value->PH->Prop}(Q:Value->World->Prop)(h:∀ w,Fj u w->Calls P f args.toArray w fun e w'=>∃ v,e=.returned v/\Q v w'/\Ext w w')
 (U:∀ v w' F,Q v w'->Fj F w'->Adw F w'->PH.le u F->R v F):Fn0 P f args u R:=by
 intro w D;refine Calls.mono (h w D.pu) fun e w' L=>?_;obtain⟨v,I,J,E⟩:=L;have H:w.heap.size<=w'.heap.size:=E.size;have C:∀ g,g<w.heap.size->w'.heap[g]?=w.heap[g]?:=fun g D=>Below.block E g D;have g1:Fj (fun g=>if g<w.heap.size then u g else w'.heap[g]?) w':=by
  intro g o A;simp only at A;split at A
  ·rename_i hlt;rw[C g hlt];exact D.pu g o A
  exact A
 have g2:Adw (fun g=>if g<w.heap.size then u g else w'.heap[g]?) w':=by
  intro g cs t fr j z A T;simp only;split
  ·rename_i hlt;rw[C g hlt]at A;exact D.cl g cs t fr j z A T
  exact A
 have K:PH.le u (fun g=>if g<w.heap.size then u g else w'.heap[g]?):=fun g o A=>by simp only;rw[if_pos (D.pu.lt A)];exact A
 refine⟨v,_,PH.mt,I,⟨g1,Fj.mt _,fun _=>.inr rfl,g2⟩,⟨H,fun g D _=>C g D,fun g D=>by simp only;rw[if_pos D],fun _ _ h=>h,⟨E.os,E.output⟩,fun f=>f.elim⟩,rfl,U v w' _ J g1 g2 K⟩
section rules
variable [Cl] [Co] [Pu] {P:Program} [A6 P] {fn:Func} {Post:Ce} {st:List KI×S} {u m:PH}
def Ui {k:Option (Option Nat)}(h:Bc P env o=.load k x):∃ t X,o=.load t X/\env X=x/\Zd P t=k:=by
 cases o<;>simp only[Bc]at h<;>try cases h
 any_goals ((repeat' split at h)<;>cases h;done)
 exact⟨_,_,rfl,rfl,rfl⟩
def Z1 {sz:Option Nat}{x i:Value}(h:Bc P env o=.addr sz x i):∃ t X I,o=.indexAddr t X I/\env X=x/\env I=i/\Ot P t=sz:=by
 cases o<;>simp only[Bc]at h<;>try cases h
 any_goals ((repeat' split at h)<;>cases h;done)
 exact⟨_,_,_,rfl,rfl,rfl,rfl⟩
def Ake {e:UnOp}(h:Bc P env o=.un e x):∃ t X,o=.unOp e t X/\env X=x:=by
 cases o<;>simp only[Bc]at h<;>try cases h
 any_goals ((repeat' split at h)<;>cases h;done)
 exact⟨_,_,rfl,rfl⟩
def Kj {t:TypeId}{k:Option Nat}{e:Value}(f:Zd P t=some k)(A:Wg k e=true)(h:ElP u b off e)(hp:Fj u w):(loadVar t ⟨b,off,none⟩).run P w=.ok e w:=by
 unfold Zd at f;unfold loadVar;split at f
 ·rename_i ha;split at f
  ·rename_i n hn;simp at f;subst f;unfold Wg at A;simp only at A;split at A
   ·rename_i cs;have E:=A1y A;have:=run_loadCells_list (P:=P) w ⟨b,off,none⟩ cs.toList (fun j v D=>by rw[Ed];exact (h j v (by simpa[Value.cells] using D)).cell hp);simp only[Sem.run_bind,Eo ha,Result.andThen_ok,if_true,Bf hn,E];simp at this;rw[this];simp
   cases A
  cases f
 ·rename_i ha;simp at f;subst f;unfold Wg at A;have C:e.cells = #[e]:=by cases e<;>simp_all [Value.cells]
  have:=(h 0 e (by simp[C])).cell hp;simp[Eo ha];simp at this;simp[this]
 cases f
def G.loadU (C:Option Nat)(b off:Nat)(e:Value)(h:Aj P (adv P st)=.load (some C) (.pointer (some ⟨b,off,none⟩)))(J:Wg C e=true)(I:ElP u b off e)(k:G P fn Post (nx (adv P st) e) u m):G P fn Post st u m:=by
 refine G.ask h mV (fun env o f w hp=>?_) k;obtain⟨t,X,A,F,H⟩:=Ui f;obtain⟨E,K,D,pos,after,j⟩:=o;simp only at A;subst A;simp[execOp,Instr.loadAt,Instr.sureAddr,F,Kj H J I (hp rfl).1]
def G.loadM (D:Option Nat)(b off:Nat)(e:Value)(h:Aj P (adv P st)=.load (some D) (.pointer (some ⟨b,off,none⟩)))(K:Wg D e=true)(J:ElP m b off e)(k:G P fn Post (nx (adv P st) e) u m)(A:Pu.b=false:=by rfl):G P fn Post st u m:=by
 refine G.ask h mV (fun env o f w hp=>?_) k;obtain⟨t,X,C,H,I⟩:=Ui f;obtain⟨F,L,E,pos,after,j⟩:=o;simp only at C;subst C;simp[execOp,Instr.loadAt,Instr.sureAddr,H,Kj I K J ((hp rfl).2 A)]
def G.addr (b off n c j sz:Nat)(h:Aj P (adv P st)=.addr (some sz) (.slice (some ⟨b,off,none⟩) n c) (zI j))(Q:j<n)
 (k:G P fn Post (nx (adv P st) (.pointer (some ⟨b,off+j*sz,none⟩))) u m):G P fn Post st u m:=by
 refine G.ask h mV (fun env o A w hp=>?_) k;obtain⟨t,X,I,D,H,J,f⟩:=Z1 A;obtain⟨F,L,E,pos,after,C⟩:=o;simp only at D;subst D;unfold Ot at f;split at f
 ·rename_i e hu;have K:(0:Int)<=j/\(j:Int)<n:=oV;simp[execOp,Instr.indexAt,asIntOf,H,J,run_underlying hu,K,Bf f,Ed];omega
 cases f
def G.neg (x z:Int)(h:Aj P (adv P st)=.un .neg (zI x))(I:-x=z)(E:-9223372036854775808<=z)(F:z<=9223372036854775807)
 (k:G P fn Post (nx (adv P st) (zI z)) u m):G P fn Post st u m:=by
 refine G.ask h mV (fun env o e w hp=>?_) k;obtain⟨t,X,j,D⟩:=Ake e;obtain⟨C,H,A,pos,after,f⟩:=o;simp only at j;subst j;have:(0:Int)-x=z:=oV
 simp[execOp,Op.unary,D,Op.intArith,this,Fk E F]
end rules
end
section
def Bgn:Nat->Option Nat|1=>none|n=>some n
variable [Cl] [Pu] [Co]
variable {P:Program} [A6 P] {fn:Func} {Post:Ce} {st:List KI×S} {u m:PH}
def G.n (n c:Nat){b off j sz:Nat}{e:Value}(he:ElP u b (off+j*sz) e)(k:G P fn Post (nx (nx (adv P st) (.pointer (some ⟨b,off+j*sz,none⟩)) |> adv P) e) u m)(h:Aj P (adv P st)=.addr (some sz) (.slice (some ⟨b,off,none⟩) n c) (.int .i64 (j:Int)):=by kernel_rfl)(h2:Aj P (adv P (nx (adv P st) (.pointer (some ⟨b,off+j*sz,none⟩))))=.load (some (Bgn sz)) (.pointer (some ⟨b,off+j*sz,none⟩)):=by kernel_rfl)(hj:j<n:=by omega)(hs:Wg (Bgn sz) e=true:=by kernel_rfl):G P fn Post st u m:=G.addr b off n c j sz h hj (G.loadU (Bgn sz) b (off+j*sz) e h2 hs he k)
def G.o (n c:Nat){b off j sz:Nat}{e:Value}(he:ElP m b (off+j*sz) e)(k:G P fn Post (nx (nx (adv P st) (.pointer (some ⟨b,off+j*sz,none⟩)) |> adv P) e) u m)(h:Aj P (adv P st)=.addr (some sz) (.slice (some ⟨b,off,none⟩) n c) (.int .i64 (j:Int)):=by kernel_rfl)(h2:Aj P (adv P (nx (adv P st) (.pointer (some ⟨b,off+j*sz,none⟩))))=.load (some (Bgn sz)) (.pointer (some ⟨b,off+j*sz,none⟩)):=by kernel_rfl)(hj:j<n:=by omega)(hs:Wg (Bgn sz) e=true:=by kernel_rfl)(h00:Pu.b=false:=by rfl):G P fn Post st u m:=G.addr b off n c j sz h hj (G.loadM (Bgn sz) b (off+j*sz) e h2 hs he k h00)
def G.N (n c:Nat){b off j sz:Nat}{e:Value}(hj:j<n)(he:ElP u b (off+j*sz) e)(k:G P fn Post (nx (nx (adv P st) (.pointer (some ⟨b,off+j*sz,none⟩)) |> adv P) e) u m)(h:Aj P (adv P st)=.addr (some sz) (.slice (some ⟨b,off,none⟩) n c) (.int .i64 (j:Int)):=by kernel_rfl)(h2:Aj P (adv P (nx (adv P st) (.pointer (some ⟨b,off+j*sz,none⟩))))=.load (some (Bgn sz)) (.pointer (some ⟨b,off+j*sz,none⟩)):=by kernel_rfl)(hs:Wg (Bgn sz) e=true:=by kernel_rfl):G P fn Post st u m:=G.addr b off n c j sz h hj (G.loadU (Bgn sz) b (off+j*sz) e h2 hs he k)
def G.O (n c:Nat){b off j sz:Nat}{e:Value}(hj:j<n)(he:ElP m b (off+j*sz) e)(k:G P fn Post (nx (nx (adv P st) (.pointer (some ⟨b,off+j*sz,none⟩)) |> adv P) e) u m)(h:Aj P (adv P st)=.addr (some sz) (.slice (some ⟨b,off,none⟩) n c) (.int .i64 (j:Int)):=by kernel_rfl)(h2:Aj P (adv P (nx (adv P st) (.pointer (some ⟨b,off+j*sz,none⟩))))=.load (some (Bgn sz)) (.pointer (some ⟨b,off+j*sz,none⟩)):=by kernel_rfl)(hs:Wg (Bgn sz) e=true:=by kernel_rfl)(h00:Pu.b=false:=by rfl):G P fn Post st u m:=G.addr b off n c j sz h hj (G.loadM (Bgn sz) b (off+j*sz) e h2 hs he k h00)
def G.g (kd:Option Nat){b off:Nat}{e:Value}(he:ElP u b off e)(k:G P fn Post (nx (adv P st) e) u m)(h:Aj P (adv P st)=.load (some kd) (.pointer (some ⟨b,off,none⟩)):=by kernel_rfl)(hs:Wg kd e=true:=by kernel_rfl):G P fn Post st u m:=G.loadU kd b off e h hs he k
def G.v (kd:Option Nat){b off:Nat}{e:Value}(he:ElP m b off e)(k:G P fn Post (nx (adv P st) e) u m)(h:Aj P (adv P st)=.load (some kd) (.pointer (some ⟨b,off,none⟩)):=by kernel_rfl)(hs:Wg kd e=true:=by kernel_rfl)(h00:Pu.b=false:=by rfl):G P fn Post st u m:=G.loadM kd b off e h hs he k h00
end
section
variable [Cl] [Pu] [Co]
variable {P:Program} [A6 P] {fn:Func} {Post:Ce} {st:List KI×S} {u m:PH}
def G.a (b off n c j sz:Nat)(hj:j<n)(k:G P fn Post (nx (adv P st) (.pointer (some ⟨b,off+j*sz,none⟩))) u m)(h:Aj P (adv P st)=.addr (some sz) (.slice (some ⟨b,off,none⟩) n c) (.int .i64 (j:Int)):=by kernel_rfl):G P fn Post st u m:=G.addr b off n c j sz h hj k
def G.lU (kd:Option Nat)(b off:Nat)(e:Value)(he:ElP u b off e)(k:G P fn Post (nx (adv P st) e) u m)(h:Aj P (adv P st)=.load (some kd) (.pointer (some ⟨b,off,none⟩)):=by kernel_rfl)(hs:Wg kd e=true:=by kernel_rfl):G P fn Post st u m:=G.loadU kd b off e h hs he k
theorem G.lM (kd:Option Nat)(b off:Nat)(e:Value)(he:ElP m b off e)(k:G P fn Post (nx (adv P st) e) u m)(h:Aj P (adv P st)=.load (some kd) (.pointer (some ⟨b,off,none⟩)):=by kernel_rfl)(hs:Wg kd e=true:=by kernel_rfl)(h00:Pu.b=false:=by rfl):G P fn Post st u m:=G.loadM kd b off e h hs he k h00
end
section
variable {cs z:Array Value}{env:Operand->Value}{es xs:zV}{g sz:Nat}{o:Oper}{t:TypeId}{v:Value}
variable [Cl] [Co] [Pu]
def PH.upd (m:PH)(g:Nat)(o:Obj):PH:=fun h=>if h=g then some o else m h
def Ab (m:PH)(g:Nat)(o:Obj):m.upd g o g=some o:=by simp[PH.upd]
def Ad (m:PH){g h:Nat}(o:Obj)(e:h≠g):m.upd g o h=m h:=by simp[PH.upd,e]
def Dp (m:PH)(g:Nat)(o o':Obj):(m.upd g o).upd g o'=m.upd g o':=by
 funext h;by_cases e:h=g
 ·subst e;simp[PH.upd]
 simp[PH.upd,e]
def Jw {m:PH}(o:Obj)(h:m g=none):PH.le m (m.upd g o):=fun k x f=>by
 by_cases e:k=g
 ·subst e;rw[h]at f;cases f
 rw[Ad _ _ e];exact f
def A2 (es:zV):zV:=es.flatMap fun e=>e.cells.toList
def Ze (p:Value->Bool)(sz:Nat)(es:zV):Prop:=∀ e∈es,e.cells.size=sz/\∀ x∈e.cells.toList,p x=true
abbrev A9 (sz:Nat)(es:zV):Prop:=Ze Ax sz es
def Ba {p:Value->Bool}{sz:Nat}:∀ {es:zV},Ze p sz es->(A2 es).length=es.length*sz
 |[],_=>by simp[A2]
 |e::es,h=>by
  have j:=(h e mV).1;have f:=Ba (sz:=sz) (es:=es) (fun x A=>h x (A2f _ A));unfold A2 at f⊢;simp only[A6o,A1d,f,A3f,A3o,j,A16,A3i];omega
theorem Dq (a b:zV):A2 (a++b)=A2 a++A2 b:=by simp[A2]
theorem Fu (h:A9 sz es):∀ x∈A2 es,Ax x=true:=by
 intro x hx;obtain⟨e,he,hx⟩:=A57.1 hx;exact (h e he).2 x hx
def A9.append {a b:zV}(h:A9 sz a)(k:A9 sz b):A9 sz (a++b):=fun e f=>(A1h.1 f).elim (h e) (k e)
def Ju {p:Value->Bool}{sz:Nat}:∀ {es:zV},Ze p sz es->∀ {j i:Nat} {e x:Value},es[j]?=some e->e.cells[i]?=some x->(A2 es)[j*sz+i]?=some x
 |[],_,j,i,e,x,hj,_=>by simp at hj
 |d::es,h,j,i,e,x,hj,hi=>by
  have f:=(h d mV).1;have C:Ze p sz es:=fun x D=>h x (A2f _ D);have A:A2 (d::es)=d.cells.toList++A2 es:=by simp[A2]
  rw[A];cases j with
  |zero =>
   simp at hj;subst hj;have:i<d.cells.size:=(A61.1 hi).1;rw[A1r gV];simpa using hi
  |succ j =>
   simp at hj;rw[A18 (by simp[f,A16];omega)];have:=Ju C hj hi;rw[<-this];congr 1;simp[f,A16];omega
def Af (m0 m:PH)(v:Value)(t:TypeId)(sz:Nat)(es:zV):Prop :=
 A9 sz es/\((v=zN/\es = []/\m=m0) \/
  ∃ g cap rest,m0 g=none/\m=m0.upd g (.cells (A2 es++rest).toArray t (0,0))/\v=zG g es.length cap/\es.length<=cap/\(A2 es++rest).length=cap*sz/\∀ x∈rest,Ax x=true)
def Af.nil (m:PH)(t:TypeId)(sz:Nat):Af m m zN t sz []:=⟨fun _ h=>absurd h mV,.inl ⟨rfl,rfl,rfl⟩⟩
theorem Af.shape {m0 m:PH}(h:Af m0 m v t sz es):∃ a cap,v=.slice a es.length cap:=by
 rcases h.2 with ⟨rfl,rfl,_⟩|⟨g,cap,rest,_,_,rfl,_⟩
 ·grind
 grind
theorem D4 {P:Program}{t e:TypeId}{sz f:Nat}{z:Value}(h:M0 P t=some (e,sz,f,z)):P.underlying t=some (.slice e)/\∃ i,P.info? e=some i/\i.zero=some z/\i.size=sz/\i.bytes=f:=by
 unfold M0 at h;split at h
 ·grind
 cases h
theorem I5 (h:z.toList.all Ax=true)(n:Nat):∀ x∈(Builtin.zeroCells z n).toList,Ax x=true:=by
 intro x f;simp[Builtin.zeroCells]at f;obtain⟨i,hi,rfl⟩:=f;rw[A1o]at h;by_cases j:z.size=0
 ·grind
 have e:i%z.size<z.size:=A29 _ oV;refine h _ ?_;rw[getElem!_pos z _ e];simp
def Ab5 (h:z.toList.all Ax=true)(n:Nat)(j:z.size≠0):∀ x∈(madeCells z n).toList,Ax x=true:=by
 intro x f;simp[madeCells]at f;obtain⟨i,hi,rfl⟩:=f;rw[A1o]at h;have e:i%z.size<z.size:=A29 _ oV;refine h _ ?_;rw[getElem!_pos z _ e];simp
section worlds
variable {u m:PH} {w:World}
theorem Bv.newM (h:Bv u m w)(E:∀ x∈cs.toList,Ax x=true):Bv u (m.upd w.heap.size (.cells cs t (0,0))) (w.alloc (.cells cs t))/\B0 u m w u (m.upd w.heap.size (.cells cs t (0,0))) (w.alloc (.cells cs t))/\m w.heap.size=none/\u w.heap.size=none:=by
 have A:m w.heap.size=none:=h.pm.none (A08 _);have D:u w.heap.size=none:=h.pu.none (A08 _);have g1:=h.alloc (cs:=cs) (t:=t) (fr:=(0,0)) (fun j z e=>Kr (E _ (by obtain⟨F,C⟩:=A61.1 e;rw[<-C];simp)) z rfl);refine⟨⟨g1.pu,fun g o f=>?_,fun g=>?_,g1.cl⟩,⟨by rw[B6];omega,fun g f _=>Aq _ _ f,fun _ _=>rfl,fun g f A=>by rw[Ad _ _ oV];exact A,⟨rfl,rfl⟩,fun _=>⟨rfl,A08 _⟩⟩,A,D⟩
 ·by_cases e:g=w.heap.size
  ·subst e;rw[Ab]at f;rw[Cn];exact f
  rw[Ad _ _ e]at f;exact g1.pm g o f
 by_cases e:g=w.heap.size
 ·grind
 rw[Ad _ _ e];exact h.ap g
def Bv.drew' (h:Bv u m w):Bv u m w.drew:=⟨h.pu,h.pm,h.ap,h.cl⟩
def Bv.less (h:Bv u m w){j:PH}(A:PH.le j m):Bv u j w:=by
 refine⟨h.pu,fun g o f=>h.pm g o (A g o f),fun g=>(h.ap g).imp id fun e=>?_,h.cl⟩;cases f:j g with
 |none=>rfl
 |some o=>rw[A g o f]at e;cases e
theorem Bv.setM (h:Bv u m w){cs cs':Array Value}(hg:m g=some (.cells cs t (0,0)))(hw:∀ x∈cs'.toList,Ax x=true):Bv u (m.upd g (.cells cs' t (0,0))) (w.setRow g cs')/\B0 u m w u (m.upd g (.cells cs' t (0,0))) (w.setRow g cs'):=by
 have hb:=h.pm g _ hg;have hug:u g=none:=by
  rcases h.ap g with e|e
  ·exact e
  ·grind
 have hsame:=setRow_heap w g cs cs' t (0,0) hb;have hother:∀ k,k≠g->(w.setRow g cs').heap[k]?=w.heap[k]?:=fun k hk=>setRow_other w g k cs' hk;refine⟨⟨fun k o hk=>?_,fun k o hk=>?_,fun k=>?_,fun k cs1 t1 fr1 j z hk hj=>?_⟩,⟨by rw[setRow_size];exact A08 _,fun k hk hm=>hother k (fun e=>by rw[e,hg]at hm;cases hm),fun _ _=>rfl,fun k hk hm=>by rw[Ad _ _ (fun e=>by rw[e,hg]at hm;cases hm)];exact hm,⟨rfl,rfl⟩,fun _=>⟨rfl,A08 _⟩⟩⟩
 ·rw[hother k (fun e=>by rw[e,hug]at hk;cases hk)];exact h.pu k o hk
 ·by_cases e:k=g
  ·subst e;rw[Ab]at hk;rw[hsame];exact hk
  ·rw[Ad _ _ e]at hk;rw[hother k e];exact h.pm k o hk
 ·by_cases e:k=g
  ·grind
  ·rw[Ad _ _ e];exact h.ap k
 ·by_cases e:k=g
  ·subst e;rw[hsame]at hk;obtain⟨rfl,_,_⟩:=hk;obtain⟨hlt,he⟩:=A61.1 hj;exact absurd he (Kr (hw _ mV) z)
  ·rw[hother k e]at hk;exact h.cl k cs1 t1 fr1 j z hk hj
theorem Bv.newU (h:Bv u m w)(o:Obj):Bv (u.upd w.heap.size o) m (w.alloc o)/\B0 u m w (u.upd w.heap.size o) m (w.alloc o)/\m w.heap.size=none/\u w.heap.size=none:=by
 have C:m w.heap.size=none:=h.pm.none (A08 _);have E:u w.heap.size=none:=h.pu.none (A08 _);refine⟨⟨fun g o' f=>?_,fun g o' f=>?_,fun g=>?_,fun g cs t fr j z f D=>?_⟩,⟨by rw[B6];omega,fun g f _=>Aq _ _ f,fun g f=>Ad _ _ oV,fun g f C=>C,⟨rfl,rfl⟩,fun _=>⟨rfl,A08 _⟩⟩,C,E⟩
 ·by_cases e:g=w.heap.size
  ·subst e;rw[Ab]at f;rw[Cn];exact f
  rw[Ad _ _ e]at f;rw[Aq _ _ (h.pu.lt f)];exact h.pu g o' f
 ·rw[Aq _ _ (h.pm.lt f)];exact h.pm g o' f
 ·by_cases e:g=w.heap.size
  ·grind
  rw[Ad _ _ e];exact h.ap g
 by_cases e:g=w.heap.size
 ·subst e;rw[Cn]at f;rw[Ab];exact f
 rw[Ad _ _ e];have A:=Aw f;rw[B6]at A;rw[Aq _ _ oV]at f;exact h.cl g cs t fr j z f D
end worlds
def Hc (u:PH)(b off sz:Nat)(xs:zV):Prop:=∀ j e,xs[j]?=some e->ElP u b (off+j*sz) e
def Hc.mono {u f:PH}{b off sz:Nat}{xs:zV}(h:Hc u b off sz xs)(C:PH.le u f):Hc f b off sz xs:=fun j e A=>(h j e A).mono C
def Xe {sz:Nat}(F:0<sz):∀ {xs:zV},A9 sz xs->∀ {k:Nat} {x:Value},(A2 xs)[k]?=some x->∃ j i e,k=j*sz+i/\xs[j]?=some e/\e.cells[i]?=some x
 |[],_,k,x,h=>by simp[A2]at h
 |d::xs,ho,k,x,h=>by
  have E:=(ho d mV).1;have f:A2 (d::xs)=d.cells.toList++A2 xs:=by simp[A2]
  rw[f,A5y]at h;split at h
  ·exact⟨0,k,d,mV,mV,by simpa using h⟩
  rename_i hk;obtain⟨j,i,e,A,C,D⟩:=Xe F (fun x H=>ho x (A2f _ H)) h;refine⟨j+1,i,e,?_,by simpa using C,D⟩;simp[E]at A hk;rw[A16];omega
def Hc.cells {u:PH}{w:World}{b off sz:Nat}(E:0<sz)(h:Hc u b off sz xs)(D:A9 sz xs)(hp:Fj u w):∀ j v,(A2 xs)[j]?=some v->w.cell? ((⟨b,off,none⟩:Addr).add j)=some v:=by
 intro k x C;obtain⟨j,i,e,rfl,f,A⟩:=Xe E D C;rw[Ed];have:=(h j e f i x A).cell hp;rw[show off+(j*sz+i)=off+j*sz+i by omega];exact this
section rules
variable {P:Program} [A6 P] {fn:Func} {Post:Ce} {st:List KI×S} {u m:PH}
def B8 {w w':World}{K:Value->World->Prop}(h:(execOp env o).run P w=.ok (.value v) w')(e:K v w'):Eg P env o w K:=by
 unfold Eg;rw[h];exact e
theorem Ew {e:Option (TypeId×Nat×Nat×Value)}(h:Bc P env o.op=.app e true xs):Nk o.op=true/\Fa o.op=false/\∃ t,M0 P t=e/\∀ w,(execOp env o).run P w=((Builtin.append_ #[t,t] o.type xs.toArray).run P w).andThen fun v w'=>.ok (.value v) w':=by
 obtain⟨F,A,D,pos,after,f⟩:=o;cases A<;>simp only[Bc]at h<;>try cases h
 ·grind
 rename_i c;obtain⟨E,args,C⟩:=c;simp only at h;split at h
 ·grind
 ·split at h
  ·split at h
   ·rename_i t t' htt;simp only[Vm.app.injEq]at h;obtain⟨rfl,H,rfl⟩:=h;have:=A1y H;have j:C = #[t,t]:=by grind
    refine⟨rfl,rfl,t,rfl,fun w=>?_⟩;have:(args.map env)=(args.toList.map env).toArray:=by grind
    simp[execOp,resolve,invoke,builtin,j,this]
   cases h
  cases h
 cases h
theorem Rz {t e:TypeId}{sz bt:Nat}{z:Value}(m0:PH)(es xs:zV)(v:Value)(b off n c:Nat)(ty:TypeId)(hi:M0 P t=some (e,sz,bt,z))(hz:z.cells.toList.all Ax=true)(hzs:z.cells.size=sz)(hsz:0<sz)
 (ha:Af m0 m v e sz es) (ho:A9 sz xs) (hn:xs.length=n) (hn0:0<n) (hb:(es.length+n)*bt<=140737488355328) (hb2:es.length+n<=9223372036854775807) {w:World} (hgd:Bv u m w)
 (hsrc:∀ j v,(A2 xs)[j]?=some v->w.cell? ((⟨b,off,none⟩:Addr).add j)=some v) :
 ∃ v' w' m',(Builtin.append_ #[t,t] ty #[v,.slice (some ⟨b,off,none⟩) n c]).run P w=.ok v' w'/\Bv u m' w'/\B0 u m w u m' w'/\Af m0 m' v' e sz (es++xs):=by
 obtain⟨hu,i,hi1,hi2,rfl,rfl⟩:=D4 hi;have hfl:=Ba ho;have hok:=ha.1.append ho;rcases ha.2 with ⟨rfl,rfl,rfl⟩|⟨g,cap,rest,hg0,rfl,rfl,hcap,hlen,hrest⟩
 ·simp only[A30,A2w]at hb hb2;have hr:=run_append_nil (P:=P) w t ty e i z hu hi1 hi2 ⟨b,off,none⟩ n c (A2 xs) (by rw[hfl,hn]) hsrc hn0 oV oV;have hcell:∀ x∈((A2 xs).toArray++Builtin.zeroCells z.cells (grownCap w n 0 e-n)).toList,Ax x=true:=fun x hx=>by
   simp only[A97,A1h]at hx;rcases hx with hx|hx
   ·exact Fu ho x hx
   ·exact I5 hz _ x hx
  obtain⟨g1,g2,g3,_⟩:=hgd.drew'.newM (t:=e) hcell;refine⟨_,_,_,hr,g1,⟨g2.sz,g2.old,g2.us,g2.ms,g2.io,fun f=>⟨(g2.dr f).tape,A7v (g2.dr f).dr⟩⟩,hok,.inr ⟨w.heap.size,grownCap w n 0 e,(Builtin.zeroCells z.cells (grownCap w n 0 e-n)).toList,g3,?_,?_,?_,?_,I5 hz _⟩⟩
  ·congr 2;apply A6j;simp
  ·simp[hn]
  ·simp only[A3q,hn];exact grownCap_ge w n 0 e
  ·have:=grownCap_ge w n 0 e;simp only[A3q,A1d,hfl,hn,A3o,size_zeroCells,hzs];rw[<-A16];congr 1;omega
 ·have hgw:=hgd.pm g _ (Ab _ _ _);have hfe:=Ba ha.1;by_cases hroom:es.length+n<=cap
  ·have hle:(es.length+n)*i.size<=cap*i.size:=A13 _ hroom;rw[A16]at hle;have hr:=run_append_room (P:=P) w t ty e i hu hi1 g es.length cap (A2 es++rest).toArray hgw ⟨b,off,none⟩ n c (A2 xs) (by rw[hfl,hn]) hsrc (fun x hx=>Gl (Fu ho x hx)) hroom (by simp only[A7s];rw[hlen,hfl,hn];omega);have e1:(A2 es++rest).toArray.toList.take (es.length*i.size)=A2 es:=by
    simp only[A3t];rw[<-hfe,List.take_left]
   rw[e1]at hr;have hd:∀ x∈(A2 es++rest).toArray.toList.drop (es.length*i.size+(A2 xs).length),Ax x=true:=by
    intro x hx;simp only[A3t]at hx;rw[<-hfe,<-A8r,A8s]at hx;exact hrest x (A3x hx)
   have hcell:∀ x∈(A2 es++A2 xs++(A2 es++rest).toArray.toList.drop (es.length*i.size+(A2 xs).length)).toArray.toList,Ax x=true:=by
    intro x hx;simp only[A3t]at hx;rcases A1h.1 hx with hx|hx
    ·rcases A1h.1 hx with hx|hx
     ·exact Fu ha.1 x hx
     ·exact Fu ho x hx
    ·exact hd x (by simpa using hx)
   obtain⟨g1,g2⟩:=hgd.setM (Ab _ _ _) hcell;rw[Dp]at g1 g2;refine⟨_,_,_,hr,g1,g2,hok,.inr ⟨g,cap,_,hg0,by rw[Dq],by simp[hn],by simp[hn];exact hroom,?_,hd⟩⟩;rw[Dq];simp only[A1d,hfe,hfl,hn,A3t,A4y];simp only[A1d,hfe]at hlen;omega
  ·have hold:∀ j v,(A2 es)[j]?=some v->w.cell? ((⟨g,0,none⟩:Addr).add j)=some v:=by
    intro j x hj;rw[Ed];simp[World.cell?,hgw];rw[A1r (by obtain⟨h,_⟩:=A05.1 hj;exact h)];exact hj
   have hr:=run_append_grow (P:=P) w t ty e i z hu hi1 hi2 ⟨g,0,none⟩ es.length cap (A2 es) hfe hold ⟨b,off,none⟩ n c (A2 xs) (by rw[hfl,hn]) hsrc oV oV (growslice_fits oV hb);have hcell:∀ x∈((A2 es).toArray++(A2 xs).toArray++Builtin.zeroCells z.cells (grownCap w (es.length+n) cap e-(es.length+n))).toList,Ax x=true:=fun x hx=>by
    simp only[A97,A1h]at hx;rcases hx with (hx|hx)|hx
    ·exact Fu ha.1 x hx
    ·exact Fu ho x hx
    ·exact I5 hz _ x hx
   obtain⟨g1,g2,g3,_⟩:=hgd.drew'.newM (t:=e) hcell;have hdsz:w.drew.heap.size=w.heap.size:=rfl;rw[hdsz]at g1 g2 g3;have hng:w.heap.size≠g:=fun h=>by have:=Aw hgw;omega
   have hm0:m0 w.heap.size=none:=by
    have:=g3;rw[Ad _ _ hng]at this;exact this
   refine⟨_,_,m0.upd w.heap.size (.cells ((A2 es).toArray++(A2 xs).toArray++Builtin.zeroCells z.cells (grownCap w (es.length+n) cap e-(es.length+n))) e (0,0)),hr,g1.less (fun k o hk=>?_),⟨g2.sz,g2.old,g2.us,fun k hk hmk=>?_,g2.io,fun f=>⟨(g2.dr f).tape,A7v (g2.dr f).dr⟩⟩,hok,.inr ⟨w.heap.size,grownCap w (es.length+n) cap e,(Builtin.zeroCells z.cells (grownCap w (es.length+n) cap e-(es.length+n))).toList,hm0,?_,?_,?_,?_,I5 hz _⟩⟩
   ·by_cases hk1:k=w.heap.size
    ·subst hk1;rw[Ab]at hk⊢;exact hk
    ·rw[Ad _ _ hk1]at hk⊢;rw[Ad _ _ (fun h=>by rw[h,hg0]at hk;cases hk)];exact hk
   ·rw[Ad _ _ oV];by_cases hkg:k=g
    ·grind
    ·rw[Ad _ _ hkg]at hmk;exact hmk
   ·congr 2;apply A6j;simp[Dq]
   ·grind
   ·simp only[A1d,hn];exact grownCap_ge w _ cap e
   ·have:=grownCap_ge w (es.length+n) cap e;rw[Dq];simp only[A1d,hfl,hfe,A3o,size_zeroCells,hzs];rw[<-A16,<-A16];congr 1;omega
theorem G.append (e:TypeId)(sz Q:Nat)(z:Value)(m0:PH)(es xs:zV)(v:Value)(b off n c:Nat)(h:Aj P (adv P st)=.app (some (e,sz,Q,z)) true [v,.slice (some ⟨b,off,none⟩) n c])(hz:z.cells.toList.all Ax=true)(J:z.cells.size=sz)(D:0<sz)
 (Y:Af m0 m v e sz es) (hx:Hc u b off sz xs) (R:A9 sz xs) (hn:xs.length=n) (H:0<n) (Z:(es.length+n)*Q<=140737488355328) (E:es.length+n<=9223372036854775807)
 (k:∀ A j,Af m0 j A e sz (es++xs)->G P fn Post (nx (adv P st) A) u j):G P fn Post st u m:=by
 refine G.big (K:=fun A T j=>T=u/\Af m0 j A e sz (es++xs)) h mV (fun env L I=>(Ew (P:=P) (o:=⟨none,L,0, "",#[],none⟩) I).2.1) (.inr fun env L I=>(Ew (P:=P) (o:=⟨none,L,0, "",#[],none⟩) I).1) (fun env o f w C=>?_) (fun A T j _ hk=>?_)
 ·obtain⟨_,_,t,hi,F⟩:=Ew (P:=P) f;obtain⟨A,w',j,U,V,W,X⟩:=Rz (P:=P) m0 es xs v b off n c o.type hi hz J D Y R hn H Z E C (hx.cells D R C.pu);exact B8 (by rw[F,U];rfl) ⟨u,j,V,W,rfl,X⟩
 grind
end rules
end
section
variable [Cl] [Pu] [Co]
variable {P:Program} [A6 P] {fn:Func} {Post:Ce} {st:List KI×S} {u m:PH}
def G.k (e:TypeId)(sz bt:Nat)(z:Value)(m0:PH)(es xs:List Value)(v:Value)(b off n c:Nat)(ha:Af m0 m v e sz es)(hx:Hc u b off sz xs)(ho:A9 sz xs)(k:∀ v' m',Af m0 m' v' e sz (es++xs)->G P fn Post (nx (adv P st) v') u m')(h:Aj P (adv P st)=.app (some (e,sz,bt,z)) true [v,.slice (some ⟨b,off,none⟩) n c]:=by kernel_rfl)(hz:z.cells.toList.all Ax=true:=by rfl)(hzs:z.cells.size=sz:=by rfl)(hsz:0<sz:=by omega)(hn:xs.length=n:=by rfl)(hn0:0<n:=by omega)(hb:(es.length+n)*bt<=140737488355328:=by simp;omega)(hb2:es.length+n<=9223372036854775807:=by simp;omega):G P fn Post st u m:=G.append e sz bt z m0 es xs v b off n c h hz hzs hsz ha hx ho hn hn0 hb hb2 k
end
section
variable {c j n sz:Nat}{e x y:Value}{env:Operand->Value}{es:zV}{inf:Option (TypeId×Nat×Nat×Value)}{m0:PH}{o:Op}{t:TypeId}
variable [Cl] [Co] [Pu]
section fill
def Sn {p:Value->Bool}{sz:Nat}:∀ (es:zV) (k:Nat) (cells:Array Value),Ze p sz es->(k+es.length)*sz<=cells.size ->
 Instr.fill (fun i=>some (i*sz,sz)) cells (es.zipIdx k |>.map fun p=>(p.2,p.1))=some (cells.toList.take (k*sz)++A2 es++cells.toList.drop ((k+es.length)*sz)).toArray
 |[],k,cells,_,h=>by simp[Instr.fill,A2]
 |e::es,k,cells,ho,h=>by
  have f:=(ho e mV).1;have A:Ze p sz es:=fun x H=>ho x (A2f _ H);have D:(k+(es.length+1))*sz=k*sz+sz+es.length*sz:=by rw[A16,A16];omega
  simp only[A3f]at h;rw[D]at h;simp only[List.zipIdx_cons,A2u];rw[Aau _ _ _ (k*sz) sz _ _ rfl f oV];rw[Sn es (k+1) _ A (by simp[f];rw[A16,A16];omega)]
  congr 2
  have C:(cells.toList.take (k*sz)++e.cells.toList).length=(k+1)*sz:=by simp[f,A16];omega
  have E:(cells.toList.take (k*sz)++e.cells.toList++cells.toList.drop (k*sz+sz)).toArray.toList.take ((k+1)*sz)=cells.toList.take (k*sz)++e.cells.toList:=by
   simp only[A3t];rw[<-C,List.take_left]
  have F:(cells.toList.take (k*sz)++e.cells.toList++cells.toList.drop (k*sz+sz)).toArray.toList.drop ((k+1+es.length)*sz)=cells.toList.drop ((k+(es.length+1))*sz):=by
   simp only[A3t];rw[show (k+1+es.length)*sz=(k+1)*sz+es.length*sz by rw[A16],<-C,<-A8r,A8s,A8r]
   congr 1;rw[D]
  rw[E,F];simp[A2]
end fill
section rules
variable {P:Program} [A6 P] {fn:Func} {Post:Ce} {st:List KI×S} {u m:PH}
theorem En {f:List (Nat×Value)}(h:Bc P env o=.buildS inf n f):∃ t A,o=.buildSlice t n A/\(A.map fun (i,x)=>(i,env x))=f.toArray/\M0 P t=inf:=by
 cases o<;>simp only[Bc]at h<;>try cases h
 any_goals ((repeat' split at h)<;>cases h;done)
 grind
theorem Aan (h:Bc P env o=.make inf x y):∃ t X Y,o=.makeSlice t X Y/\env X=x/\env Y=y/\M0 P t=inf:=by
 cases o<;>simp only[Bc]at h<;>try cases h
 any_goals ((repeat' split at h)<;>cases h;done)
 grind
theorem Fq {sz:Option Nat}(h:Bc P env o=.store sz x y):∃ t X Y,o=.store t X Y/\env X=x/\env Y=y/\szB P t=sz:=by
 cases o<;>simp only[Bc]at h<;>try cases h
 any_goals ((repeat' split at h)<;>cases h;done)
 grind
theorem G.buildW {p:Value->Bool}(e:TypeId)(sz X:Nat)(z:Value)(es:zV)(h:Aj P (adv P st)=.buildS (some (e,sz,X,z)) es.length (es.zipIdx.map fun p=>(p.2,p.1)))(L:Ze p sz es)(a2:z.cells.size=sz)(Q:0<sz)(I:0<es.length)(hb:es.length*sz<=16777216)
 (k:∀ g C,PH.le u C->Hc C g 0 sz es->G P fn Post (nx (adv P st) (zG g es.length es.length)) C m):G P fn Post st u m:=by
 refine G.big (K:=fun W C R=>R=m/\∃ g,W=zG g es.length es.length/\Hc C g 0 sz es) h mV (fun env op hv=>?_) (.inl fun v C R U=>by rw[U.1];exact PH.le_refl _) (fun env o A w E=>?_) (fun W C R a1 U=>?_)
 ·obtain⟨t,qs,rfl,_⟩:=En hv;rfl
 ·obtain⟨t,qs,T,e2,hi⟩:=En A;obtain⟨Y,a3,V,pos,after,D⟩:=o;simp only at T;subst T;obtain⟨hu,i,F,H,rfl,rfl⟩:=D4 hi;obtain⟨g1,g2,g3,g4⟩:=E.newU (.cells (A2 es).toArray e (0,0));have a0:=Ba L;have J:es.length*i.size≠0:=by have:=A51 I Q;omega
  have f:=Sn es 0 ((Array.range (es.length*i.size)).map (z.cells[· % z.cells.size]!)) L mV;have Z:((Array.range (es.length*i.size)).map (z.cells[· % z.cells.size]!)).toList.drop (es.length*i.size) = []:=by grind
  simp only[A2w,Z]at f;refine B8 (w':=w.alloc (.cells (A2 es).toArray e (0,0))) (v:=.slice (some ⟨w.heap.size,0,none⟩) es.length es.length) ?_ ⟨_,m,g1,g2,rfl,_,rfl,?_⟩
  ·simp only[execOp,e2];simp[Instr.buildSlice,run_underlying hu,sizeOf,typeInfo,zeroValue,F,H,J,f,newRow,show ¬ 16777216<es.length*i.size by omega]
  intro j x hj ii y hy;refine⟨_,_,_,Ab _ _ _,?_⟩;rw[A3j,A2w];exact Ju L hj hy
 grind
def G.buildU (e:TypeId)(sz E:Nat)(z:Value)(es:zV)(h:Aj P (adv P st)=.buildS (some (e,sz,E,z)) es.length (es.zipIdx.map fun p=>(p.2,p.1)))(H:A9 sz es)(C:z.cells.size=sz)(A:0<sz)(f:0<es.length)(F:es.length*sz<=16777216)
 (k:∀ g D,PH.le u D->Hc D g 0 sz es->G P fn Post (nx (adv P st) (zG g es.length es.length)) D m):G P fn Post st u m:=G.buildW e sz E z es h H C A f F k
theorem G.make (e:TypeId)(sz bt:Nat)(z:Value)(n:Nat)(h:Aj P (adv P st)=.make (some (e,sz,bt,z)) (zI (n:Int)) (zI (n:Int)))(hz:z.cells.toList.all Ax=true)(hzs:z.cells.size=sz)(hsz:0<sz)
 (hb:bt*n<=281474976710656) (hb2:n<=9223372036854775807) (k:∀ v' m',Af m m' v' e sz (List.replicate n z)->(∃ a,v'=.slice (some a) n n)->G P fn Post (nx (adv P st) v') u m'):G P fn Post st u m:=by
 refine G.big (K:=fun v' u' m'=>u'=u/\PH.le m m'/\Af m m' v' e sz (List.replicate n z)/\∃ a,v'=.slice (some a) n n) h mV (fun env op hv=>by obtain⟨t,X,Y,rfl,_⟩:=Aan hv;rfl) (.inl fun v u' m' hk=>hk.2.1) (fun env o hview w hgd=>?_) (fun v' u' m' hle hk=>?_)
 ·obtain⟨t,X,Y,e1,e2,e3,hi⟩:=Aan hview;obtain⟨dst,opp,type,pos,after,guard⟩:=o;simp only at e1;subst e1;obtain⟨hu,i,hi1,hi2,rfl,rfl⟩:=D4 hi;have hb':(i.bytes:Int)*(n:Int)<=281474976710656:=by
   have:((i.bytes*n:Nat):Int)<=281474976710656:=oV
   rwa[A4d]at this
  have hr:=run_make (P:=P) w t e i z hu hi1 hi2 .i64 .i64 n n oV (Int.le_refl _) hb' oV;obtain⟨g1,g2,g3,g4⟩:=hgd.newM (t:=e) (Ab5 hz (n*i.size) oV);have hok:A9 i.size (List.replicate n z):=fun x hx=>by
   rw[A7g hx];exact⟨hzs,fun y hy=>by rw[A1o]at hz;exact hz y hy⟩
  have hflat:(A2 (List.replicate n z)).toArray=madeCells z.cells (n*i.size):=by
   apply Array.ext
   ·rw[size_madeCells,A7s,Ba hok,A3k]
   ·intro j h1 h2;rw[size_madeCells]at h2;have hlt:j%i.size<i.size:=A29 _ hsz;have hq:j/i.size<n:=(A3b hsz).2 h2;have hget:=Ju hok (j:=j/i.size) (i:=j%i.size) (e:=z) (x:=z.cells[j%i.size]'oV) (by simp[hq]) mV;rw[show j/i.size*i.size+j%i.size=j by rw[A19];exact A3h _ _]at hget;have:(A2 (List.replicate n z)).toArray[j]?=some z.cells[j%i.size]:=by grind
    rw[A2v h1]at this;have h3:=A28 this;rw[h3];simp only[madeCells,Array.getElem_map,Array.getElem_range,hzs];rw[getElem!_pos z.cells _ oV]
  refine B8 (w':=w.alloc (.cells (madeCells z.cells (n*i.size)) e (0,0))) (v:=.slice (some ⟨w.heap.size,0,none⟩) n n) ?_ ⟨u,_,g1,g2,rfl,Jw _ g3,⟨hok,.inr ⟨w.heap.size,n,[],g3,?_,mV,mV,?_,mV⟩⟩,_,rfl⟩
  ·simp only[execOp,e2,e3];simp[hr]
  ·grind
  ·rw[A1x,Ba hok,A3k]
 ·grind
def Rp {sz:Nat}:∀ {es:zV} {j:Nat} {e:Value},A9 sz es->e.cells.size=sz->j<es.length->A2 (es.set j e)=(A2 es).take (j*sz)++e.cells.toList++(A2 es).drop (j*sz+sz)
 |[],j,e,_,_,h=>by simp at h
 |d::es,j,e,ho,he,h=>by
  have C:=(ho d mV).1;have f:∀ d (l:zV),A2 (d::l)=d.cells.toList++A2 l:=fun d l=>by simp[A2]
  cases j with
  |zero =>
   rw[A2p,f,f];have:d.cells.toList.length=sz:=by simpa using C
   simp only[A58,A53,A3q,A2w];rw[<-this,A8s]
  |succ j =>
   rw[A2j,f,f,Rp (sz:=sz) (fun x F=>ho x (A2f _ F)) he (by simpa using h)];have A:d.cells.toList.length=sz:=by simpa using C
   rw[List.take_append,List.drop_append,A];have a1:(j+1)*sz-sz=j*sz:=by rw[A16];omega
   have a2:(j+1)*sz+sz-sz=j*sz+sz:=by rw[A16];omega
   have D:d.cells.toList.take ((j+1)*sz)=d.cells.toList:=A1j (by rw[A,A16];omega);have E:d.cells.toList.drop ((j+1)*sz+sz) = []:=A9o (by rw[A,A16];omega);rw[a1,a2,D,E];simp
def A9.set (h:A9 sz es)(A:e.cells.size=sz/\∀ x∈e.cells.toList,Ax x=true):A9 sz (es.set j e):=by
 intro x f;rcases A7c f with f|rfl
 ·exact h x f
 exact A
theorem G.storeA {t:TypeId}(sz:Nat)(m0:PH)(es:zV)(b n c j:Nat)(e:Value)(h:Aj P (adv P st)=.store (some sz) (.pointer (some ⟨b,0+j*sz,none⟩)) e)(V:Af m0 m (zG b n c) t sz es)(hj:j<es.length)(Q:e.cells.size=sz)(hc:e.cells.toList.all Ax=true)
 (k:∀ T,Af m0 T (zG b n c) t sz (es.set j e)->G P fn Post (nx (adv P st) undef) u T):G P fn Post st u m:=by
 refine G.big (K:=fun v' u' T=>u'=u/\v'=undef/\Af m0 T (zG b n c) t sz (es.set j e)) h mV (fun env op J=>?_) (.inr fun env op J=>?_) (fun env o I w R=>?_) (fun v' u' T _ hk=>?_)
 ·obtain⟨t',X,Y,rfl,_⟩:=Fq J;rfl
 ·obtain⟨t',X,Y,rfl,_⟩:=Fq J;rfl
 ·obtain⟨t',X,Y,e1,e2,e3,ht⟩:=Fq I;obtain⟨Z,a5,U,pos,after,D⟩:=o;simp only at e1;subst e1;rw[A1o]at hc;rcases V.2 with ⟨J,_⟩|⟨g,cap,rest,a2,rfl,J,L,C,f⟩
  ·grind
  obtain⟨rfl,rfl,rfl⟩:=J;have a3:=R.pm b _ (Ab _ _ _);have a1:=Ba V.1;have a4:j*sz+sz<=es.length*sz:=by
   have:=A13 sz (show j+1<=es.length by omega);rw[A16]at this;omega
  have H:=run_storeCells_at P b (j*sz) t e.cells.toList 0 (A2 es++rest).toArray w a3 (by simp[Q];omega) (fun x W=>Gl (hc x W));simp only[A3s,A3o,Q]at H;have A:(A2 es++rest).take (j*sz)++e.cells.toList++(A2 es++rest).drop (j*sz+sz)=A2 (es.set j e)++rest:=by
   rw[Rp V.1 Q hj,A6n oV,List.drop_append_of_le_length oV];simp
  rw[A]at H;have F:=V.1.set (j:=j) (e:=e) ⟨Q,hc⟩;have E:∀ x∈(A2 (es.set j e)++rest).toArray.toList,Ax x=true:=by
   intro x W;simp only[A1h]at W;exact W.elim (Fu F x) (f x)
  obtain⟨g1,g2⟩:=R.setM (Ab _ _ _) E;rw[Dp]at g1 g2;unfold Eg;have a0:(execOp env ⟨Z,.store t' X Y,U,pos,after,D⟩).run P w=.ok .skip (w.setRow b (A2 (es.set j e)++rest).toArray):=by
   simp only[execOp,e2,e3];simp[Instr.storeAt,Instr.sureAddr,storeVar,Bf ht,Q,H]
  rw[a0];refine⟨u,_,g1,g2,rfl,rfl,F,.inr ⟨b,c,rest,a2,rfl,mV,by simpa using L,?_,f⟩⟩;simp only[A1d,Ba F,A21,a1]at C⊢;exact C
 grind
theorem Af.el {b n c j:Nat}(A:Af m0 m (zG b n c) t sz es)(H:es[j]?=some e):ElP m b (0+j*sz) e:=by
 rcases A.2 with ⟨E,_⟩|⟨g,cap,rest,F,rfl,E,C,D,f⟩
 ·grind
 obtain⟨rfl,rfl,rfl⟩:=E;intro i x I;refine⟨_,_,_,Ab _ _ _,?_⟩;rw[A3j,A2w];have:=Ju A.1 H I;rw[A1r (by obtain⟨h,_⟩:=A05.1 this;exact h)];exact this
theorem Af.len {a:zP}(f:Af m0 m (.slice a n c) t sz es):n=es.length:=by
 rcases f.2 with ⟨A,rfl,_⟩|⟨g,cap,rest,h,rfl,A,_⟩
 ·grind
 grind
theorem Af.ptr {v:Value}(f:Af m0 m v t sz es)(h:es≠[]):∃ b c,v=zG b es.length c:=by
 rcases f.2 with ⟨_,rfl,_⟩|⟨g,cap,rest,A,rfl,C,_⟩
 ·grind
 grind
def Ac (u:PH)(v:Value)(sz:Nat)(es:zV):Prop:=∃ a c,v=.slice a es.length c/\es.length<=c/\∀ j e,es[j]?=some e->∃ b off,a=some ⟨b,off,none⟩/\ElP u b (off+j*sz) e
def Ac.mono {u f:PH}{v:Value}{sz:Nat}{es:zV}(h:Ac u v sz es)(I:PH.le u f):Ac f v sz es:=by
 obtain⟨a,c,D,E,F⟩:=h;exact⟨a,c,D,E,fun j e H=>by obtain⟨b,off,A,C⟩:=F j e H;exact⟨b,off,A,C.mono I⟩⟩
def Ac.nil (u:PH)(a:zP)(c sz:Nat):Ac u (.slice a 0 c) sz []:=⟨a,c,rfl,A1t _,fun j e h=>by simp at h⟩
theorem G.give (m0:PH)(es:zV)(v:Value)(h:F2 (ctl P 100 st).1=true)(Z:Af m0 m v t sz es)(h0:∀ g,Post.m0 g=none\/m0 g≠none)(k:∀ Y,PH.le u Y->Ac Y v sz es->G P fn Post (ctl P 100 st) Y m0):G P fn Post st u m:=by
 refine⟨L3 100 st ?_⟩;rcases Z.2 with ⟨rfl,rfl,rfl⟩|⟨g,cap,rest,H,rfl,rfl,F,a0,V⟩
 ·exact (k u (PH.le_refl _) (Ac.nil _ _ _ _)).out
 have R:∀ o,u g=none->PH.le u (u.upd g o):=fun o W=>Jw o W;rw[Sym.ofNo h];intro c ρ a w J f;have I:=f.gd.pm g _ (Ab _ _ _);have X:u g=none:=by
  rcases f.gd.ap g with e|e
  ·exact e
  rw[Ab]at e;cases e
 have a1:c.w0.heap.size<=g:=by
  rcases A2e g c.w0.heap.size with T|a2
  ·have U:c.m0 g=none:=by
    rw[J];rcases h0 g with e|e
    ·exact e
    exact absurd H e
   have:=f.gr.ms g T U;rw[Ab]at this;cases this
  grind
 have L:=k (u.upd g (.cells (A2 es++rest).toArray t (0,0))) (R _ X) ⟨_,_,rfl,F,fun j e Q=>⟨g,0,rfl,fun i x hx=>⟨_,_,_,Ab _ _ _,by
  rw[A3j,A2w];have:=Ju Z.1 Q hx;rw[A1r (by obtain⟨h,_⟩:=A05.1 this;exact h)];exact this⟩⟩⟩
 have L:=L.out;rw[Sym.ofNo h]at L;refine L c ρ a w J ⟨f.sz,f.tm,f.df.of fun r e _ W E=>(by
  have D:r≠g:=fun e'=>(by rw[e',Ab]at E;cases E);rw[Ad _ _ D]at E;exact⟨e,by rw[Ad _ _ D];exact W,E⟩),fun kk b hb=>?_,f.inj,f.lv,⟨fun C o A=>?_,fun C o A=>?_,fun C=>?_,fun C cs t' fr j z A Q=>?_⟩,⟨f.gr.sz,f.gr.old,fun C A=>?_,fun C A E=>?_,f.gr.io,f.gr.dr⟩⟩
 ·obtain⟨e1,e2,e3,K⟩:=f.box kk b hb;have D:ρ kk≠g:=fun e=>by rw[e,Ab]at K;cases K
  refine⟨e1,e2,by rw[Ad _ _ D];exact e3,?_⟩;rw[Ad _ _ D]at K;exact K
 ·by_cases e:C=g
  ·subst e;rw[Ab]at A;rw[I];exact A
  rw[Ad _ _ e]at A;exact f.gd.pu C o A
 ·refine f.gd.pm C o ?_;rw[Ad _ _ (fun e=>by rw[e,H]at A;cases A)];exact A
 ·by_cases e:C=g
  ·grind
  rw[Ad _ _ e];have:=f.gd.ap C;rw[Ad _ _ e]at this;exact this
 ·by_cases e:C=g
  ·subst e;rw[Ab,<-I];exact A
  rw[Ad _ _ e];exact f.gd.cl C cs t' fr j z A Q
 ·rw[Ad _ _ oV];exact f.gr.us C A
 have:=f.gr.ms C A E;rw[Ad _ _ oV]at this;exact this
end rules
end
section
variable [Cl] [Pu] [Co]
variable {P:Program} [A6 P] {fn:Func} {Post:Ce} {st:List KI×S} {u m:PH}
def G.B (e:TypeId)(sz bt:Nat)(z:Value)(es:List Value)(ho:A9 sz es)(k:∀ g u',PH.le u u'->Hc u' g 0 sz es->G P fn Post (nx (adv P st) (.slice (some ⟨g,0,none⟩) es.length es.length)) u' m)(h:Aj P (adv P st)=.buildS (some (e,sz,bt,z)) es.length (es.zipIdx.map fun p=>(p.2,p.1)):=by kernel_rfl)(hzs:z.cells.size=sz:=by rfl)(hsz:0<sz:=by omega)(hn0:0<es.length:=by simp)(hb:es.length*sz<=16777216:=by simp):G P fn Post st u m:=G.buildU e sz bt z es h ho hzs hsz hn0 hb k
end
section
variable {a:zP}{c n:Nat}{env:Operand->Value}{l:zK}{o:Op}
variable [Cl] [Co] [Pu]
section rules
variable {P:Program} [A6 P] {fn:Func} {Post:Ce} {st:List KI×S} {u m:PH}
def Jx {sz:Option Nat}{x:Value}{lo hi e:Option Value}(h:Bc P env o=.slice sz x lo hi e):∃ t X L H M,o=.slice t X L H M/\env X=x/\L.map env=lo/\H.map env=hi/\M.map env=e/\Ot P t=sz:=by
 cases o<;>simp only[Bc]at h<;>try cases h
 any_goals ((repeat' split at h)<;>cases h;done)
 exact⟨_,_,_,_,_,rfl,rfl,rfl,rfl,rfl,rfl⟩
def Zr (a:zP):a.map (·.add 0)=a:=by cases a<;>rfl
def G.sliceTo (sz:Nat)(a:zP)(n c k:Nat)(h:Aj P (adv P st)=.slice (some sz) (.slice a n c) none (some (zI k)) none)(T:k<=c)
 (g:G P fn Post (nx (adv P st) (.slice a k c)) u m):G P fn Post st u m:=by
 refine G.ask h mV (fun env o j w hp=>?_) g;obtain⟨t,X,L,H,M,C,F,I,J,K,f⟩:=Jx j;obtain⟨E,R,D,pos,after,A⟩:=o;simp only at C;subst C;unfold Ot at f;split at f
 ·rename_i e hu;have Q:(0:Int)<=k/\(k:Int)<=c:=oV;simp only[execOp,F,I,J,K];simp only[Instr.sliceAt,Sem.run_bind,run_underlying hu,Result.andThen_ok,Instr.slice,Instr.sliceBounds,Instr.sliceBound,asIntOf,Sem.run_pure,if_true,Option.isSome,Sem.run_ite,Bf f,Q,and_self,A23,A58,Zr,A6t];simp
 cases f
def G.sliceFrom (b off n c k sz:Nat)(h:Aj P (adv P st)=.slice (some sz) (.slice (some ⟨b,off,none⟩) n c) (some (zI k)) none none)(V:k<=n)(U:k<c)
 (g:G P fn Post (nx (adv P st) (.slice (some ⟨b,off+k*sz,none⟩) (n-k) (c-k))) u m):G P fn Post st u m:=by
 refine G.ask h mV (fun env o j w hp=>?_) g;obtain⟨t,X,L,H,M,C,F,I,J,K,f⟩:=Jx j;obtain⟨E,T,D,pos,after,A⟩:=o;simp only at C;subst C;unfold Ot at f;split at f
 ·rename_i e hu;have Q:(0:Int)<=k/\(k:Int)<=n:=oV;have R:¬ (c=k):=oV;simp only[execOp,F,I,J,K];simp only[Instr.sliceAt,Sem.run_bind,run_underlying hu,Result.andThen_ok,Instr.slice,Instr.sliceBounds,Instr.sliceBound,asIntOf,Sem.run_pure,if_true,Option.isSome,Sem.run_ite,Bf f,Q,and_self,A23,R,if_false,A4c,Ed]
 cases f
def G.quo (x y z:Int)(h:Aj P (adv P st)=.bin .quo (zI x) (zI y))(e:0<=x)(C:x<=9223372036854775807)(F:0<y)(f:x/y=z)
 (k:G P fn Post (nx (adv P st) (zI z)) u m):G P fn Post st u m:=by
 refine G.bin _ h C0 (fun t w=>?_) k;have j:x.tdiv y=z:=by rw[A32 e];exact f
 have D:0<=z:=by rw[<-f];exact A8m e oV
 have E:z<=x:=by rw[<-f];exact A9b _ e
 have A:¬ y=0:=oV
 simp[binOp,Op.intDiv,A,j,Fk (z:=z) oV oV]
def G.rem (x y z:Int)(h:Aj P (adv P st)=.bin .rem (zI x) (zI y))(A:0<=x)(f:x<=9223372036854775807)(C:0<y)(e:x%y=z)
 (k:G P fn Post (nx (adv P st) (zI z)) u m):G P fn Post st u m:=by
 refine G.bin _ h C0 (fun t w=>?_) k;have D:x.tmod y=z:=by rw[A47 A];exact e
 have j:¬ y=0:=oV
 have E:0<=z:=by rw[<-e];exact Int.emod_nonneg _ j
 have F:z<=x:=by rw[<-e];have:=A9q x y;have H:=Int.mul_nonneg (Bad C) (A8m A (Bad C));omega
 simp[binOp,Op.intDiv,j,D,Fk (z:=z) oV oV]
def Xq {e:BinOp}{x y:Bool}(t:TypeId)(X Y:Operand)(w:World):(eqGuard e t X Y (.bool x) (.bool y)).run P w=.ok () w:=by
 unfold eqGuard;split<;>simp
def Ak8 {t:TypeId}(e:P.underlying t=some .bool)(x y:Bool)(w:World):(Op.equal t (.bool x) (.bool y)).run P w=.ok (x==y) w:=by
 unfold Op.equal;rw[show Op.maxDepth=9999+1 from rfl,Op.equalIn];simp[run_underlying e]
def G.eqB (x y:Bool)(h:Aj P (adv P st)=.binT .eql (some .bool) (.bool x) (.bool y))(k:G P fn Post (nx (adv P st) (.bool (x==y))) u m):G P fn Post st u m:=by
 refine G.ask h mV (fun env o f w _=>?_) k;obtain⟨t,X,Y,I,e,D,E,F⟩:=Mb f;obtain⟨C,H,A,pos,after,j⟩:=o;simp only at e;subst e;simp[execOp,D,E,Xq,binOp,Ak8 F]
def G.neB (x y:Bool)(h:Aj P (adv P st)=.binT .neq (some .bool) (.bool x) (.bool y))(k:G P fn Post (nx (adv P st) (.bool (!(x==y)))) u m):G P fn Post st u m:=by
 refine G.ask h mV (fun env o f w _=>?_) k;obtain⟨t,X,Y,I,e,D,E,F⟩:=Mb f;obtain⟨C,H,A,pos,after,j⟩:=o;simp only at e;subst e;simp[execOp,D,E,Xq,binOp,Ak8 F]
def Ai (l:zK):zV:=l.map fun (n:Nat)=>Value.int .i64 n
def Cy (u:PH)(v:Value)(l:zK):Prop:=Ac u v 1 (Ai l)
def Ak (l:zK):(Ai l).length=l.length:=by simp[Ai]
def Cy.mono {u e:PH}{v:Value}{l:zK}(h:Cy u v l)(f:PH.le u e):Cy e v l:=Ac.mono h f
def Cy.opn {u:PH}{v:Value}(h:Cy u v l):∃ a c,v=.slice a l.length c/\l.length<=c:=by
 obtain⟨a,c,e,f,_⟩:=h;rw[Ak]at e f;exact⟨a,c,e,f⟩
def Cy.len {u:PH}(h:Cy u (.slice a n c) l):n=l.length/\l.length<=c:=by
 obtain⟨j,t,e,f⟩:=h.opn;simp at e;obtain⟨_,rfl,rfl⟩:=e;exact⟨rfl,f⟩
def Cy.at {u:PH}{a:zP}{n c:Nat}{l:zK}(h:Cy u (.slice a n c) l){j:Nat}(t:j<l.length):∃ b off,a=some ⟨b,off,none⟩/\ElP u b (off+j*1) (zI (l.getD j 0:Nat)):=by
 obtain⟨A,C,e,D,f⟩:=h;simp at e;obtain⟨rfl,_,rfl⟩:=e;exact f j _ (by simp[Ai,t])
def Cy.take {u:PH}(h:Cy u (.slice a n c) l)(k:Nat)(F:k<=l.length):Cy u (.slice a k c) (l.take k):=by
 obtain⟨D,E,t,A,C⟩:=h;simp at t;obtain⟨rfl,_,rfl⟩:=t;rw[Ak]at A;refine⟨a,c,by simp[Ai];omega,by simp[Ai];omega,fun j e f=>?_⟩;refine C j e ?_;simp only[Ai,A5g,A3y]at f⊢;split at f
 ·exact f
 cases f
def Rb {b:Builtin}{ts:List TypeId}{xs:zV}(h:Bc P env o=.blt b ts xs):∃ c,o=.call c/\c.callee=.builtin b/\c.argTypes=ts.toArray/\(c.args.map env)=xs.toArray:=by
 cases o<;>simp only[Bc]at h<;>try cases h
 ·split at h<;>cases h
 split at h
 ·split at h<;>cases h
 ·rename_i c b' hc;split at h
  ·split at h<;>cases h
  simp only[Vm.blt.injEq]at h;obtain⟨rfl,rfl,rfl⟩:=h;exact⟨_,rfl,hc,mV,by apply A6j;simp⟩
 cases h
def G.minI (ts:List TypeId)(x y z:Int)(h:Aj P (adv P st)=.blt .min ts [zI x,zI y])(F:min x y=z)(k:G P fn Post (nx (adv P st) (zI z)) u m):G P fn Post st u m:=by
 refine G.ask h mV (fun env o e w _=>?_) k;obtain⟨c,j,C,I,D⟩:=Rb e;obtain⟨A,H,t,pos,after,f⟩:=o;simp only at j;subst j;subst F;have E:(if y<x then y else x)=min x y:=by split<;>omega
 simp[execOp,resolve,C,invoke,builtin,D,Builtin.min_,Builtin.min2,E]
def G.maxI (ts:List TypeId)(x y z:Int)(h:Aj P (adv P st)=.blt .max ts [zI x,zI y])(F:max x y=z)(k:G P fn Post (nx (adv P st) (zI z)) u m):G P fn Post st u m:=by
 refine G.ask h mV (fun env o e w _=>?_) k;obtain⟨c,j,C,I,D⟩:=Rb e;obtain⟨A,H,t,pos,after,f⟩:=o;simp only at j;subst j;subst F;have E:(if x<y then y else x)=max x y:=by split<;>omega
 simp[execOp,resolve,C,invoke,builtin,D,Builtin.max_,Builtin.max2,E]
def G.appendNil (e:TypeId)(sz I:Nat)(z:Value)(a:zP)(c:Nat)(h:Aj P (adv P st)=.app (some (e,sz,I,z)) true [zN,.slice a 0 c])
 (k:G P fn Post (nx (adv P st) zN) u m):G P fn Post st u m:=by
 refine G.big (K:=fun H F E=>F=u/\E=m/\H=zN) h mV (fun env V U=>(Ew (P:=P) (o:=⟨none,V,0, "",#[],none⟩) U).2.1) (.inl fun v F E D=>by rw[D.2.1];exact PH.le_refl _) (fun env o f w A=>?_) (fun H F E _ D=>?_)
 ·obtain⟨_,_,t,hi,j⟩:=Ew (P:=P) f;obtain⟨T,i,C,J,L,Q⟩:=D4 hi;have R:(Builtin.append_ #[t,t] o.type #[zN,.slice a 0 c]).run P w=.ok zN w:=by
   cases a<;>simp[Builtin.append_,run_underlying T,sizeOf,typeInfo,C,Builtin.lenOf,Builtin.firstCells,loadCells,loadCellsFrom]
  exact B8 (by rw[j,R];rfl) ⟨u,m,A,B0.refl _ _ _,rfl,rfl,rfl⟩
 obtain⟨rfl,rfl,rfl⟩:=D;exact k
def Fc (l:List Int):zV:=l.map fun (n:Int)=>Value.int .i64 n
def Cq (l:List Int):(Fc l).length=l.length:=by simp[Fc]
def N7 (l:List Int):A9 1 (Fc l):=by
 intro e f;simp only[Fc,A1b]at f;obtain⟨n,_,rfl⟩:=f;simp[Value.cells,Ax]
def Mm (l:List Int)(j:Nat)(d:Int):(Fc l).set j (zI d)=Fc (l.set j d):=by simp[Fc,A2g]
def Tr (l:zK):Fc (l.map fun (n:Nat)=>(n:Int))=Ai l:=by simp[Fc,Ai]
def Av (l:zK):A9 1 (Ai l):=by rw[<-Tr];exact N7 _
def Cy.els {u:PH}{b off n c:Nat}(h:Cy u (.slice (some ⟨b,off,none⟩) n c) l):Hc u b off 1 (Ai l):=by
 obtain⟨F,H,t,I,D⟩:=h;simp at t;obtain⟨rfl,_,rfl⟩:=t;intro j e E;obtain⟨b',A,f,C⟩:=D j e E;simp at f;obtain⟨rfl,rfl⟩:=f;exact C
end rules
end
section
variable [Cl] [Co] [Pu]
section rules
variable {P:Program} [A6 P] {fn:Func} {Post:Ce} {st:List KI×S} {u m:PH}
def Ac.els {sz:Nat}{es:zV}{b off n c:Nat}(h:Ac u (.slice (some ⟨b,off,none⟩) n c) sz es):Hc u b off sz es:=by
 obtain⟨F,H,t,I,D⟩:=h;simp at t;obtain⟨rfl,_,rfl⟩:=t;intro j e E;obtain⟨b',A,f,C⟩:=D j e E;simp at f;obtain⟨rfl,rfl⟩:=f;exact C
def G.append0 (e:TypeId)(sz Q:Nat)(z:Value)(a j:zP)(n c J:Nat)(h:Aj P (adv P st)=.app (some (e,sz,Q,z)) true [.slice a n c,.slice j 0 J])(R:n<=c)
 (k:G P fn Post (nx (adv P st) (.slice a n c)) u m):G P fn Post st u m:=by
 refine G.big (K:=fun L I H=>I=u/\H=m/\L=.slice a n c) h mV (fun A Z Y=>(Ew (P:=P) (o:=⟨none,Z,0, "",#[],none⟩) Y).2.1) (.inl fun v I H F=>by rw[F.2.1];exact PH.le_refl _) (fun A o f w D=>?_) (fun L I H _ F=>?_)
 ·obtain⟨_,_,t,hi,C⟩:=Ew (P:=P) f;obtain⟨X,i,E,T,U,V⟩:=D4 hi;have W:(Builtin.append_ #[t,t] o.type #[.slice a n c,.slice j 0 J]).run P w=.ok (.slice a n c) w:=by
   cases a<;>cases j<;>simp[Builtin.append_,run_underlying X,sizeOf,typeInfo,E,Builtin.lenOf,Builtin.firstCells,loadCells,loadCellsFrom,R,storeCells]
  exact B8 (by rw[C,W];rfl) ⟨u,m,D,B0.refl _ _ _,rfl,rfl,rfl⟩
 obtain⟨rfl,rfl,rfl⟩:=F;exact k
def G.appendU (e:TypeId)(sz bt:Nat)(z:Value)(es xs:zV)(a:zP)(Y b off n c:Nat)(h:Aj P (adv P st)=.app (some (e,sz,bt,z)) true [.slice a Y Y,.slice (some ⟨b,off,none⟩) n c])(X:0<sz)
 (ha:Ac u (.slice a Y Y) sz es) (I:A9 sz es) (hx:Hc u b off sz xs) (ho:A9 sz xs) (V:xs.length=n) (a5:0<n) (hb:(es.length+n)*bt<=140737488355328) (a2:es.length+n<=9223372036854775807)
 (k:∀ Q D,PH.le u D->Ac D Q sz (es++xs)->G P fn Post (nx (adv P st) Q) D m):G P fn Post st u m:=by
 refine G.big (K:=fun Q D m'=>m'=m/\Ac D Q sz (es++xs)) h mV (fun a0 op hv=>(Ew (P:=P) (o:=⟨none,op,0, "",#[],none⟩) hv).2.1) (.inl fun v D m' U=>by rw[U.1];exact PH.le_refl _) (fun a0 o J w C=>?_) (fun Q D m' a4 U=>?_)
 ·obtain⟨_,_,t,hi,T⟩:=Ew (P:=P) J;obtain⟨hu,i,F,H,rfl,rfl⟩:=D4 hi;have A:=hx.cells X ho C.pu;have E:=Ba ho;have a3:=Ba I;obtain⟨a1,c1,e1,e2,e3⟩:=id ha;simp only[Value.slice.injEq]at e1;obtain⟨rfl,rfl,rfl⟩:=e1;have key:∀ (cap:Nat) (rest:zV),es.length+n<=cap->Ac (u.upd w.heap.size (.cells (A2 (es++xs)++rest).toArray e (0,0))) (.slice (some ⟨w.heap.size,0,none⟩) (es.length+n) cap) i.size (es++xs):=by
   intro cap rest R;refine⟨_,cap,by simp[V],by simp[V];exact R,fun j x hj=>⟨_,0,rfl,fun ii y hy=>⟨_,_,_,Ab _ _ _,?_⟩⟩⟩;rw[A3j,A2w];have:=Ju (I.append ho) hj hy;rw[A1r (by obtain⟨h,_⟩:=A05.1 this;exact h)];exact this
  rcases A2a es.length with h0|h0
  ·have:es = []:=A2l h0;subst this;simp only[A30,A2w]at hb a2;have L:∃ v w',(Builtin.append_ #[t,t] o.type #[.slice a 0 0,.slice (some ⟨b,off,none⟩) n c]).run P w=.ok v w'/\v=.slice (some ⟨w.heap.size,0,none⟩) n (grownCap w n 0 e)/\w'=w.drew.alloc (.cells (A2 xs++(Builtin.zeroCells z.cells (grownCap w n 0 e-n)).toList).toArray e):=by
    cases a with
    |none =>
     refine⟨_,_,run_append_nil (P:=P) w t o.type e i z hu F H ⟨b,off,none⟩ n c (A2 xs) (by rw[E,V]) A a5 oV oV,rfl,?_⟩
     congr 2;apply A6j;simp
    |some a =>
     have:=run_append_grow (P:=P) w t o.type e i z hu F H a 0 0 [] mV mV ⟨b,off,none⟩ n c (A2 xs) (by rw[E,V]) A oV oV (growslice_fits oV (by rw[A2w];omega));simp only[A2w]at this;refine⟨_,_,this,rfl,?_⟩
     congr 2;apply A6j;simp
   obtain⟨v,w',L,rfl,rfl⟩:=L;obtain⟨g1,g2,g3,g4⟩:=C.drew'.newU (.cells (A2 xs++(Builtin.zeroCells z.cells (grownCap w n 0 e-n)).toList).toArray e (0,0));have:=key (grownCap w n 0 e) (Builtin.zeroCells z.cells (grownCap w n 0 e-n)).toList (by simpa using grownCap_ge w n 0 e);simp only[A3q,A30,A2w]at this;exact B8 (by rw[T];simp only[A30];rw[L];rfl) ⟨_,m,g1,⟨g2.sz,g2.old,g2.us,g2.ms,g2.io,fun f=>⟨(g2.dr f).tape,A7v (g2.dr f).dr⟩⟩,rfl,this⟩
  obtain⟨Z,oe,rfl,_⟩:=e3 0 es[0] mV;have W:=Hc.cells X ha.els I C.pu;have L:=run_append_grow (P:=P) w t o.type e i z hu F H ⟨Z,oe,none⟩ es.length es.length (A2 es) a3 W ⟨b,off,none⟩ n c (A2 xs) (by rw[E,V]) A oV oV (growslice_fits oV hb);have ew:(A2 es).toArray++(A2 xs).toArray++Builtin.zeroCells z.cells (grownCap w (es.length+n) es.length e-(es.length+n))=(A2 (es++xs)++(Builtin.zeroCells z.cells (grownCap w (es.length+n) es.length e-(es.length+n))).toList).toArray:=by
   apply A6j;simp[Dq]
  rw[ew]at L;obtain⟨g1,g2,g3,g4⟩:=C.drew'.newU (.cells (A2 (es++xs)++(Builtin.zeroCells z.cells (grownCap w (es.length+n) es.length e-(es.length+n))).toList).toArray e (0,0));exact B8 (by rw[T,show ([Value.slice (some ⟨Z,oe,none⟩) es.length es.length,Value.slice (some ⟨b,off,none⟩) n c]).toArray = #[.slice (some ⟨Z,oe,none⟩) es.length es.length,.slice (some ⟨b,off,none⟩) n c] from rfl,L];rfl) ⟨_,m,g1,⟨g2.sz,g2.old,g2.us,g2.ms,g2.io,fun f=>⟨(g2.dr f).tape,A7v (g2.dr f).dr⟩⟩,rfl,key _ _ (grownCap_ge w _ _ e)⟩
 obtain⟨rfl,U⟩:=U;exact k Q D a4 U
def G.appendV (e:TypeId)(sz j:Nat)(z:Value)(es xs:zV)(a:zP)(f:Nat)(t:zP)(n c:Nat)(h:Aj P (adv P st)=.app (some (e,sz,j,z)) true [.slice a f f,.slice t n c])(D:0<sz)
 (H:Ac u (.slice a f f) sz es) (C:A9 sz es) (I:Ac u (.slice t n c) sz xs) (T:A9 sz xs) (R:(es.length+xs.length)*j<=140737488355328) (A:es.length+xs.length<=9223372036854775807)
 (k:∀ J E,PH.le u E->Ac E J sz (es++xs)->G P fn Post (nx (adv P st) J) E m):G P fn Post st u m:=by
 obtain⟨K,V,F,W,Q⟩:=id I;simp only[Value.slice.injEq]at F;obtain⟨rfl,rfl,rfl⟩:=F;rcases A2a xs.length with h0|h0
 ·have:xs = []:=A2l h0;subst this;exact G.append0 e sz j z a t f f c h (A08 _) (k _ u (PH.le_refl _) (by rw[A1x];exact H))
 obtain⟨L,U,rfl,_⟩:=Q 0 xs[0] mV;exact G.appendU e sz j z es xs a f L U xs.length c h D H C I.els T rfl h0 R A k
end rules
end
section
variable {env:Operand->Value}{o:Op}{x:Value}
variable [Cl] [Co] [Pu]
abbrev mkS (l:zB):ByteArray:=⟨l.toArray⟩
def Ads {a b:zB}:mkS a=mkS b↔a=b:=by
 constructor
 ·intro h;injection h with h;simpa using h
 rintro rfl;rfl
def Ng (l:zB):(mkS l).toList=l:=by
 rw[Go.Lib.toList_data]
def Mf (a b:zB):((mkS a).toList==(mkS b).toList)=decide (a=b):=by
 rw[Ng,Ng,A9j];simp
section rules
variable {P:Program} [A6 P] {fn:Func} {Post:Ce} {st:List KI×S} {u m:PH}
def Yr (Q:Op->Bool)(st:List KI×S):Bool :=
 match st.1 with
 |.reg _ ops _ (i::_)::_=>match ops[i]? with
  |some o=>Q o.op
  |none=>false
 |_=>false
def G.askQ (Q:Op->Bool){V:Vm}{v:Value}(h:Aj P (adv P st)=V)(C:Yr Q (adv P st)=true)(t:V≠.other)(I:∀ env (o:Oper),Bc P env o.op=V->Q o.op=true->∀ w,(Hr o.op=true->Fj u w/\(Pu.b=false->Fj m w))->(execOp env o).run P w=.ok (.value v) w)
 (k:G P fn Post (nx (adv P st) v) u m):G P fn Post st u m:=by
 refine G.stp ?_;obtain⟨T,L,R,i,l,U,s,o,e,A,H,F,K,J,f,j⟩:=Eq h t;have k:=k.out;rw[j]at k;have D:Q o.op=true:=by
  rw[e]at C;simpa[Yr,A] using C
 rw[e];exact⟨Ob.ask A H F K J (Aby f t) (fun w hp=>I _ o f D w fun h=>⟨(hp (.inl h)).1,fun E=>(hp (.inl h)).2 (.inl E)⟩) k⟩
def Nd (P:Program):Op->Bool
 |.slice t ..=>match P.underlying t with|some .string=>true|_=>false
 |_=>false
def H8 {e:BinOp}{x y:ByteArray}(t:TypeId)(X Y:Operand)(w:World):(eqGuard e t X Y (.string x) (.string y)).run P w=.ok () w:=by
 unfold eqGuard;split<;>simp
def G.eqST (a b:zB)(h:Aj P (adv P st)=.bin .eql (.string (mkS a)) (.string (mkS b)))(e:a=b)(k:G P fn Post (nx (adv P st) zT) u m):G P fn Post st u m :=
 G.bin _ h H8 (fun t w=>by simp[binOp,Op.stringOp,Mf,e]) k
def G.eqSF (a b:zB)(h:Aj P (adv P st)=.bin .eql (.string (mkS a)) (.string (mkS b)))(e:a≠b)(k:G P fn Post (nx (adv P st) zL) u m):G P fn Post st u m :=
 G.bin _ h H8 (fun t w=>by simp only[binOp,Op.stringOp,Mf,decide_eq_false e];rfl) k
def G.neST (a b:zB)(h:Aj P (adv P st)=.bin .neq (.string (mkS a)) (.string (mkS b)))(e:a≠b)(k:G P fn Post (nx (adv P st) zT) u m):G P fn Post st u m :=
 G.bin _ h H8 (fun t w=>by simp only[binOp,Op.stringOp,Mf,decide_eq_false e];rfl) k
def G.neSF (a b:zB)(h:Aj P (adv P st)=.bin .neq (.string (mkS a)) (.string (mkS b)))(e:a=b)(k:G P fn Post (nx (adv P st) zL) u m):G P fn Post st u m :=
 G.bin _ h H8 (fun t w=>by simp only[binOp,Op.stringOp,Mf,decide_eq_true e];rfl) k
def Aih (a b:zB):mkS a++mkS b=mkS (a++b):=by
 rw[mkS,mkS,ByteArray.mk_append_mk]
def G.addS (a b:zB)(h:Aj P (adv P st)=.bin .add (.string (mkS a)) (.string (mkS b)))(f:a.length+b.length<=9223372036854775807)(k:G P fn Post (nx (adv P st) (.string (mkS (a++b)))) u m):G P fn Post st u m :=
 G.bin _ h H8 (fun t w=>by
  have e:¬ (((mkS a).size+(mkS b).size:Nat):Int)>IntKind.i64.max:=by
   rw[Go.Lib.size_mk,Go.Lib.size_mk];simp[IntKind.max,IntKind.signed,IntKind.bits];omega
  simp only[binOp,Op.stringOp];rw[if_neg e,Aih];rfl) k
def Aia {t:Option TypeDesc}{x i:Value}(h:Bc P env o=.index t x i):∃ e X I,o=.index e X I/\env X=x/\env I=i/\P.underlying e=t:=by
 cases o<;>simp only[Bc]at h<;>try cases h
 any_goals ((repeat' split at h)<;>cases h;done)
 exact⟨_,_,_,rfl,rfl,rfl,rfl⟩
def Ln {s d:Option TypeDesc}(h:Bc P env o=.conv s d x):∃ f e X,o=.convert f e X/\env X=x/\P.underlying f=s/\P.underlying e=d:=by
 cases o<;>simp only[Bc]at h<;>try cases h
 any_goals ((repeat' split at h)<;>cases h;done)
 exact⟨_,_,_,rfl,rfl,rfl,rfl⟩
def G.idxS (l:zB)(i:Nat)(b:UInt8)(h:Aj P (adv P st)=.index (some .string) (.string (mkS l)) (zI i))(A:l[i]?=some b)
 (k:G P fn Post (nx (adv P st) (.int .u8 (b.toNat:Int))) u m):G P fn Post st u m:=by
 refine G.ask h mV (fun env o e w _=>?_) k;obtain⟨t,X,I,j,E,F,H⟩:=Aia e;obtain⟨D,L,C,pos,after,f⟩:=o;simp only at j;subst j;obtain⟨hi,A⟩:=A05.1 A;have J:(mkS l)[i]?=some b:=by
  have K:i<(mkS l).size:=by rw[Go.Lib.size_mk];exact hi
  rw[getElem?_pos (mkS l) i K]
  congr 1
 have h0:(0:Int)<=(i:Int):=oV
 simp[execOp,E,F,Instr.index,run_underlying H,asIntOf,J,h0]
def G.sliceSTo (l:zB)(n:Nat)(h:Aj P (adv P st)=.slice none (.string (mkS l)) none (some (zI n)) none)(Q:Yr (Nd P) (adv P st)=true)(U:n<=l.length)
 (k:G P fn Post (nx (adv P st) (.string (mkS (l.take n)))) u m):G P fn Post st u m:=by
 refine G.askQ _ h Q mV (fun env o e j w hp=>?_) k;obtain⟨t,X,L,H,M,A,E,F,I,J,R⟩:=Jx e;obtain⟨D,T,C,pos,after,f⟩:=o;simp only at A;subst A;simp only[Nd]at j;split at j
 ·rename_i hu;have K:(0:Int)<=n/\(n:Int)<=(mkS l).size:=by rw[Go.Lib.size_mk];omega
  simp only[execOp,E,F,I,J];simp only[Instr.sliceAt,Sem.run_bind,run_underlying hu,Result.andThen_ok,Instr.slice,Instr.sliceBounds,Instr.sliceBound,asIntOf,Sem.run_pure,if_true,Option.isSome,Sem.run_ite,K,and_self,A23,A6t];simp[Go.Lib.extract_mk]
 cases j
def G.sliceSFrom (l:zB)(n:Nat)(h:Aj P (adv P st)=.slice none (.string (mkS l)) (some (zI n)) none none)(R:Yr (Nd P) (adv P st)=true)(V:n<=l.length)
 (k:G P fn Post (nx (adv P st) (.string (mkS (l.drop n)))) u m):G P fn Post st u m:=by
 refine G.askQ _ h R mV (fun env o e j w hp=>?_) k;obtain⟨t,X,L,H,M,A,E,F,I,J,T⟩:=Jx e;obtain⟨D,U,C,pos,after,f⟩:=o;simp only at A;subst A;simp only[Nd]at j;split at j
 ·rename_i hu;have K:(0:Int)<=n/\(n:Int)<=(mkS l).size:=by rw[Go.Lib.size_mk];omega
  simp only[execOp,E,F,I,J];simp only[Instr.sliceAt,Sem.run_bind,run_underlying hu,Result.andThen_ok,Instr.slice,Instr.sliceBounds,Instr.sliceBound,asIntOf,Sem.run_pure,if_true,Option.isSome,Sem.run_ite,K,and_self,A23,A6t];have Q:(mkS l).extract n (mkS l).size=mkS (l.drop n):=by
   rw[Go.Lib.extract_mk,Go.Lib.size_mk,A1j mV]
  simp[Q]
 cases j
def G.convI (I j J:IntKind)(x z:Int)(h:Aj P (adv P st)=.conv (some (.int I)) (some (.int j)) (.int J x))(H:j.wrap x=z)
 (k:G P fn Post (nx (adv P st) (.int j z)) u m):G P fn Post st u m:=by
 refine G.ask h mV (fun env o e w _=>?_) k;obtain⟨s,d,X,t,D,E,F⟩:=Ln e;obtain⟨C,K,A,pos,after,f⟩:=o;simp only at t;subst t;simp[execOp,convert,D,run_underlying E,run_underlying F,Conv.intToInt,H]
def Aj9 {z:Int}(e:0<=z)(f:z<256):IntKind.u8.wrap z=z:=by
 simp only[IntKind.wrap,IntKind.signed,IntKind.bits];simp;omega
def G.sub8 (x y z:Int)(h:Aj P (adv P st)=.bin .sub (.int .u8 x) (.int .u8 y))(j:x-y=z)(e:0<=z)(f:z<256)
 (k:G P fn Post (nx (adv P st) (.int .u8 z)) u m):G P fn Post st u m :=
 G.bin _ h C0 (fun t w=>by simp[binOp,Op.intArith,j,Aj9 e f]) k
def Bm (l:zB):zV:=l.map fun b=>Value.int .u8 (b.toNat:Int)
def Au (l:zB):(Bm l).length=l.length:=by simp[Bm]
def P0 (l l':zB):Bm (l++l')=Bm l++Bm l':=by simp[Bm]
def Mj (l:zB):A9 1 (Bm l):=by
 intro e f;simp only[Bm,A1b]at f;obtain⟨b,_,rfl⟩:=f;exact⟨rfl,fun x h=>by simp[Value.cells]at h;subst h;rfl⟩
def Af.take {m0:PH}{t:TypeId}{sz:Nat}{es:zV}{a:zP}{n c k:Nat}(C:Af m0 m (.slice a n c) t sz es)(H:k<=es.length):Af m0 m (.slice a k c) t sz (es.take k):=by
 refine⟨fun e J=>C.1 e (A27 J),?_⟩;rcases C.2 with ⟨A,rfl,K⟩|⟨g,cap,rest,E,rfl,A,F,j,h⟩
 ·left;simp at A H;obtain⟨rfl,rfl,rfl⟩:=A;subst H;exact⟨rfl,rfl,K⟩
 right;simp only[Value.slice.injEq]at A;obtain⟨rfl,rfl,rfl⟩:=A;have e:A2 es=A2 (es.take k)++A2 (es.drop k):=by rw[<-Dq,A4h]
 refine⟨g,c,A2 (es.drop k)++rest,E,by rw[<-A2k,<-e],gV,gV,by rw[<-A2k,<-e];exact j,fun x f=>?_⟩;rcases A1h.1 f with f|f
 ·simp only[A2,A57]at f;obtain⟨I,D,f⟩:=f;exact (C.1 I (A3x D)).2 x f
 exact h x f
def Af.cap {m0:PH}{t:TypeId}{sz:Nat}{es:zV}{a:zP}{n c:Nat}(A:Af m0 m (.slice a n c) t sz es):n<=c:=by
 rcases A.2 with ⟨f,rfl,D⟩|⟨g,cap,rest,C,rfl,f,h,j,e⟩
 ·simp at f;omega
 simp at f;omega
def G.convB (m0:PH)(t e:TypeId)(l:zB)(b n c:Nat)(h:Aj P (adv P st)=.conv (some (.slice e)) (some .string) (zG b n c))(T:P.underlying e=some (.int .u8))
 (F:Af m0 m (zG b n c) t 1 (Bm l)) (k:G P fn Post (nx (adv P st) (.string (mkS l))) u m) (C:Pu.b=false:=by rfl):G P fn Post st u m:=by
 refine G.ask h mV (fun env o f w hp=>?_) k;obtain⟨s,d,X,D,K,L,E⟩:=Ln f;obtain⟨J,W,I,pos,after,A⟩:=o;simp only at D;subst D;have V:=(hp (by simp[Hr,Acg E mV])).2 C;have H:=F.len;rw[Au]at H;subst H;have:=run_convert_bytes_back (P:=P) w s d e ⟨b,0,none⟩ c l L T E (fun j U=>by
  have Q:=F.el (j:=j) (e:=.int .u8 (l[j].toNat:Int)) (by simp[Bm,U]);have R:=(Q 0 (.int .u8 (l[j].toNat:Int)) (by simp[Value.cells])).cell V;rw[Ed];simpa using R)
 simp[execOp,K,this]
end rules
end
section
abbrev zS (l:List UInt8):Value:=.string (mkS l)
abbrev zE:Value:=.string (mkS [])
variable [Cl] [Pu]
abbrev zF (f:FuncId)(a:List Value)(u:PH)(R:Value->PH->Prop):Prop:=Fn0 prog f a u R
end
section
variable [Cl] [Pu] [Co]
variable {P:Program} [A6 P] {fn:Func} {Post:Ce} {st:List KI×S} {u m:PH}
def G.q (a b:List UInt8)(hab:a=b)(k:G P fn Post (nx (adv P st) (.bool true)) u m)(h:Aj P (adv P st)=.bin .eql (.string (mkS a)) (.string (mkS b)):=by kernel_rfl):G P fn Post st u m:=G.eqST a b h hab k
def G.w (a b:List UInt8)(hab:a≠b)(k:G P fn Post (nx (adv P st) (.bool false)) u m)(h:Aj P (adv P st)=.bin .eql (.string (mkS a)) (.string (mkS b)):=by kernel_rfl):G P fn Post st u m:=G.eqSF a b h hab k
def G.x (a b:List UInt8)(hab:a≠b)(k:G P fn Post (nx (adv P st) (.bool true)) u m)(h:Aj P (adv P st)=.bin .neq (.string (mkS a)) (.string (mkS b)):=by kernel_rfl):G P fn Post st u m:=G.neST a b h hab k
def G.y (a b:List UInt8)(hab:a=b)(k:G P fn Post (nx (adv P st) (.bool false)) u m)(h:Aj P (adv P st)=.bin .neq (.string (mkS a)) (.string (mkS b)):=by kernel_rfl):G P fn Post st u m:=G.neSF a b h hab k
def tV (l:List UInt8):SV:=.v (.string (mkS l))
end
section
variable {a:zP}{b neg:Bool}{c n:Nat}{l:zK}{q:Rat}{y z:Int}
section
variable [Cl] {P:Program} [A6 P] {fn:Func} {Post:Ce} {st:List KI×S} {u m:PH}
def Axp (e:0<=z)(f:z<18446744073709551616):IntKind.u64.wrap z=z:=by
 simp only[IntKind.wrap,IntKind.signed,IntKind.bits];simp;omega
theorem G.quoW (x y z:Nat)(h:Aj P (adv P st)=.bin .quo (.int .u64 (x:Int)) (.int .u64 (y:Int)))(j:x/y=z)(C:x<18446744073709551616)(D:0<y)(k:G P fn Post (nx (adv P st) (.int .u64 (z:Int))) u m):G P fn Post st u m:=by
 refine G.bin _ h C0 (fun t w=>?_) k;have A:z<=x:=by rw[<-j];exact A3u _ _
 have e:(x:Int).tdiv y=z:=by grind
 have f:¬ y=0:=oV
 simp[binOp,Op.intDiv,f,e,Axp (z:=(z:Int)) oV oV]
theorem G.remW (x y z:Nat)(h:Aj P (adv P st)=.bin .rem (.int .u64 (x:Int)) (.int .u64 (y:Int)))(C:x%y=z)(j:x<18446744073709551616)(A:0<y)(k:G P fn Post (nx (adv P st) (.int .u64 (z:Int))) u m):G P fn Post st u m:=by
 refine G.bin _ h C0 (fun t w=>?_) k;have e:(x:Int).tmod y=z:=by grind
 have f:¬ y=0:=oV
 simp[binOp,Op.intDiv,f,e]
def G.negW (x z:Int)(h:Aj P (adv P st)=.un .neg (.int .u64 x))(F:IntKind.u64.wrap (-x)=z)(k:G P fn Post (nx (adv P st) (.int .u64 z)) u m):G P fn Post st u m:=by
 refine G.ask h mV (fun E o e w hp=>?_) k;obtain⟨t,X,j,D⟩:=Ake e;obtain⟨C,H,A,pos,after,f⟩:=o;simp only at j;subst j;simp[execOp,Op.unary,D,Op.intArith,F]
end
section
variable {u:PH} {x x':Value}
def Alb {m n:Nat}(h:Dk u x m)(e:Dk u x' n)(f:nl m<=10000000000000)(sb:nl n<=10000000000000):zF 239 [x,x'] u fun v j=>Dk j v (m+n) :=
 Fn0.ofW (fun v w=>C8 w v (m+n)) (fun w hp=>Ai9 x x' m n w (h.toW hp) (e.toW hp) f sb) (fun _ _ _ h _ c _=>Dk.ofW h c)
def Adg {m n:Nat}(h:Dk u x m)(f:Dk u x' n)(j:nl m<=10000000000000)(e:n<=m):zF 240 [x,x'] u fun v t=>Dk t v (m-n) :=
 Fn0.ofW (fun v w=>C8 w v (m-n)) (fun w hp=>Ahz x x' m n w (h.toW hp) (f.toW hp) j e) (fun _ _ _ h _ c _=>Dk.ofW h c)
def Aun {m n:Nat}(h:Dk u x m)(e:Dk u x' n)(f:nl m<=10000000000000)(sb:nl n<=10000000000000):zF 199 [x,x'] u fun v j=>Dk j v (m*n) :=
 Fn0.ofW (fun v w=>C8 w v (m*n)) (fun w hp=>Aib x x' m n w (h.toW hp) (e.toW hp) f sb) (fun _ _ _ h _ c _=>Dk.ofW h c)
def Adz {m n:Nat}(h:Dk u x m)(e:Dk u x' n)(f:nl m<=10000000000000)(sb:nl n<=10000000000000):zF 246 [x,x'] u fun v _=>v=zI (sgn ((m:Int)-n)) :=
 Fn0.ofW (fun v _=>v=zI (sgn ((m:Int)-n))) (fun w hp=>(Hl x x' m n w (h.toW hp) (e.toW hp) f sb).mono fun _ _ h=>⟨_,h.ext.1,rfl,h.ext.2⟩) (fun _ _ _ h _ _ _=>h)
def Ql {m n:Nat}(h:Dk u x m)(A:Dk u x' n)(E:nl m<=5000000000000)(sb:nl n<=5000000000000)(C:0<n):zF 238 [x,x'] u fun v t=>∃ a b,v=.tuple #[a,b]/\Dk t a (m/n)/\Dk t b (m%n) :=
 Fn0.ofW (fun v w=>∃ a b,v=.tuple #[a,b]/\C8 w a (m/n)/\C8 w b (m%n)) (fun w hp=>(Zo x x' m n w (h.toW hp) (A.toW hp) E sb C).mono fun _ _ ⟨a,b,e,f,j,D⟩=>⟨_,e,⟨a,b,rfl,f,j⟩,D⟩)
  (fun _ _ _ ⟨a,b,e,f,j⟩ _ c _=>⟨a,b,e,Dk.ofW f c,Dk.ofW j c⟩)
def Aap (h:Dk u x n)(f:nl n<=2):zF 272 [x] u fun v _=>v=.int .u64 (n:Int) :=
 Fn0.ofW (fun v _=>v=.int .u64 (n:Int)) (fun w hp=>(Acw x n w (h.toW hp) f).mono fun _ _ ⟨e,k⟩=>⟨_,e,rfl,k▸Ext.refl _⟩) (fun _ _ _ h _ _ _=>h)
def Ahl.els {g:Nat}(h:Hc u g 0 1 (A8 l)):Ahl u (zA g) (A8 l):=fun j f=>by
 refine⟨g,0,rfl,?_⟩;have e:j<l.length:=by simpa[A8] using f
 have:=h j (.int .u64 (l[j]:Nat)) (by simp[A8,e]) 0 (.int .u64 (l[j]:Nat)) rfl;simpa[A8,e] using this
def Aw0 (F:Low l)(I:Ahl u a (A8 l))(H:val l=n)(A:l.length<=c)(D:l.length<=9223372036854775807):zF 193 [.slice a l.length c] u fun v J=>Dk J v n :=
 Fn0.ofW (fun v w=>C8 w v n) (fun w hp=>by
  have C:Row w a (A8 l):=fun j E=>by obtain⟨b,off,f,t⟩:=I j E;exact⟨b,off,f,t.cell hp⟩
  exact (G5 a c l.length l w rfl D A C).mono fun e w' ⟨f,t⟩=>by subst t;exact⟨_,f,D3 F C H A,Ext.refl _⟩) (fun _ _ _ h _ c _=>Dk.ofW h c)
def Dk.len {k c n:Nat}(h:Dk u (.slice a k c) n):k=nl n:=by
 obtain⟨_,_,e,_⟩:=h;cases e;rfl
def Dk.opn (h:Dk u x n):∃ a c,x=.slice a (nl n) c:=by
 obtain⟨a,c,e,_⟩:=h;exact⟨a,c,e⟩
def Atp {m n:Nat}(h:Dk u x m)(W:Dk u x' n)(sa:nl m<=5000000000000)(sb:nl n<=5000000000000):zF 242 [x,x'] u fun v Q=>Dk Q v (Nat.gcd m n):=by
 obtain⟨a,c,rfl⟩:=h.opn;obtain⟨b,d,rfl⟩:=W.opn;refine Fn0.o func242<|G.l (ι:=(zP×Nat×Nat)×(zP×Nat×Nat)) (fun i=>[(0,sV i.1.1 (nl i.1.2.1) i.1.2.2),(1,sV i.2.1 (nl i.2.2.1) i.2.2.2)]) (fun _=>[])
  (fun i Q T=>T=PH.mt/\Dk Q (.slice i.1.1 (nl i.1.2.1) i.1.2.2) i.1.2.1/\Dk Q (.slice i.2.1 (nl i.2.2.1) i.2.2.2) i.2.2.1/\Nat.gcd i.1.2.1 i.2.2.1=Nat.gcd m n/\nl i.1.2.1<=5000000000000/\nl i.2.2.1<=5000000000000)
  (fun i=>i.2.2.1) ((a,m,c),(b,n,d)) ⟨rfl,h,W,rfl,sa,sb⟩ ?_
 rintro J ⟨⟨a1,j,c1⟩,V,n1,d1⟩ R u1 _ l1 ⟨rfl,H,f,I,U,t⟩;simp only at H f I U t R;by_cases h2:2<nl n1
 ·refine G.gT (nl n1:Int) 2 ?_;have hp:0<n1:=Df.1 (show 0<nl n1 by omega);refine G.c call238 (Ql H f U t hp) ?_;rintro _ u2 l2 ⟨q,r,rfl,F,L⟩;obtain⟨aq,cq,rfl⟩:=F.opn;obtain⟨ar,cr,rfl⟩:=L.opn;have A:=A29 j hp;exact G.b (R ((V,n1,d1),(ar,j%n1,cr)) _ _ _ cV (l1.trans l2) ⟨rfl,f.mono l2,L,by rw[<-I];exact Wl j n1,t,A04 (C4 (A8i A)) t⟩ A)
 refine G.gF (nl n1:Int) 2 ?_;by_cases h0:nl n1=0
 ·refine G.eT (nl n1:Int) 0 ?_;have e0:n1=0:=by
   rcases A2a n1 with e|e
   ·exact e
   have:=Df.2 e;unfold nl at h0;omega
  rw[<-I,e0,A8x];exact G.r _ ⟨rfl,H⟩
 have hp:0<n1:=Df.1 (show 0<nl n1 by omega);refine G.eF (nl n1:Int) 0 ?_;refine dite (2<nl j) (fun h3=>?y) (fun h3=>?n)
 case' y =>
  refine G.gT (nl j:Int) 2<|G.c call238 (Ql H f U t hp) ?_;rintro _ u2 l2 ⟨q,r,rfl,F,L⟩;have X:=f.mono l2;have K:Nat.gcd n1 (j%n1)=Nat.gcd m n:=by rw[<-I];exact Wl j n1
  have C:nl n1<=2:=oV;have D:nl (j%n1)<=2:=A04 (C4 (A8i (A29 j hp))) C
 case' n =>
  refine G.gF (nl j:Int) 2 ?_;have X:=H;have L:=f;have K:=I;have C:nl j<=2:=oV;have D:nl n1<=2:=oV
 case y|n =>
  refine G.c call272 (Aap X C) ?_;rintro _ u3 l3 rfl;refine G.c call272 (Aap (L.mono l3) D) ?_;rintro _ u4 l4 rfl;refine G.l (ι:=Nat×Nat) (fun i=>[(9,.v (.int .u64 (i.1:Int))),(10,.v (.int .u64 (i.2:Int)))]) (fun _=>[])
   (fun i Q T=>T=PH.mt/\Nat.gcd i.1 i.2=Nat.gcd m n/\i.1<1000000000000000000/\i.2<1000000000000000000) (fun i=>i.2) (_,_) ⟨rfl,K,Abf C,Abf D⟩ ?_
  rintro J ⟨p,q⟩ R u5 _ l5 ⟨rfl,E,V,b2⟩;by_cases F:q=0
  ·refine G.cmpG .neq .u64 (q:Int) 0 false kV rfl (by simp[Db,F])<|G.remW p 1000000000 _ kV rfl oV oV<|G.quoW p 1000000000 _ kV rfl oV oV<|G.buildW (p:=fun _=>true) 246 1 8 (.int .u64 0) (A8 [p%1000000000,p/1000000000]) kV (by simp[Ze,A8,Value.cells]) rfl oV (by simp[A8]) (by simp[A8]) ?_;intro g u6 l6 e6;refine G.c call193 (Aw0 (l:=[p%1000000000,p/1000000000]) (n:=p) (Low.cons (A29 _ oV) (Low.cons oV Low.nil)) (Ahl.els e6) (by simp[val];omega) (c:=2) mV mV) ?_;intro v7 u7 l7 Y;obtain⟨Z,c7,rfl⟩:=Y.opn;rw[F,A8x]at E;exact G.r (.slice Z (nl p) c7) ⟨rfl,by rw[<-E];exact Y⟩
  refine G.cmpG .neq .u64 (q:Int) 0 true kV rfl (by simp[Db,F])<|G.remW p q _ kV rfl oV oV ?_;have A:=A29 p (show 0<q by omega);exact G.b (R (q,p%q) _ _ _ cV l5 ⟨rfl,by rw[<-E];exact Wl p q,b2,dV⟩ A)
def Ac9 {s:Value}(f:b=(neg&&decide (0<n)))(e:Dk u s n):Bi u (.agg #[.bool b,s]) (Cd neg n):=by
 obtain⟨a,c,rfl,h⟩:=id e;exact⟨a,_,c,by rw[Wd,f],by rw[K5];exact e⟩
def Jb (h:Dk u x n):zF 192 [.bool neg,x] u fun v f=>Bi f v (Cd neg n):=by
 obtain⟨a,c,rfl⟩:=h.opn;have e:0<nl n↔0<n:=Df;refine Fn0.o func192 ?_;cases neg
 ·exact G.r (.agg #[zL,.slice a (nl n) c]) ⟨rfl,Ac9 rfl h⟩
 by_cases h0:0<nl n
 ·exact G.gT (nl n:Int) 0<|G.r (.agg #[zT,.slice a (nl n) c]) ⟨rfl,Ac9 (by simp[e.1 h0]) h⟩
 exact G.gF (nl n:Int) 0<|G.r (.agg #[zL,.slice a (nl n) c]) ⟨rfl,Ac9 (by simp[mt e.2 h0]) h⟩
def Bi.opn' (h:Bi u x z):∃ a c,x=.agg #[.bool (decide (z<0)),.slice a (nl z.natAbs) c]/\Dk u (.slice a (nl z.natAbs) c) z.natAbs:=by
 obtain⟨a,n,c,rfl,h⟩:=h;have:=h.len;subst this;exact⟨a,c,rfl,h⟩
def N1 (h:Bi u x z)(j:nl z.natAbs<=100000000000000):zF 195 [x] u fun v _=>v=zI (sgn z):=by
 obtain⟨a,c,rfl,k⟩:=h.opn';have f:0<nl z.natAbs↔0<z.natAbs:=Df;refine Fn0.o func195 ?_;by_cases h0:z<0
 ·rw[decide_eq_true h0,Ep h0];exact G.z (zI (-1))
 rw[decide_eq_false h0];by_cases e:0<nl z.natAbs
 ·refine G.gT (nl z.natAbs:Int) 0 ?_;rw[C5 oV];exact G.z (zI 1)
 refine G.gF (nl z.natAbs:Int) 0 ?_;rw[show z=0 by omega,Ra];exact G.z zO
def Aqp (z:Int):Cd (!decide (z<0)) z.natAbs = -z:=by unfold Cd;by_cases h:z<0<;>simp[h]<;>omega
def V7 (h:Bi u x z)(t:nl z.natAbs<=100000000000000):zF 196 [x] u fun v f=>Bi f v (-z):=by
 obtain⟨a,c,rfl,k⟩:=h.opn';refine Fn0.o func196<|G.c call192 (Jb (neg:=!decide (z<0)) k) ?_;intro D C A e;rw[Aqp]at e;obtain⟨j,a1,n1,c1,rfl⟩:=e.opn;exact G.r _ ⟨rfl,e⟩
def Ea (h:Bi u x y)(f:Bi u x' z)(H:nl y.natAbs<=5000000000000)(sz:nl z.natAbs<=5000000000000):zF 126 [x,x'] u fun v A=>Bi A v (y*z):=by
 obtain⟨a,c,rfl,k⟩:=h.opn';obtain⟨C,E,rfl,j⟩:=f.opn';refine Fn0.o func126<|G.neB (decide (y<0)) (decide (z<0)) kV<|G.c call199 (Aun k j oV oV) ?_;intro K I F t;refine G.c call192 (Jb (neg:=!(decide (y<0)==decide (z<0))) t) ?_;intro L J l2 e;rw[Adx]at e;obtain⟨D,a2,n2,c2,rfl⟩:=e.opn;exact G.r _ ⟨rfl,e⟩
def Ada (h:Bi u x y)(H:Bi u x' z)(X:nl y.natAbs<=5000000000000)(sz:nl z.natAbs<=5000000000000):zF 203 [x,x'] u fun v K=>Bi K v (y+z):=by
 obtain⟨a,c,rfl,k⟩:=h.opn';obtain⟨U,W,rfl,A⟩:=H.opn';refine Fn0.o func203<|G.eqB (decide (y<0)) (decide (z<0)) kV ?_;by_cases j:decide (y<0)=decide (z<0)
 ·rw[show (decide (y<0)==decide (z<0))=true by simp[j]];refine G.c call239 (Alb k A oV oV) ?_;intro R L t I;refine G.c call192 (Jb (neg:=decide (y<0)) I) ?_;intro E D l2 e;rw[Afl j]at e;obtain⟨V,a2,n2,c2,rfl⟩:=e.opn;exact G.r _ ⟨rfl,e⟩
 rw[show (decide (y<0)==decide (z<0))=false by simpa using j];refine G.c call246 (Adz k A oV oV) ?_;rintro R L t rfl;by_cases C:z.natAbs<=y.natAbs
 ·refine G.hT' (sgn ((y.natAbs:Int)-z.natAbs)) 0 (Aj0 C)<|G.c call240 (Adg (k.mono t) (A.mono t) oV C) ?_;intro E D l2 e;refine G.c call192 (Jb (neg:=decide (y<0)) e) ?_;intro T Q J f;rw[Zx j C]at f;obtain⟨F,a3,n3,c3,rfl⟩:=f.opn;exact G.r _ ⟨rfl,f⟩
 refine G.hF' (sgn ((y.natAbs:Int)-z.natAbs)) 0 (by rw[Ep oV];omega)<|G.c call240 (Adg (A.mono t) (k.mono t) oV oV) ?_;intro E D l2 e;refine G.c call192 (Jb (neg:=decide (z<0)) e) ?_;intro T Q J f;rw[Aag j oV]at f;obtain⟨F,a3,n3,c3,rfl⟩:=f.opn;exact G.r _ ⟨rfl,f⟩
def Ac7 (h:Bi u x y)(e:Bi u x' z)(A:nl y.natAbs<=5000000000000)(sz:nl z.natAbs<=5000000000000):zF 241 [x,x'] u fun v C=>Bi C v (y-z):=by
 obtain⟨b,a,n,c,rfl⟩:=h.opn;obtain⟨b',D,H,F,rfl⟩:=e.opn;refine Fn0.o func241<|G.c call196 (V7 e oV) ?_;intro K I t j;refine G.c call203 (Ada (h.mono t) j A (by rw[A3l];exact sz)) ?_;intro L J l2 f;obtain⟨E,a2,n2,c2,rfl⟩:=f.opn;exact G.r _ ⟨rfl,f⟩
def Kx (h:Bi u x y)(e:Bi u x' z)(f:nl y.natAbs<=5000000000000)(sz:nl z.natAbs<=5000000000000):zF 198 [x,x'] u fun v _=>v=zI (sgn (y-z)):=by
 obtain⟨b,a,n,c,rfl⟩:=h.opn;obtain⟨b',t,D,A,rfl⟩:=e.opn;refine Fn0.o func198<|G.c call241 (Ac7 h e f sz) ?_;intro H E C j;have:=Sb (y:=y) (z:=-z) f (by rw[A3l];exact sz);refine G.c call195 (N1 j (by rw[A7i];omega)) ?_;rintro I F l2 rfl;exact G.z (zI (sgn (y-z)))
def Ac4 (h:Bi u x y)(f:Bi u x' z)(A:nl y.natAbs<=5000000000000)(sz:nl z.natAbs<=5000000000000):zF 197 [x,x'] u fun v C=>Bi C v (Nat.gcd y.natAbs z.natAbs):=by
 obtain⟨a,c,rfl,k⟩:=h.opn';obtain⟨D,F,rfl,j⟩:=f.opn';refine Fn0.o func197<|G.c call242 (Atp k j A sz) ?_;intro K I H t;refine G.c call192 (Jb (neg:=false) t) ?_;intro L J l2 e;obtain⟨E,a2,n2,c2,rfl⟩:=e.opn;exact G.r _ ⟨rfl,e⟩
def M1 (h:Bi u x y)(W:Bi u x' z)(sy:nl y.natAbs<=4000000000000)(sz:nl z.natAbs<=4000000000000)(H:z≠0):zF 190 [x,x'] u fun v U=>∃ a b,v=.tuple #[a,b]/\Bi U a (y/z)/\Bi U b (y%z):=by
 obtain⟨a,c,rfl,k⟩:=h.opn';obtain⟨a',c',rfl,K⟩:=W.opn';have I:0<nl (y.natAbs%z.natAbs)↔0<y.natAbs%z.natAbs:=Df;have Y:=A29 y.natAbs (show 0<z.natAbs by omega);refine Fn0.o func190<|G.c call238 (Ql k K oV oV oV) ?_;rintro _ u1 l1 ⟨q,r,rfl,J,F⟩;obtain⟨ar,cr,rfl⟩:=F.opn;refine dite (y<0) (fun f=>?A) (fun f=>?D)
 case' A =>
  rw[decide_eq_true f];refine dite (0<y.natAbs%z.natAbs) (fun h0=>?B) (fun h0=>?C)
 case' B =>
  refine G.gT' (nl (y.natAbs%z.natAbs):Int) 0 (by have:=I.2 h0;omega)<|G.buildW (p:=fun _=>true) 246 1 8 (.int .u64 0) (A8 [1]) kV (by simp[Ze,A8,Value.cells]) rfl oV (by simp[A8]) (by simp[A8]) ?_;intro g u2 l2 V;have Z:Dk u2 (zG g 1 1) 1:=by
   have:=Ez (d:=1) oV oV;exact⟨_,1,by rw[this];rfl,by rw[this];simp,by rw[this];exact Ahl.els V⟩
  refine G.c call239 (Alb (J.mono l2) Z (by have:=C4 (A3u y.natAbs z.natAbs);omega) (by have:=Tm;omega)) ?_;intro v3 u3 T t;refine G.c call240 (Adg ((K.mono l1).mono (l2.trans T)) (F.mono (l2.trans T)) oV oV) ?_;intro v4 u4 l4 L;obtain⟨e,j⟩:=Adq f H h0;rw[decide_eq_true f]at e;have t:=t.mono l4
 case' C =>
  refine G.gF' (nl (y.natAbs%z.natAbs):Int) 0 (by have:=mt I.1 h0;omega) ?_;obtain⟨e,j⟩:=Zm f H oV;rw[decide_eq_true f]at e
 case' D =>
  obtain⟨e,j⟩:=Zp f H;rw[decide_eq_false f]at e⊢
 case' C|D =>
  have t:=J;have L:=F
 case' B|C=>generalize X:true=E at e⊢
 case' D=>generalize X:false=E at e⊢
 case B|C|D =>
  refine G.neB E (decide (z<0)) kV<|G.c call192 (Jb (neg:=!(E==decide (z<0))) t) ?_;intro v5 u5 l5 Q;obtain⟨b5,a5,n5,c5,rfl⟩:=Q.opn;refine G.c call192 (Jb (neg:=false) (L.mono l5)) ?_;intro v6 u6 l6 R;obtain⟨b6,a6,n6,c6,rfl⟩:=R.opn;exact G.r (.tuple #[_,_]) ⟨rfl,_,_,rfl,e▸Q.mono l6,j▸R⟩
def Kf (C:-9223372036854775808<=z)(D:z<=9223372036854775807):zF 121 [zI z] u fun v H=>Bi H v z:=by
 refine Fn0.o func121<|G.convI .i64 .u64 .i64 z _ kV rfl ?_;have f:=Uc z;refine dite (z<0) (fun e=>?A) (fun e=>?B)
 case' A =>
  rw[decide_eq_true e]at f;generalize h:true=E at f;refine G.lT' z 0 e<|G.negW _ _ kV (Ag6 e C)<|G.lT' z 0 e ?_
 case' B =>
  rw[decide_eq_false e]at f;generalize h:false=E at f;rw[Ahs oV D];refine G.lF' z 0 e<|G.lF' z 0 e ?_
 case A|B =>
  refine G.remW z.natAbs 1000000000 _ kV rfl oV oV<|G.quoW z.natAbs 1000000000 _ kV rfl oV oV<|G.remW (z.natAbs/1000000000) 1000000000 _ kV rfl oV oV<|G.quoW z.natAbs 1000000000 _ kV rfl oV oV<|G.quoW (z.natAbs/1000000000) 1000000000 _ kV rfl oV oV<|G.buildW (p:=fun _=>true) 246 1 8 (.int .u64 0) (A8 [z.natAbs%1000000000,z.natAbs/1000000000%1000000000,z.natAbs/1000000000/1000000000]) kV (by simp[Ze,A8,Value.cells]) rfl oV (by simp[A8]) (by simp[A8]) ?_;intro g U L t;refine G.c call193 (Aw0 (l:=[_,_,_]) (n:=z.natAbs) (Low.cons (A29 _ oV) (Low.cons (A29 _ oV) (Low.cons oV Low.nil))) (Ahl.els t) (by simp[val];omega) (c:=3) mV mV) ?_;intro X V Q F;refine G.c call192 (Jb (neg:=E) (by cases h;exact F)) ?_;intro Y W R j;obtain⟨J,I,T,K,rfl⟩:=j.opn;exact G.r _ ⟨rfl,f▸j⟩
def Aao (h:Bg u x q)(e:nl q.num.natAbs<=100000000000000):zF 131 [x] u fun v _=>v=zI (sgn q.num):=by
 obtain⟨b,a,n,c,b',f,A,j,rfl⟩:=h.opn;refine Fn0.o func131<|G.c call195 (N1 h.num e) ?_;rintro D C t rfl;exact G.z (zI (sgn q.num))
def Jr (h:Bg u x q)(D:nl q.den<=4000000000000):zF 202 [x] u fun v _=>v=.bool (decide (q.den=1)):=by
 obtain⟨b,a,n,c,b',A,E,C,rfl⟩:=h.opn;refine Fn0.o func202<|G.c call121 (Kf (z:=1) oV oV) ?_;intro I F t j;refine G.c call198 (Kx (h.den.mono t) j (by rw[A1s];omega) (by have:=Tm;show nl 1<=_;omega)) ?_;rintro J H l2 rfl;have f:=U0 (d:=q.den);by_cases e:q.den=1
 ·exact G.eT' (sgn ((q.den:Int)-1)) 0 (by simpa[e] using f)<|G.r zT ⟨rfl,by rw[decide_eq_true e]⟩
 exact G.eF' (sgn ((q.den:Int)-1)) 0 (by simpa[e] using f)<|G.r zL ⟨rfl,by rw[decide_eq_false e]⟩
def Bg.mk4 {d:Nat}{b b':Bool}{a f:zP}{n t c j:Nat}(h:Bi u (.agg #[.bool b,.slice a n c]) y)(C:Bi u (.agg #[.bool b',.slice f t j]) (d:Int))(e:q.num=y)(A:q.den=d) :
 Bg u (.agg #[.bool b,.slice a n c,.bool b',.slice f t j]) q:=by
 obtain⟨_,_,_,D,E⟩:=h;obtain⟨_,_,_,F,H⟩:=C;obtain⟨rfl,rfl,rfl,rfl⟩:=D;obtain⟨rfl,rfl,rfl,rfl⟩:=F;exact⟨_,_,_,_,_,_,by rw[e,decide_eq_false (show ¬ ((d:Int)<0) by omega)],by rw[e];exact E,by rw[A];exact H⟩
theorem Bi.cast (h:Bi u x z)(e:0<z):Bi u x ((z.natAbs:Nat):Int):=by grind
def Q2 (h:Bi u x z):zF 201 [x] u fun v j=>Bg j v (z:Rat):=by
 obtain⟨b,a,n,c,rfl⟩:=h.opn;refine Fn0.o func201<|G.c call121 (Kf (z:=1) oV oV) ?_;intro C A f e;obtain⟨t,a1,n1,c1,rfl⟩:=e.opn;exact G.r (.agg #[_,_,_,_]) ⟨rfl,Bg.mk4 (h.mono f) e mV mV⟩
def Wa (t:-9223372036854775808<=z)(A:z<=9223372036854775807):zF 128 [zI z] u fun v E=>Bg E v (z:Rat):=by
 refine Fn0.o func128<|G.c call121 (Kf t A) ?_;intro K I H C;refine G.c call201 (Q2 C) ?_;intro L J l2 e;obtain⟨F,a2,n2,c2,h,f,D,j,rfl⟩:=e.opn;exact G.r _ ⟨rfl,e⟩
def Asr (h:Bg u x q)(D:nl q.num.natAbs<=4000000000000):zF 135 [x] u fun v j=>Bg j v (-q):=by
 obtain⟨b,a,n,c,b',t,E,C,rfl⟩:=h.opn;refine Fn0.o func135<|G.c call196 (V7 h.num oV) ?_;intro H F f e;obtain⟨A,a1,n1,c1,rfl⟩:=e.opn;exact G.r (.agg #[_,_,_,_]) ⟨rfl,Bg.mk4 e (h.den.mono f) (Ba3 q) (Ba4 q)⟩
theorem Q6 (h:Bi u x y)(F:Bi u x' z)(sy:nl y.natAbs<=4000000000000)(sz:nl z.natAbs<=4000000000000)(hz:z≠0):zF 125 [x,x'] u fun v u'=>Bg u' v (Rat.divInt y z):=by
 obtain⟨b,a,n,c,rfl⟩:=h.opn;obtain⟨b',a',n',c',rfl⟩:=F.opn;refine Fn0.o func125<|G.c call195 (N1 F oV) ?_;rintro v1 u1 I rfl;refine dite (z<0) (fun h0=>?A) (fun h0=>?B)
 case' A =>
  refine G.lT' (sgn z) 0 (by rw[Ep h0];omega)<|G.c call196 (V7 (h.mono I) oV) ?_;intro v2 u2 l2 f;obtain⟨b2,a2,n2,c2,rfl⟩:=f.opn;refine G.c call196 (V7 (F.mono (I.trans l2)) oV) ?_;intro v3 u3 l3 t;obtain⟨b3,a3,n3,c3,rfl⟩:=t.opn;have f:=f.mono l3;have e:=Oz y z;have K:nl (-y).natAbs<=4000000000000:=by grind
  have E:nl (-z).natAbs<=4000000000000:=by grind
  have hp:0 < -z:=oV;generalize -y=y2 at f e K;generalize -z=z2 at t e E hp
 case' B =>
  refine G.lF' (sgn z) 0 (by rw[C5 oV];omega) ?_;have f:=h.mono I;have t:=F.mono I;have e:Rat.divInt y z=Rat.divInt y z:=rfl;have K:=sy;have E:=sz;have hp:0<z:=oV;generalize y=y2 at f e K;generalize z=z2 at t e E hp
 case A|B =>
  have Y:0<Nat.gcd y2.natAbs z2.natAbs:=A7j _ oV;have L:Nat.gcd y2.natAbs z2.natAbs<=z2.natAbs:=Nat.gcd_le_right _ oV;have D:nl (Nat.gcd y2.natAbs z2.natAbs)<=4000000000000:=A04 (C4 L) E;refine G.c call197 (Ac4 f t oV oV) ?_;intro v4 u4 l4 H;obtain⟨b4,a4,n4,c4,rfl⟩:=H.opn;refine G.c call121 (Kf (z:=1) oV oV) ?_;intro v5 u5 J Z;refine G.c call198 (Kx (H.mono J) Z (by rw[A1s];omega) (by have:=Tm;show nl 1<=_;omega)) ?_;rintro v6 u6 T rfl;have U:=U0 (d:=Nat.gcd y2.natAbs z2.natAbs);have j:=(l4.trans J).trans T;by_cases Q:Nat.gcd y2.natAbs z2.natAbs=1
  ·refine G.nF' (sgn ((Nat.gcd y2.natAbs z2.natAbs:Int)-1)) 0 (by simpa[Q] using U) ?_;have C:=Wj hp Q;exact G.r (.agg #[_,_,_,_]) ⟨rfl,Bg.mk4 (f.mono j) ((t.mono j).cast hp) (by rw[<-e];exact C.1) (by rw[<-e];exact C.2)⟩
  refine G.nT' (sgn ((Nat.gcd y2.natAbs z2.natAbs:Int)-1)) 0 (by simpa[Q] using U) ?_;have C:=W5 hp (y:=y2) rfl;refine G.c call190 (M1 (f.mono j) (H.mono (J.trans T)) K (by rw[A1s];exact D) oV) ?_;rintro _ u7 W ⟨q,r,rfl,V,a0⟩;obtain⟨b7,a7,n7,c7,rfl⟩:=V.opn;refine G.c call190 (M1 (t.mono (j.trans W)) (H.mono ((J.trans T).trans W)) E (by rw[A1s];exact D) oV) ?_;rintro _ u8 l8 ⟨q8,r8,rfl,R,a1⟩;obtain⟨b8,a8,n8,c8,rfl⟩:=R.opn;have X:(((z2.natAbs/Nat.gcd y2.natAbs z2.natAbs:Nat)):Int)=z2/(Nat.gcd y2.natAbs z2.natAbs:Nat):=by grind
  rw[<-X]at R;exact G.r (.agg #[_,_,_,_]) ⟨rfl,Bg.mk4 (V.mono l8) R (by rw[<-e];exact C.1) (by rw[<-e];exact C.2)⟩
end
end
section
variable {q r:Rat}{y:Int}
section
variable {u:PH} {x x':Value}
def Ael (h:Bg u x q):zF 191 [x] u fun v e=>Bi e v q.num :=
 Fn0.ofW (fun v w=>St w v q.num) (fun w hp=>Ae8 x q w (h.toW hp)) (fun _ _ _ h _ c _=>Bi.ofW h c)
def Sk (h:Bg u x q):zF 189 [x] u fun v e=>Bi e v q.den :=
 Fn0.ofW (fun v w=>St w v q.den) (fun w hp=>Af6 x q w (h.toW hp)) (fun _ _ _ h _ c _=>Bi.ofW h c)
def Ga (h:Bg u x q)(m:Bg u x' r)(W:Sz q 1000000000000)(X:Sz r 1000000000000):zF 130 [x,x'] u fun v u'=>Bg u' v (q*r):=by
 obtain⟨s1,s2⟩:=W;obtain⟨s3,s4⟩:=X;obtain⟨b,a,n,c,b',a',n',c',rfl⟩:=h.opn;obtain⟨d,e,k,f,d',e',k',f',rfl⟩:=m.opn;refine Fn0.o func130<|G.c call202 (Jr h oV) ?_;rintro v1 u1 A rfl;refine dite (q.den=1) (fun C=>?y) (fun C=>?n1)
 case' y =>
  rw[decide_eq_true C];refine G.c call202 (Jr (m.mono A) oV) ?_;rintro v2 u2 l2 rfl;refine dite (r.den=1) (fun D=>?yy) (fun D=>?n2)
 case yy =>
  rw[decide_eq_true D];refine G.c call126 (Ea (h.num.mono (A.trans l2)) (m.num.mono (A.trans l2)) oV oV) ?_;intro v3 u3 F t;obtain⟨L,a3,n3,c3,rfl⟩:=t.opn;refine G.c call201 (Q2 t) ?_;intro v4 u4 H j;rw[Amr C D]at j;obtain⟨P,I,Y,T,Q,J,Z,U,rfl⟩:=j.opn;exact G.r _ ⟨rfl,j⟩
 case' n1 =>
  rw[decide_eq_false C];have l2:=A
 case' n2 =>
  rw[decide_eq_false D];have l2:=A.trans l2
 case n1|n2 =>
  refine G.c call126 (Ea (h.num.mono l2) (m.num.mono l2) oV oV) ?_;intro v3 u3 F t;obtain⟨L,a3,n3,c3,rfl⟩:=t.opn;refine G.c call126 (Ea (h.den.mono (l2.trans F)) (m.den.mono (l2.trans F)) (by rw[A1s];omega) (by rw[A1s];omega)) ?_;intro v4 u4 H j;obtain⟨P,I,Y,T,rfl⟩:=j.opn;refine G.c call125 (Q6 (t.mono H) j (by have:=Bx s1 s3;omega) (by have:=Bx (y:=(q.den:Int)) (z:=(r.den:Int)) (k:=1000000000000) (by rw[A1s];omega) (by rw[A1s];omega);omega) (Yl q r)) ?_;intro v5 u5 l5 E;rw[Ac8]at E;obtain⟨b5,a5,n5,c5,R,K,a0,V,rfl⟩:=E.opn;exact G.r _ ⟨rfl,E⟩
def Lq (h:Bg u x q)(j:Bg u x' r)(h1:Sz q 1000000000000)(h2:Sz r 1000000000000):zF 129 [x,x'] u fun v u'=>Bg u' v (q+r):=by
 obtain⟨s1,s2⟩:=h1;obtain⟨s3,s4⟩:=h2;obtain⟨b,a,n,c,b',a',n',c',rfl⟩:=h.opn;obtain⟨d,e,k,f,d',e',k',f',rfl⟩:=j.opn;have t2:nl ((q.den:Int)).natAbs<=1000000000000:=by rw[A1s];exact s2
 have L:nl ((r.den:Int)).natAbs<=1000000000000:=by rw[A1s];exact s4
 have m1:=Bx s1 L;have m2:=Bx s3 t2;have m3:=Bx t2 L;have m4:=Sb m1 m2;refine Fn0.o func129<|G.c call202 (Jr h oV) ?_;rintro v1 u1 A rfl;refine dite (q.den=1) (fun D=>?y) (fun D=>?n1)
 case' y =>
  rw[decide_eq_true D];refine G.c call202 (Jr (j.mono A) oV) ?_;rintro v2 u2 l2 rfl;refine dite (r.den=1) (fun E=>?yy) (fun E=>?n2)
 case yy =>
  rw[decide_eq_true E];refine G.c call203 (Ada (h.num.mono (A.trans l2)) (j.num.mono (A.trans l2)) oV oV) ?_;intro v3 u3 F t;obtain⟨T,a3,n3,c3,rfl⟩:=t.opn;refine G.c call201 (Q2 t) ?_;intro v4 u4 I m;rw[Ams D E]at m;obtain⟨U,P,n4,X,V,Q,a0,Y,rfl⟩:=m.opn;exact G.r _ ⟨rfl,m⟩
 case' n1 =>
  rw[decide_eq_false D];have l2:=A
 case' n2 =>
  rw[decide_eq_false E];have l2:=A.trans l2
 case n1|n2 =>
  refine G.c call126 (Ea (h.num.mono l2) (j.den.mono l2) oV oV) ?_;intro v3 u3 F t;obtain⟨T,a3,n3,c3,rfl⟩:=t.opn;refine G.c call126 (Ea (j.num.mono (l2.trans F)) (h.den.mono (l2.trans F)) oV oV) ?_;intro v4 u4 I m;obtain⟨U,P,n4,X,rfl⟩:=m.opn;refine G.c call203 (Ada (t.mono I) m oV oV) ?_;intro v5 u5 l5 J;obtain⟨b5,a5,n5,c5,rfl⟩:=J.opn;have C:=((l2.trans F).trans I).trans l5;refine G.c call126 (Ea (h.den.mono C) (j.den.mono C) oV oV) ?_;intro v6 u6 l6 K;obtain⟨b6,a6,n6,c6,rfl⟩:=K.opn;refine G.c call125 (Q6 (J.mono l6) K oV oV (Yl q r)) ?_;intro v7 u7 l7 H;rw[Rq]at H;obtain⟨b7,a7,n7,c7,W,R,a1,Z,rfl⟩:=H.opn;exact G.r _ ⟨rfl,H⟩
def Aqz (h:Bg u x q)(j:Bg u x' r)(H:Sz q 1000000000000)(I:Sz r 1000000000000)(J:r≠0):zF 134 [x,x'] u fun v V=>Bg V v (q/r):=by
 obtain⟨P,Q⟩:=H;obtain⟨R,T⟩:=I;obtain⟨b,a,n,c,b',W,n',c',rfl⟩:=h.opn;obtain⟨d,e,k,f,d',e',k',f',rfl⟩:=j.opn;have t2:nl ((q.den:Int)).natAbs<=1000000000000:=by rw[A1s];exact Q
 have U:nl ((r.den:Int)).natAbs<=1000000000000:=by rw[A1s];exact T
 have m1:=Bx P U;have m2:=Bx t2 R;refine Fn0.o func134<|G.c call126 (Ea h.num j.den oV oV) ?_;intro v3 u3 C t;obtain⟨Z,a3,n3,c3,rfl⟩:=t.opn;refine G.c call126 (Ea (h.den.mono C) (j.num.mono C) oV oV) ?_;intro v4 u4 K A;obtain⟨b4,X,n4,c4,rfl⟩:=A.opn;refine G.c call125 (Q6 (t.mono K) A oV oV (A8l (by have:=q.den_nz;omega) (fun e=>J (A4r.1 e)))) ?_;intro v5 u5 l5 m;rw[Abt]at m;obtain⟨b5,Y,n5,c5,E,D,L,F,rfl⟩:=m.opn;exact G.r _ ⟨rfl,m⟩
end
def Tk (y z:Nat):nl (y/z)<=nl y:=C4 (A3u y z)
def Avh (e:0<y)(g:Nat):(y/(g:Int)).natAbs=y.natAbs/g:=by
 obtain⟨k,rfl⟩:=A6d (Bad e);rfl
def Alk {u:PH}{x x':Value}{y z:Int}(h:Bi u x y)(e:Bi u x' z)(D:nl y.natAbs<=4000000000000)(sz:nl z.natAbs<=4000000000000)(H:0<y):zF 188 [x,x'] u fun v I=>Bi I v (y/(Nat.gcd y.natAbs z.natAbs:Nat)*z):=by
 obtain⟨b,a,n,c,rfl⟩:=h.opn;obtain⟨b',J,Y,U,rfl⟩:=e.opn;refine Fn0.o func188 ?_;have F:0<Nat.gcd y.natAbs z.natAbs:=Nat.gcd_pos_of_pos_left _ oV;have f:Nat.gcd y.natAbs z.natAbs<=y.natAbs:=Nat.gcd_le_left _ oV;have j:nl (Nat.gcd y.natAbs z.natAbs)<=4000000000000:=A04 (C4 f) D;refine G.c call197 (Ac4 h e oV oV) ?_;intro v1 u1 C m;obtain⟨P,a1,n1,c1,rfl⟩:=m.opn;refine G.c call190 (M1 (h.mono C) m D (by rw[A1s];exact j) oV) ?_;rintro v2 u2 l2 ⟨v3,v4,rfl,t,E⟩;obtain⟨Q,a3,n3,c3,rfl⟩:=t.opn;obtain⟨R,K,Z,V,rfl⟩:=E.opn;refine G.c call126 (Ea t (e.mono (C.trans l2)) (by rw[Avh H];exact A04 (Tk _ _) oV) oV) ?_;intro v5 u5 X A;obtain⟨T,L,n5,W,rfl⟩:=A.opn;exact G.r _ ⟨rfl,A⟩
end
def Ar4 {u:PH}{b:Bool}{a:zP}{n c:Nat}{l:zK}(h:Cy u (.slice a n c) l)(F:l.length<=1000000000000000000) :
 zF 149 [.agg #[.bool b,.slice a n c]] u fun v _=>v=.agg #[.bool (b&&decide (0<Bz l l.length)),.slice a (Bz l l.length) c]:=by
 obtain⟨rfl,D⟩:=h.len;refine Fn0.o func149<|G.l (ι:=Nat) (fun _=>[(1,.p 0 0),(2,.p 1 0)]) (fun k=>[(0,⟨67,[bV b,sV a k c]⟩),(1,⟨67,[bF,sN]⟩)])
  (fun k _ m=>k<=l.length/\Bz l l.length=Bz l k/\m=PH.mt) id l.length ⟨A08 _,rfl,rfl⟩ ?_
 rintro J k A I H e ⟨E,t,rfl⟩;rw[t];rcases k with _|k
 ·exact G.gF (0:Nat) 0<|G.eT' (0:Nat) 0 rfl<|G.r (.agg #[zL,.slice a 0 c]) ⟨rfl,by simp[Bz]⟩
 refine G.gT (k+1:Nat) 0<|G.s (k+1:Nat) 1 k ?_;obtain⟨f,off,rfl,C⟩:=(h.mono e).at (j:=k) oV;refine G.n (k+1) c C ?_;by_cases h0:l.getD k 0=0
 ·exact G.eT (l.getD k 0:Nat) 0<|G.s (k+1:Nat) 1 k<|G.sliceTo 1 (some ⟨f,off,none⟩) (k+1) c k kV oV<|G.b (A k _ _ _ cV e ⟨oV,by rw[t];simp only[Bz,if_pos h0],rfl⟩ mV)
 exact G.eF (l.getD k 0:Nat) 0<|G.eF (k+1:Nat) 0<|G.r (.agg #[.bool b,.slice (some ⟨f,off,none⟩) (k+1) c]) ⟨rfl,by simp only[Bz,if_neg h0];simp⟩
section
variable {k:Nat}{u:PH}{va vb:Value}
def Di (l:zK)(n:Nat):Ai l++[zI n]=Ai (l++[n]):=by simp[Ai]
def Lx {m n:Nat}(K:Cy u va (Aa m))(L:Cy u vb (Aa n))(V:nl m<=1000000000000000000)(sb:nl n<=1000000000000000000) :
 zF 151 [va,vb] u fun v _=>v=zI (sgn ((m:Int)-n)):=by
 obtain⟨a,C,rfl,R⟩:=K.opn;obtain⟨b,D,rfl,T⟩:=L.opn;have W:(Aa m).length<=1000000000000000000:=V;refine Fn0.o func151 ?_;by_cases A:(Aa m).length=(Aa n).length
 ·refine G.nF ((Aa m).length:Int) ((Aa n).length:Int)<|G.sub ((Aa m).length:Int) 1 (((Aa m).length:Int)-1) kV rfl oV oV<|G.l (ι:=Int) (fun z=>[(0,sV a (Aa m).length C),(1,sV b (Aa n).length D),(5,iV z)]) (fun _=>[])
   (fun z _ P=>-1<=z/\z<(Aa m).length/\(Aa m).drop (z+1).toNat=(Aa n).drop (z+1).toNat/\P=PH.mt) (fun z=>(z+1).toNat) (((Aa m).length:Int)-1)
   ⟨oV,oV,by rw[A2b oV,A2b oV],rfl⟩ ?_
  rintro J z Q u' P f ⟨Z,h2,e,rfl⟩;by_cases U:0<=z
  ·obtain⟨k,rfl⟩:=A6d U;have t:k<(Aa m).length:=oV;rw[show ((k:Int)+1).toNat=k+1 by omega]at e;obtain⟨X,oa,rfl,E⟩:=(K.mono f).at (j:=k) t;obtain⟨Y,ob,rfl,F⟩:=(L.mono f).at (j:=k) oV;refine G.hT k 0<|G.N (Aa m).length C t E<|G.n (Aa n).length D F ?_;rcases A5u ((Aa m).getD k 0) ((Aa n).getD k 0) with h|H|I
   ·refine G.lT ((Aa m).getD k 0:Nat) ((Aa n).getD k 0:Nat) ?_;have:=G9 A t (Ao _) e h;rw[Am,Am]at this;exact G.r (zI (-1)) ⟨rfl,by rw[Ep oV]⟩
   ·refine G.lF ((Aa m).getD k 0:Nat) ((Aa n).getD k 0:Nat)<|G.N (Aa m).length C t E<|G.n (Aa n).length D F<|G.gF ((Aa m).getD k 0:Nat) ((Aa n).getD k 0:Nat)<|G.sub (k:Int) 1 ((k:Int)-1) kV rfl oV oV<|G.b (Q ((k:Int)-1) _ _ _ cV f ⟨oV,oV,?_,rfl⟩ mV);rw[show ((k:Int)-1+1).toNat=k by omega,Cs (Aa m) k t,Cs (Aa n) k oV,e,H]
   refine G.lF ((Aa m).getD k 0:Nat) ((Aa n).getD k 0:Nat)<|G.N (Aa m).length C t E<|G.n (Aa n).length D F<|G.gT ((Aa m).getD k 0:Nat) ((Aa n).getD k 0:Nat) ?_;have:=G9 A.symm oV (Ao _) e.symm I;rw[Am,Am]at this;exact G.r (zI 1) ⟨rfl,by rw[C5 oV]⟩
  obtain rfl:z = -1:=oV;refine G.hF (-1) 0 ?_;have:m=n:=by
   have e:(Aa m).drop 0=(Aa n).drop 0:=e;rw[A5a,A5a]at e;rw[<-Am m,<-Am n,e]
  exact G.r zO ⟨rfl,by rw[this,Int.sub_self];rfl⟩
 refine G.nT ((Aa m).length:Int) ((Aa n).length:Int) ?_;by_cases h:(Aa m).length<(Aa n).length
 ·refine G.lT ((Aa m).length:Int) ((Aa n).length:Int) ?_;have:=Ku (m:=m) (n:=n) h;exact G.r (zI (-1)) ⟨rfl,by rw[Ep oV]⟩
 refine G.lF ((Aa m).length:Int) ((Aa n).length:Int) ?_;have:=Ku (m:=n) (n:=m) (show nl n<nl m by unfold nl;omega);exact G.r (zI 1) ⟨rfl,by rw[C5 oV]⟩
theorem Fs {l:zK}(h:¬ k<l.length):l.getD k 0=0:=by grind
def L8.over {a b ys:zK}{k c:Nat}(h:L8 a b k ys c)(m:Low a)(t:Low b)(f:¬ k<a.length)(j:¬ k<b.length)(e:c=0):val ys=val a+val b:=by
 have:=h.sum;rw[A1j oV,A1j oV,e]at this;simpa using this
def Aso {la e:zK}(Y:Cy u va la)(U:Cy u vb e)(A:Low la)(C:Low e)(sa:la.length<=1000000000000)(sb:e.length<=1000000000000) :
 zF 150 [va,vb] u fun v u'=>∃ l,Cy u' v l/\Low l/\val l=val la+val e/\l.length<=max la.length e.length+1:=by
 obtain⟨a,X,rfl,a3⟩:=Y.opn;obtain⟨b,Q,rfl,a4⟩:=U.opn;refine Fn0.o func150<|G.l (ι:=Nat×zK×Nat×Value) (fun i=>[(0,sV a la.length X),(1,sV b e.length Q),(5,.v i.2.2.2),(6,iV i.2.2.1),(7,iV i.1)]) (fun _=>[])
  (fun i _ Z=>(i.1<=max la.length e.length+1/\(max la.length e.length+1<=i.1->i.2.2.1=0))/\Af PH.mt Z i.2.2.2 3 1 (Ai i.2.1)/\L8 la e i.1 i.2.1 i.2.2.1) (fun i=>max la.length e.length+2-i.1) (0,[],0,zN)
  ⟨⟨mV,fun _=>rfl⟩,Af.nil _ _ _,L8.start _ _⟩ ?_
 rintro J ⟨k,ys,c,E⟩ L u' Z t ⟨hk,F,f⟩;simp only at hk F f L;have a2:=f.carry;have T:=A.getD k;have a0:=C.getD k;obtain⟨ao,co,rfl⟩:=F.shape;obtain⟨E,V⟩:∃ E,E=Value.slice ao (Ai ys).length co:=⟨_,rfl⟩;rw[<-V]at F⊢;have fin:max la.length e.length+1<=1000000000001:=oV;by_cases D:k<la.length
 ·refine G.lT k la.length<|G.lT k la.length ?_;have a5:la.getD k 0<1000000000:=T;obtain⟨ba,oa,rfl,ea⟩:=(Y.mono t).at (j:=k) D;refine G.N la.length X D ea<|G.p c (la.getD k 0:Nat) (c+la.getD k 0:Nat) ?_;by_cases m:k<e.length
  ·refine G.lT k e.length ?_;obtain⟨bb,ob,rfl,R⟩:=(U.mono t).at (j:=k) m;refine G.N e.length Q m R<|G.p (c+la.getD k 0:Nat) (e.getD k 0:Nat) (c+la.getD k 0+e.getD k 0:Nat)<|G.rem ((c+la.getD k 0+e.getD k 0:Nat):Int) 1000000000 (((c+la.getD k 0+e.getD k 0)%1000000000:Nat):Int) kV oV oV oV oV<|G.B 3 1 8 zO [zI (((c+la.getD k 0+e.getD k 0)%1000000000:Nat):Int)] (Av [(c+la.getD k 0+e.getD k 0)%1000000000]) ?_;intro g P H I;refine G.append 3 1 8 zO PH.mt (Ai ys) [zI (((c+la.getD k 0+e.getD k 0)%1000000000:Nat):Int)] E g 0 1 1 kV rfl rfl oV F I (Av [(c+la.getD k 0+e.getD k 0)%1000000000]) rfl oV (by rw[Ak,f.len];omega) (by rw[Ak,f.len];omega) ?_;intro K W h;rw[Di]at h;refine G.quo ((c+la.getD k 0+e.getD k 0:Nat):Int) 1000000000 (((c+la.getD k 0+e.getD k 0)/1000000000:Nat):Int) kV oV oV oV oV<|G.i k<|G.b (L (k+1,ys++[(c+la.getD k 0+e.getD k 0)%1000000000],(c+la.getD k 0+e.getD k 0)/1000000000,K) _ _ _ cV (t.trans H) ⟨⟨oV,dV⟩,h,?_⟩ (by show max la.length e.length+2-(k+1)<max la.length e.length+2-k;omega));have:=f.step A C (x:=la.getD k 0) (y:=e.getD k 0) rfl rfl;rw[show la.getD k 0+e.getD k 0+c=c+la.getD k 0+e.getD k 0 by omega]at this;exact this
  have hz:=Fs m;refine G.lF k e.length<|G.rem ((c+la.getD k 0:Nat):Int) 1000000000 (((c+la.getD k 0)%1000000000:Nat):Int) kV oV oV oV oV<|G.B 3 1 8 zO [zI (((c+la.getD k 0)%1000000000:Nat):Int)] (Av [(c+la.getD k 0)%1000000000]) ?_;intro g P H I;refine G.append 3 1 8 zO PH.mt (Ai ys) [zI (((c+la.getD k 0)%1000000000:Nat):Int)] E g 0 1 1 kV rfl rfl oV F I (Av [(c+la.getD k 0)%1000000000]) rfl oV (by rw[Ak,f.len];omega) (by rw[Ak,f.len];omega) ?_;intro K W h;rw[Di]at h;refine G.quo ((c+la.getD k 0:Nat):Int) 1000000000 (((c+la.getD k 0)/1000000000:Nat):Int) kV oV oV oV oV<|G.i k<|G.b (L (k+1,ys++[(c+la.getD k 0)%1000000000],(c+la.getD k 0)/1000000000,K) _ _ _ cV (t.trans H) ⟨⟨oV,dV⟩,h,?_⟩ (by show max la.length e.length+2-(k+1)<max la.length e.length+2-k;omega));have:=f.step A C (x:=la.getD k 0) (y:=e.getD k 0) rfl rfl;rw[show la.getD k 0+e.getD k 0+c=c+la.getD k 0 by omega]at this;exact this
 have a6:=Fs D;by_cases m:k<e.length
 ·refine G.lF k la.length<|G.lT k e.length<|G.lF k la.length<|G.lT k e.length ?_;obtain⟨bb,ob,rfl,R⟩:=(U.mono t).at (j:=k) m;refine G.N e.length Q m R<|G.p (c:Nat) (e.getD k 0:Nat) (c+e.getD k 0:Nat)<|G.rem ((c+e.getD k 0:Nat):Int) 1000000000 (((c+e.getD k 0)%1000000000:Nat):Int) kV oV oV oV oV<|G.B 3 1 8 zO [zI (((c+e.getD k 0)%1000000000:Nat):Int)] (Av [(c+e.getD k 0)%1000000000]) ?_;intro g P H I;refine G.append 3 1 8 zO PH.mt (Ai ys) [zI (((c+e.getD k 0)%1000000000:Nat):Int)] E g 0 1 1 kV rfl rfl oV F I (Av [(c+e.getD k 0)%1000000000]) rfl oV (by rw[Ak,f.len];omega) (by rw[Ak,f.len];omega) ?_;intro K W h;rw[Di]at h;refine G.quo ((c+e.getD k 0:Nat):Int) 1000000000 (((c+e.getD k 0)/1000000000:Nat):Int) kV oV oV oV oV<|G.i k<|G.b (L (k+1,ys++[(c+e.getD k 0)%1000000000],(c+e.getD k 0)/1000000000,K) _ _ _ cV (t.trans H) ⟨⟨oV,dV⟩,h,?_⟩ (by show max la.length e.length+2-(k+1)<max la.length e.length+2-k;omega));have:=f.step A C (x:=la.getD k 0) (y:=e.getD k 0) rfl rfl;rw[show la.getD k 0+e.getD k 0+c=c+e.getD k 0 by omega]at this;exact this
 have a7:=Fs m;by_cases a1:0<c
 ·refine G.lF k la.length<|G.lF k e.length<|G.gT c 0<|G.lF k la.length<|G.lF k e.length<|G.rem ((c:Nat):Int) 1000000000 (((c)%1000000000:Nat):Int) kV oV oV oV oV<|G.B 3 1 8 zO [zI (((c)%1000000000:Nat):Int)] (Av [(c)%1000000000]) ?_;intro g P H I;refine G.append 3 1 8 zO PH.mt (Ai ys) [zI (((c)%1000000000:Nat):Int)] E g 0 1 1 kV rfl rfl oV F I (Av [(c)%1000000000]) rfl oV (by rw[Ak,f.len];omega) (by rw[Ak,f.len];omega) ?_;intro K W h;rw[Di]at h;refine G.quo ((c:Nat):Int) 1000000000 (((c)/1000000000:Nat):Int) kV oV oV oV oV<|G.i k<|G.b (L (k+1,ys++[(c)%1000000000],(c)/1000000000,K) _ _ _ cV (t.trans H) ⟨⟨oV,dV⟩,h,?_⟩ (by show max la.length e.length+2-(k+1)<max la.length e.length+2-k;omega));have:=f.step A C (x:=la.getD k 0) (y:=e.getD k 0) rfl rfl;rw[show la.getD k 0+e.getD k 0+c=c by omega]at this;exact this
 refine G.lF k la.length<|G.lF k e.length<|G.gF c 0<|G.give PH.mt (Ai ys) E kV F (fun _=>.inl rfl) ?_;intro P H hL;refine G.r E ⟨rfl,ys,hL,f.low,f.over A C D m oV,?_⟩;rw[f.len];omega
end
section
variable {la ys:zK}
def Ij (l:zK):List Int:=l.map fun (n:Nat)=>(n:Int)
def Zl (la ys:zK)(c:Nat):List Int:=Ij ys++(match la.drop ys.length with|[]=>[]|x::r=>((x:Int)-c)::Ij r)
def Aqt (la:zK):Zl la [] 0=Ij la:=by
 unfold Zl;cases la<;>simp[Ij]
def V4 (c:Nat)(h:ys.length<la.length):Zl la ys c=Ij ys++((la.getD ys.length 0:Nat)-(c:Int))::Ij (la.drop (ys.length+1)):=by
 unfold Zl;rw[Cs la ys.length h]
def N9 (c:Nat)(h:ys.length<=la.length):(Zl la ys c).length=la.length:=by
 rcases A2e ys.length la.length with e|e
 ·rw[V4 c e];simp[Ij];omega
 unfold Zl;rw[A2b e];simp[Ij];omega
def Aw1 (c:Nat)(h:ys.length<la.length):(Zl la ys c)[ys.length]?=some ((la.getD ys.length 0:Nat)-(c:Int)):=by
 rw[V4 c h,A18 (by simp[Ij])];simp[Ij]
def Arl (c:Nat)(d:Int)(h:ys.length<la.length):(Zl la ys c).set ys.length d=Ij ys++d::Ij (la.drop (ys.length+1)):=by
 rw[V4 c h,A4t _ _ (by simp[Ij])];simp[Ij]
def Vt (c n:Nat)(h:ys.length<la.length):(Zl la ys c).set ys.length (n:Int)=Zl la (ys++[n]) 0:=by
 rw[Arl c _ h];unfold Zl;simp only[A1d,A20];cases la.drop (ys.length+1)<;>simp[Ij]
def Afa (c n:Nat)(h:ys.length+1<la.length):((Zl la ys c).set ys.length (n:Int)).set (ys.length+1) ((la.getD (ys.length+1) 0:Nat)-1)=Zl la (ys++[n]) 1:=by
 rw[Vt c n oV];have e:(ys++[n]).length<la.length:=by simpa using h
 have:=Arl (la:=la) (ys:=ys++[n]) 0 ((la.getD (ys.length+1) 0:Nat)-1) e;rw[A1d,A20]at this;rw[this,V4 1 e];simp
def Akk (c n:Nat)(h:ys.length+1<la.length):((Zl la ys c).set ys.length (n:Int))[ys.length+1]?=some ((la.getD (ys.length+1) 0:Nat):Int):=by
 rw[Vt c n oV];have:=Aw1 (la:=la) (ys:=ys++[n]) 0 (by simpa using h);rw[A1d,A20]at this;simpa using this
def Avv (c:Nat)(h:ys.length=la.length):Zl la ys c=Ij ys:=by
 unfold Zl;rw[A2b oV];simp
def Lv.last {a b ys:zK}{c:Nat}(h:Lv a b a.length ys c)(f:b.length<=a.length)(j:val b<=val a):c=0:=by
 have m:=h.sum;rw[A1j (A08 _),A1j f]at m;have e:=K8 h.low;rw[h.len]at e;rcases A2a c with h0|h0
 ·exact h0
 have:1000000000^a.length*1<=1000000000^a.length*c:=A2h _ h0;omega
def elZ {l:List Int}{j:Nat}{d:Int}(h:l[j]?=some d):(Fc l)[j]?=some (zI d):=by simp[Fc,h]
def Ly {u:PH}{va vb:Value}{la t:zK}(ha:Cy u va la)(hb:Cy u vb t)(P:Low la)(Z:Low t)(sa:la.length<=1000000000000)(Q:t.length<=la.length)(R:val t<=val la) :
 zF 152 [va,vb] u fun v u'=>∃ l,Cy u' v l/\Low l/\val l=val la-val t/\l.length=la.length:=by
 obtain⟨a,ca,rfl,aa⟩:=ha.opn;obtain⟨b,cb,rfl,ab⟩:=hb.opn;refine Fn0.o func152 ?_;rcases A2a la.length with h0|h0
 ·have e1:la = []:=A2l h0;have e2:t = []:=A2l oV;subst e1 e2;refine G.appendNil 3 1 8 zO a ca kV<|G.l (ι:=Unit) (fun _=>[(5,sN),(6,iV 0)]) (fun _=>[]) (fun _ _ m'=>m'=PH.mt) (fun _=>0) () rfl ?_;rintro J _ hJ u' m' T rfl;exact G.lF 0 (0:Nat)<|G.r zN ⟨rfl,[],Ac.nil _ _ _ _,Low.nil,by simp[val],rfl⟩
 obtain⟨ba,oa,rfl,_⟩:=ha.at (j:=0) h0;refine G.append 3 1 8 zO PH.mt [] (Ai la) zN ba oa la.length ca kV rfl rfl oV (Af.nil _ _ _) ha.els (Av la) (Ak la) h0 gV gV ?_;intro vo m1 V;rw[A3q,<-Tr]at V;obtain⟨H,C,rfl⟩:=V.ptr (by intro e;have:=congrArg List.length e;rw[Cq,A03,A30]at this;omega);have a3:Af PH.mt m1 (zG H la.length C) 3 1 (Fc (Zl la [] 0)):=by
  have:=V;rw[Cq,A03]at this;rw[Aqt];exact this
 rw[Cq,A03];refine G.l (ι:=Nat×zK×Nat) (fun i=>[(1,sV b t.length cb),(5,sV (zA H) la.length C),(6,iV i.1)]) (fun _=>[])
  (fun i _ m'=>i.1<=la.length/\Lv la t i.1 i.2.1 i.2.2/\Af PH.mt m' (zG H la.length C) 3 1 (Fc (Zl la i.2.1 i.2.2))) (fun i=>la.length-i.1) (0,[],0)
  ⟨mV,Lv.start _ _,a3⟩ ?_
 clear V a3 m1;rintro J ⟨k,ys,c⟩ hJ u' m' T ⟨hk,D,V⟩;simp only at hk D V hJ;have a9:=D.carry;have E:=D.len;have a6:=P.getD k;have a7:=Z.getD k;by_cases m:k<la.length
 ·refine G.lT k la.length ?_;have a5:ys.length<la.length:=oV;have a0:=Aw1 (la:=la) (ys:=ys) c a5;rw[E]at a0;by_cases a2:k<t.length
  ·obtain⟨bb,ob,rfl,eb⟩:=(hb.mono T).at (j:=k) a2;refine G.lT k t.length<|G.O la.length C m (V.el (elZ a0))<|G.N t.length cb a2 eb ?_;obtain⟨d,hd⟩:∃ d:Int,d=(la.getD k 0:Nat)-(c:Int)-(t.getD k 0:Nat):=⟨_,rfl⟩;refine G.s ((la.getD k 0:Nat)-(c:Int)) (t.getD k 0:Nat) d<|G.a H 0 la.length C k 1 m<|G.storeA 1 PH.mt _ H la.length C k (zI d) kV V (by rw[Cq,N9 c oV];exact m) rfl rfl ?_;intro m2 A;rw[Mm]at A;have X:((Zl la ys c).set k d)[k]?=some d:=by rw[A44 (by rw[N9 c oV];exact m)]
   refine G.O la.length C m (A.el (elZ X)) ?_;by_cases F:d<0
   ·refine G.lT' d 0 F ?_;have f:=D.step P Z (x:=la.getD k 0) (y:=t.getD k 0) rfl rfl;obtain⟨n,hn⟩:∃ n:Nat,n=(la.getD k 0+1000000000-t.getD k 0-c)%1000000000:=⟨_,rfl⟩;have K:1-(la.getD k 0+1000000000-t.getD k 0-c)/1000000000=1:=oV;rw[<-hn,K]at f;have L:k+1<la.length:=by
     rcases A2e (k+1) la.length with h|h
     ·exact h
     have:k+1=la.length:=oV;rw[this]at f;have:=f.last Q R;omega
    refine G.O la.length C m (A.el (elZ X))<|G.p d 1000000000 n<|G.a H 0 la.length C k 1 m<|G.storeA 1 PH.mt _ H la.length C k (zI n) kV A (by rw[Cq,A21,N9 c oV];exact m) rfl rfl ?_;intro m3 I;rw[Mm,A6r]at I;refine G.i k ?_;have Y:=Akk (la:=la) (ys:=ys) c n oV;rw[E]at Y;have a4:=P.getD (k+1);refine G.O la.length C L (I.el (elZ Y))<|G.sub ((la.getD (k+1) 0:Nat):Int) 1 ((la.getD (k+1) 0:Nat)-1) kV rfl oV oV<|G.a H 0 la.length C (k+1) 1 L<|G.storeA 1 PH.mt _ H la.length C (k+1) (zI ((la.getD (k+1) 0:Nat)-1)) kV I (by rw[Cq,A21,N9 c oV];exact L) rfl rfl ?_;intro m4 W;have U:=Afa (la:=la) (ys:=ys) c n oV;rw[E]at U;rw[Mm,U]at W;exact G.i k<|G.b (hJ (k+1,ys++[n],1) _ _ _ cV T ⟨oV,f,W⟩ dV)
   refine G.lF' d 0 F ?_;have f:=D.step P Z (x:=la.getD k 0) (y:=t.getD k 0) rfl rfl;obtain⟨n,hn⟩:∃ n:Nat,n=(la.getD k 0+1000000000-t.getD k 0-c)%1000000000:=⟨_,rfl⟩;have K:1-(la.getD k 0+1000000000-t.getD k 0-c)/1000000000=0:=oV;rw[<-hn,K]at f;have a1:d=(n:Int):=oV;have U:=Vt (la:=la) (ys:=ys) c n oV;rw[E]at U;rw[a1,U]at A;exact G.i k<|G.b (hJ (k+1,ys++[n],0) _ _ _ cV T ⟨oV,f,A⟩ dV)
  have hz:=Fs a2;refine G.lF k t.length ?_;obtain⟨d,hd⟩:∃ d:Int,d=(la.getD k 0:Nat)-(c:Int)-(t.getD k 0:Nat):=⟨_,rfl⟩;have A:Af PH.mt m' (zG H la.length C) 3 1 (Fc ((Zl la ys c).set k d)):=by
   have e:(Zl la ys c).set k d=Zl la ys c:=by
    have:(la.getD k 0:Nat)-(c:Int)=d:=oV;rw[this]at a0;refine A4g fun j=>?_;by_cases hj:k=j
    ·subst hj;rw[A44 (by rw[N9 c oV];exact m),a0]
    rw[A9z hj]
   rw[e];exact V
  have X:((Zl la ys c).set k d)[k]?=some d:=by rw[A44 (by rw[N9 c oV];exact m)]
  refine G.O la.length C m (A.el (elZ X)) ?_;by_cases F:d<0
  ·refine G.lT' d 0 F ?_;have f:=D.step P Z (x:=la.getD k 0) (y:=t.getD k 0) rfl rfl;obtain⟨n,hn⟩:∃ n:Nat,n=(la.getD k 0+1000000000-t.getD k 0-c)%1000000000:=⟨_,rfl⟩;have K:1-(la.getD k 0+1000000000-t.getD k 0-c)/1000000000=1:=oV;rw[<-hn,K]at f;have L:k+1<la.length:=by
    rcases A2e (k+1) la.length with h|h
    ·exact h
    have:k+1=la.length:=oV;rw[this]at f;have:=f.last Q R;omega
   refine G.O la.length C m (A.el (elZ X))<|G.p d 1000000000 n<|G.a H 0 la.length C k 1 m<|G.storeA 1 PH.mt _ H la.length C k (zI n) kV A (by rw[Cq,A21,N9 c oV];exact m) rfl rfl ?_;intro m3 I;rw[Mm,A6r]at I;refine G.i k ?_;have Y:=Akk (la:=la) (ys:=ys) c n oV;rw[E]at Y;have a4:=P.getD (k+1);refine G.O la.length C L (I.el (elZ Y))<|G.sub ((la.getD (k+1) 0:Nat):Int) 1 ((la.getD (k+1) 0:Nat)-1) kV rfl oV oV<|G.a H 0 la.length C (k+1) 1 L<|G.storeA 1 PH.mt _ H la.length C (k+1) (zI ((la.getD (k+1) 0:Nat)-1)) kV I (by rw[Cq,A21,N9 c oV];exact L) rfl rfl ?_;intro m4 W;have U:=Afa (la:=la) (ys:=ys) c n oV;rw[E]at U;rw[Mm,U]at W;exact G.i k<|G.b (hJ (k+1,ys++[n],1) _ _ _ cV T ⟨oV,f,W⟩ dV)
  refine G.lF' d 0 F ?_;have f:=D.step P Z (x:=la.getD k 0) (y:=t.getD k 0) rfl rfl;obtain⟨n,hn⟩:∃ n:Nat,n=(la.getD k 0+1000000000-t.getD k 0-c)%1000000000:=⟨_,rfl⟩;have K:1-(la.getD k 0+1000000000-t.getD k 0-c)/1000000000=0:=oV;rw[<-hn,K]at f;have a1:d=(n:Int):=oV;have U:=Vt (la:=la) (ys:=ys) c n oV;rw[E]at U;rw[a1,U]at A;exact G.i k<|G.b (hJ (k+1,ys++[n],0) _ _ _ cV T ⟨oV,f,A⟩ dV)
 obtain rfl:k=la.length:=oV;refine G.lF la.length la.length ?_;have a8:=D.last Q R;rw[Avv c E,show Fc (Ij ys)=Ai ys from Tr ys]at V;refine G.give PH.mt (Ai ys) _ kV V (fun _=>.inl rfl) ?_;intro u1 l1 hL;exact G.r (zG H la.length C) ⟨rfl,ys,hL,D.low,D.done Q R,E⟩
end
section
variable {a:zP}{c n:Nat}{l:zK}{u:PH}{x x':Value}{y z:Int}
def Do (u:PH)(v:Value)(z:Int):Prop:=∃ a n c,v=.agg #[.bool (decide (z<0)),.slice a n c]/\Cy u (.slice a n c) (Aa z.natAbs)
def Do.mono {u e:PH}{v:Value}{z:Int}(h:Do u v z)(m:PH.le u e):Do e v z:=by
 obtain⟨a,n,c,f,j⟩:=h;exact⟨a,n,c,f,j.mono m⟩
def Do.opn {v:Value}(h:Do u v z):∃ b a n c,v=.agg #[.bool b,.slice a n c]/\b=decide (z<0)/\Cy u (.slice a n c) (Aa z.natAbs):=by
 obtain⟨a,n,c,rfl,e⟩:=h;exact⟨_,a,n,c,rfl,rfl,e⟩
def Asy (e:Low l):0<Bz l l.length↔0<val l:=by
 have:=Ke e;rw[<-Df (n:=val l),this,A1e];have:=Mi l l.length;omega
def Ad0 (b:Bool)(h:Cy u (.slice a n c) l)(e:Low l):Do u (.agg #[.bool (b&&decide (0<Bz l l.length)),.slice a (Bz l l.length) c]) (Cd b (val l)):=by
 refine⟨a,Bz l l.length,c,?_,?_⟩
 ·rw[Wd,decide_eq_decide.2 (Asy e)]
 rw[K5,Ke e];exact h.take _ (Mi _ _)
def Ec {b:Bool}(h:Cy u (.slice a n c) l)(E:Low l)(F:l.length<=1000000000000000000) :
 zF 149 [.agg #[.bool b,.slice a n c]] u fun v f=>Do f v (Cd b (val l)):=by
 intro w m;refine Calls.mono (Ar4 (b:=b) h F w m) fun e w' D=>?_;obtain⟨v,f,H,t,A,j,C,rfl⟩:=D;exact⟨_,f,H,t,A,j,C,Ad0 b (h.mono (j.le m.pu)) E⟩
def Ts (h:Do u x z)(j:nl z.natAbs<=1000000000000000000):zF 148 [x] u fun v A=>Do A v (-z):=by
 obtain⟨b,a,n,c,rfl,f,hi⟩:=h.opn;obtain⟨rfl,C⟩:=hi.len;have m:(Aa z.natAbs).length<=1000000000000000000:=j;refine Fn0.o func148 ?_;have hp:=Df (n:=z.natAbs);have fin:∀ b':Bool,b'=decide (-z<0)->Do u (.agg #[.bool b',.slice a (Aa z.natAbs).length c]) (-z):=fun b' e=>⟨a,(Aa z.natAbs).length,c,by rw[e],by rw[A3l];exact hi⟩;cases b
 ·have t:0<=z:=by simpa using f.symm
  by_cases h0:0<(Aa z.natAbs).length
  ·exact G.gT ((Aa z.natAbs).length:Int) 0<|G.r (.agg #[zT,.slice a (Aa z.natAbs).length c]) ⟨rfl,fin true (by have:=hp.1 h0;simp;omega)⟩
  exact G.gF ((Aa z.natAbs).length:Int) 0<|G.r (.agg #[zL,.slice a (Aa z.natAbs).length c]) ⟨rfl,fin false (by have:¬ 0<z.natAbs:=fun h=>h0 (hp.2 h);simp;omega)⟩
 have t:z<0:=by simpa using f.symm
 exact G.r (.agg #[zL,.slice a (Aa z.natAbs).length c]) ⟨rfl,fin false gV⟩
def Fi {m n:Nat}(h:n<=m):(Aa n).length<=(Aa m).length:=C4 h
def Al8 (Z:Do u x y)(V:Do u x' z)(sy:nl y.natAbs<=1000000000000)(sz:nl z.natAbs<=1000000000000):zF 75 [x,x'] u fun v u'=>Do u' v (y+z):=by
 obtain⟨b,a,n,c,rfl,T,hi⟩:=Z.opn;obtain⟨b',a',n',c',rfl,A,j⟩:=V.opn;have Q:(Aa y.natAbs).length<=1000000000000:=sy;have R:(Aa z.natAbs).length<=1000000000000:=sz;refine Fn0.o func75<|G.eqB b b' kV ?_;by_cases f:b=b'
 ·have t:=Afl (y:=y) (z:=z) (by rw[<-T,<-A,f]);rw[<-T]at t;rw[show (b==b')=true by rw[f];simp];refine G.c call150 (Aso hi j (Ao _) (Ao _) Q R) ?_;rintro W u1 L ⟨l,m,H,I,X⟩;obtain⟨a1,c1,rfl,J⟩:=m.opn;refine G.c call149 (Ec (b:=b) m H oV) ?_;intro Y U l2 e;rw[I,Am,Am,t]at e;obtain⟨E,D,P,F,rfl,_,_⟩:=e.opn;exact G.r (.agg #[.bool E,.slice D P F]) ⟨rfl,e⟩
 rw[show (b==b')=false by simpa using f];have K:decide (y<0)≠decide (z<0):=by rw[<-T,<-A];exact f
 refine G.c call151 (Lx hi j oV oV) ?_;rintro W u1 L rfl;by_cases C:z.natAbs<=y.natAbs
 ·have t:=Zx (y:=y) (z:=z) K C;rw[<-T]at t;refine G.hT' (sgn ((y.natAbs:Int)-z.natAbs)) 0 (by rcases A4q ((y.natAbs:Int)-z.natAbs) 0 with h|h|h<;>first|omega|(rw[h];decide)|(rw[C5 h];decide)) ?_
  refine G.c call152 (Ly (hi.mono L) (j.mono L) (Ao _) (Ao _) Q (Fi C) (by rw[Am,Am];exact C)) ?_;rintro W U l2 ⟨l,m,H,I,X⟩;obtain⟨a1,c1,rfl,J⟩:=m.opn;refine G.c call149 (Ec (b:=b) m H oV) ?_;intro Y U l2 e;rw[I,Am,Am,t]at e;obtain⟨E,D,P,F,rfl,_,_⟩:=e.opn;exact G.r (.agg #[.bool E,.slice D P F]) ⟨rfl,e⟩
 have t:=Aag (y:=y) (z:=z) K oV;rw[<-A]at t;refine G.hF' (sgn ((y.natAbs:Int)-z.natAbs)) 0 (by rw[Ep oV];decide)<|G.c call152 (Ly (j.mono L) (hi.mono L) (Ao _) (Ao _) R (Fi oV) (by rw[Am,Am];omega)) ?_;rintro W U l2 ⟨l,m,H,I,X⟩;obtain⟨a1,c1,rfl,J⟩:=m.opn;refine G.c call149 (Ec (b:=b') m H oV) ?_;intro Y U l2 e;rw[I,Am,Am,t]at e;obtain⟨E,D,P,F,rfl,_,_⟩:=e.opn;exact G.r (.agg #[.bool E,.slice D P F]) ⟨rfl,e⟩
def Awi (j:Do u x y)(e:Do u x' z)(H:nl y.natAbs<=1000000000000)(sz:nl z.natAbs<=1000000000000):zF 85 [x,x'] u fun v I=>Do I v (y-z):=by
 obtain⟨b,a,n,c,rfl,P,hi⟩:=j.opn;obtain⟨b',J,R,L,rfl,C,D⟩:=e.opn;refine Fn0.o func85<|G.c call148 (Ts e oV) ?_;intro V T E h;obtain⟨K,a1,n1,c1,rfl,_,_⟩:=h.opn;refine G.c call75 (Al8 (j.mono E) h H (by rw[A3l];exact sz)) ?_;intro W U Q f;rw[<-A7i]at f;obtain⟨t,m,F,A,rfl,_,_⟩:=f.opn;exact G.r (.agg #[.bool t,.slice m F A]) ⟨rfl,f⟩
end
end Go.Proofs.YtemmheaocgmebaaGreatDoor
