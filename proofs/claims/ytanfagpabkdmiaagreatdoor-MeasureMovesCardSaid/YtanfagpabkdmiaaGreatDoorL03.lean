/- Parts of one proof, joined by a program. -/
import Derived.Test.YtanfagpabkdmiaaGreatDoorL02
import Derived.Outline
import Derived.Deep.RegionHeld3
import Derived.Laws.AppendOwn
import Derived.Laws.MakeOwn
import Derived.IntWalk
import Derived.Lib.TrimByte
import Derived.Lib.ItoaNum
import Derived.Laws.IdiomStrings
set_option linter.unusedVariables false
set_option linter.unusedSimpArgs false
set_option linter.unusedSectionVars false
set_option maxHeartbeats 16000000
namespace Go.Proofs.YtanfagpabkdmiaaGreatDoor
open Go.Proofs.Tryz
section
open Go.RowKit
variable {y z:Int}
theorem K1 (y z:Int):Rat.divInt (-y) (-z)=Rat.divInt y z:=by
 rw [Rat.divInt_eq_div,Rat.divInt_eq_div,Rat.intCast_neg,Rat.intCast_neg];by_cases h:(z:Rat)=0
 ·rw [h]; simp [Rat.div_def]
 ·have:-(z:Rat)≠0:=by grind
  grind
theorem Ru (hz:0 < z)(hg:Nat.gcd y.natAbs z.natAbs=1):(Rat.divInt y z).num=y∧(Rat.divInt y z).den=z.natAbs:=by
 have e:(z:Int)=((z.natAbs:Nat):Int):=by omega
 rw [e,Rat.divInt_ofNat,Rat.mkRat_def,dif_neg (by omega),Rat.normalize_eq];simp only [Int.natAbs_natCast,hg];simp
theorem Rz {G:Nat}(hz:0 < z)(hg:G=Nat.gcd y.natAbs z.natAbs):(Rat.divInt y z).num=y / G∧(Rat.divInt y z).den=z.natAbs / G:=by
 have e:(z:Int)=((z.natAbs:Nat):Int):=by omega
 rw [e,Rat.divInt_ofNat,Rat.mkRat_def,dif_neg (by omega),Rat.normalize_eq];subst hg;constructor <;> simp
end
section
open Go.RowKit
end
section
open Go.RowKit
def Sz (q:Rat)(k:Nat):Prop:=nl q.num.natAbs≤k∧nl q.den≤k
theorem Afb {q r:Rat}(h1:q.den=1)(h2:r.den=1):((q.num*r.num:Int):Rat)=q*r:=by
 rw [Rat.mul_def',h1,h2,Nat.one_mul,Rat.mkRat_one]
theorem Wf (q r:Rat):Rat.divInt (q.num*r.num) ((q.den:Int)*(r.den:Int))=q*r:=by
 rw [Rat.mul_def',← Rat.divInt_ofNat,Int.natCast_mul]
theorem Xh (q r:Rat):Rat.divInt (q.num*(r.den:Int)) ((q.den:Int)*r.num)=q / r:=by
 rw [Rat.divInt_eq_div,Rat.intCast_mul,Rat.intCast_mul];have e1:q=(q.num:Rat) / ((q.den:Int):Rat):=by rw [← Rat.divInt_eq_div,Rat.num_divInt_den]
 have e2:r=(r.num:Rat) / ((r.den:Int):Rat):=by rw [← Rat.divInt_eq_div,Rat.num_divInt_den]
 have d1:((q.den:Int):Rat)≠0:=by have:=q.den_nz; simp; exact this
 have d2:((r.den:Int):Rat)≠0:=by have:=r.den_nz; simp; exact this
 by_cases h:(r.num:Rat)=0
 ·have:r=0:=by rw [e2,h]; simp [Rat.div_def]
  rw [h,this]; simp [Rat.div_def]
 ·generalize (q.num:Rat)=a at *
  generalize (r.num:Rat)=b at *
  generalize ((q.den:Int):Rat)=c at *
  generalize ((r.den:Int):Rat)=d at *
  rw [e1,e2];grind
theorem Bl {y z:Int}{k:Nat}(h1:nl y.natAbs≤k)(h2:nl z.natAbs≤k):nl (y*z).natAbs≤2*k:=by
 rw [Int.natAbs_mul]; have:=Fp y.natAbs z.natAbs; omega
end
section
open Go.RowKit
theorem Afm {q r:Rat}(h1:q.den=1)(h2:r.den=1):((q.num+r.num:Int):Rat)=q+r:=by
 rw [Rat.add_def',h1,h2,Nat.one_mul,Rat.mkRat_one]; simp
theorem Nx (q r:Rat):Rat.divInt (q.num*(r.den:Int)+r.num*(q.den:Int)) ((q.den:Int)*(r.den:Int))=q+r:=by
 rw [Rat.add_def',← Rat.divInt_ofNat,Int.natCast_mul]
theorem Nq {y z:Int}{k:Nat}(h1:nl y.natAbs≤k)(h2:nl z.natAbs≤k):nl (y+z).natAbs≤k+1:=by
 have:=Aie y.natAbs z.natAbs;have h3:nl (y+z).natAbs≤nl (y.natAbs+z.natAbs):=C6 (by omega);omega
theorem Tf (q r:Rat):(q.den:Int)*(r.den:Int)≠0:=by
 have e1:=q.den_nz;have e2:=r.den_nz;exact Int.mul_ne_zero (by omega) (by omega)
end
section
open Go.RowKit
end
section
open Go.RowKit
variable {b n off:Nat}{env:Operand→Value}{o:Op}{q:Rat}{v x:Value}{w:World}
instance:Ba prog:=⟨by kernel_rfl,by kernel_rfl⟩
def Tb (u:PH)(b off:Nat)(x:Value):Prop:=∃ cs t fr,u b=some (.cells cs t fr)∧cs[off]?=some x
theorem Tb.mono {u u':PH}(h:Tb u b off x)(hl:PH.le u u'):Tb u' b off x:=by
 obtain ⟨cs,t,fr,h1,h2⟩:=h; exact ⟨cs,t,fr,hl _ _ h1,h2⟩
theorem Tb.cell {u:PH}{w:World}{b off:Nat}{x:Value}(h:Tb u b off x)(hp:Eb u w):w.cell? ⟨b,off,none⟩=some x:=by
 obtain ⟨cs,t,fr,h1,h2⟩:=h;simp [World.cell?,hp _ _ h1,h2]
def ElP (u:PH)(b off:Nat)(e:Value):Prop:=∀ (i:Nat) (x:Value),e.cells[i]?=some x→Tb u b (off+i) x
theorem ElP.mono {u u':PH}{b off:Nat}{e:Value}(h:ElP u b off e)(hl:PH.le u u'):ElP u' b off e:=fun i x hi=>(h i x hi).mono hl
def Aby (k:Option Nat)(e:Value):Bool :=
 match k with
 | some n=>match e with
  | .agg cs=>Nat.beq n cs.size
  | _=>false
 | none=>match e with | .agg _=>false | _=>true
def Abs (u:PH)(a:Option Addr)(cs:List Value):Prop:=∀ j,j < cs.length→∃ b off,a=some ⟨b,off,none⟩∧Tb u b (off+j) (cs.getD j (.bool false))
def Cm (u:PH)(v:Value)(n:Nat):Prop:=∃ a cap,v=.slice a (Aa n).length cap∧(Aa n).length≤cap∧Abs u a (A1 (Aa n))
def Cb (u:PH)(v:Value)(z:Int):Prop:=∃ a n c,v=.agg #[.bool (decide (z < 0)),.slice a n c]∧Cm u (.slice a n c) z.natAbs
def Av (u:PH)(v:Value)(q:Rat):Prop :=
 ∃ a n c a' n' c',v=.agg #[.bool (decide (q.num < 0)),.slice a n c,.bool false,.slice a' n' c']∧Cm u (.slice a n c) q.num.natAbs∧Cm u (.slice a' n' c') q.den
theorem Cm.mono {u u':PH}{v:Value}{n:Nat}(h:Cm u v n)(hl:PH.le u u'):Cm u' v n:=by
 obtain ⟨a,cap,h1,h2,h3⟩:=h;exact ⟨a,cap,h1,h2,fun j hj=>by obtain ⟨b,off,e1,e2⟩:=h3 j hj; exact ⟨b,off,e1,e2.mono hl⟩⟩
theorem Cb.mono {u u':PH}{v:Value}{z:Int}(h:Cb u v z)(hl:PH.le u u'):Cb u' v z:=by
 obtain ⟨a,n,c,h1,h2⟩:=h; exact ⟨a,n,c,h1,h2.mono hl⟩
theorem Av.mono {u u':PH}{v:Value}{q:Rat}(h:Av u v q)(hl:PH.le u u'):Av u' v q:=by
 obtain ⟨a,n,c,a',n',c',h1,h2,h3⟩:=h; exact ⟨a,n,c,a',n',c',h1,h2.mono hl,h3.mono hl⟩
theorem Cm.toW {u:PH}(h:Cm u v n)(hp:Eb u w):Ci w v n:=by
 obtain ⟨a,cap,h1,h2,h3⟩:=h;exact ⟨a,cap,h1,h2,fun j hj=>by obtain ⟨b,off,e1,e2⟩:=h3 j hj; exact ⟨b,off,e1,e2.cell hp⟩⟩
theorem Cb.toW {u:PH}{w:World}{v:Value}{z:Int}(h:Cb u v z)(hp:Eb u w):Abu w v z:=by
 obtain ⟨a,n,c,h1,h2⟩:=h; exact ⟨a,n,c,h1,h2.toW hp⟩
theorem Cm.ofW {u:PH}(h:Ci w v n)(hc:Zv u w):Cm u v n:=by
 obtain ⟨a,cap,h1,h2,h3⟩:=h;refine ⟨a,cap,h1,h2,fun j hj=>?_⟩;obtain ⟨b,off,e1,e2⟩:=h3 j hj;refine ⟨b,off,e1,?_⟩;have hj':j < (Aa n).length:=by simpa using hj
 have hx:(A1 (Aa n)).getD j (.bool false)=.int .u64 ((Aa n).getD j 0:Nat):=by simp [A1,hj']
 rw [hx] at e2 ⊢;unfold World.cell? at e2;simp only at e2;split at e2
 ·rename_i cs t fr hb;simp at e2;exact ⟨cs,t,fr,hc b cs t fr _ _ hb e2,e2⟩
 ·cases e2
theorem Cb.ofW {u:PH}{w:World}{v:Value}{z:Int}(h:Abu w v z)(hc:Zv u w):Cb u v z:=by
 obtain ⟨a,n,c,h1,h2⟩:=h; exact ⟨a,n,c,h1,Cm.ofW h2 hc⟩
theorem Cb.opn {u:PH}{z:Int}(h:Cb u v z):∃ b a n c,v=.agg #[.bool b,.slice a n c]:=by
 obtain ⟨a,n,c,rfl,_⟩:=h; exact ⟨_,a,n,c,rfl⟩
theorem Av.opn {u:PH}(h:Av u v q):∃ b a n c b' a' n' c',v=.agg #[.bool b,.slice a n c,.bool b',.slice a' n' c']:=by
 obtain ⟨a,n,c,a',n',c',rfl,_⟩:=h; exact ⟨_,a,n,c,_,a',n',c',rfl⟩
theorem Av.num {u:PH}{b b':Bool}{a a':Option Addr}{n n' c c':Nat}(h:Av u (.agg #[.bool b,.slice a n c,.bool b',.slice a' n' c']) q):Cb u (.agg #[.bool b,.slice a n c]) q.num:=by
 obtain ⟨_,_,_,_,_,_,h1,h2,h3⟩:=h;simp only [Value.agg.injEq,Array.mk.injEq,List.cons.injEq,Value.bool.injEq,Value.slice.injEq,and_true] at h1;obtain ⟨rfl,⟨rfl,rfl,rfl⟩,rfl,rfl,rfl,rfl⟩:=h1;exact ⟨_,_,_,rfl,h2⟩
theorem Av.den {u:PH}{b b':Bool}{a a':Option Addr}{n n' c c':Nat}{q:Rat}(h:Av u (.agg #[.bool b,.slice a n c,.bool b',.slice a' n' c']) q):Cb u (.agg #[.bool b',.slice a' n' c']) q.den:=by
 obtain ⟨_,_,_,_,_,_,h1,h2,h3⟩:=h;simp only [Value.agg.injEq,Array.mk.injEq,List.cons.injEq,Value.bool.injEq,Value.slice.injEq,and_true] at h1;obtain ⟨rfl,⟨rfl,rfl,rfl⟩,rfl,rfl,rfl,rfl⟩:=h1;refine ⟨_,_,_,?_,by rw [Int.natAbs_natCast]; exact h3⟩;rw [show decide (((q.den:Nat):Int) < 0)=false by simp only [decide_eq_false_iff_not]; omega]
theorem Fn0.ofW {P:Program}{f:FuncId}{args:List Value}{u:PH}{R:Value→PH→Prop}(Q:Value→World→Prop)(h:∀ w,Eb u w→Calls P f args.toArray w fun e w'=>∃ v,e=.returned v∧Q v w'∧Ext w w')
  (hq:∀ v w' u',Q v w'→Eb u' w'→Zv u' w'→PH.le u u'→R v u'):Fn0 P f args u R:=by
 intro w hg;refine Calls.mono (h w hg.pu) fun e w' he=>?_;obtain ⟨v,e1,e2,e3⟩:=he;have hsz:w.heap.size≤w'.heap.size:=e3.size;have hold:∀ g,g < w.heap.size→w'.heap[g]?=w.heap[g]?:=fun g hg=>Below.block e3 g hg;have g1:Eb (fun g=>if g < w.heap.size then u g else w'.heap[g]?) w':=by
  intro g o hgo;simp only at hgo;split at hgo
  ·rename_i hlt; rw [hold g hlt]; exact hg.pu g o hgo
  ·exact hgo
 have g2:Zv (fun g=>if g < w.heap.size then u g else w'.heap[g]?) w':=by
  intro g cs t fr j z hgo hj;simp only;split
  ·rename_i hlt; rw [hold g hlt] at hgo; exact hg.cl g cs t fr j z hgo hj
  ·exact hgo
 have g3:PH.le u (fun g=>if g < w.heap.size then u g else w'.heap[g]?):=fun g o hgo=>by simp only; rw [if_pos (hg.pu.lt hgo)]; exact hgo
 refine ⟨v,_,PH.mt,e1,⟨g1,Eb.mt _,fun _=>.inr rfl,g2⟩,⟨hsz,fun g hg _=>hold g hg,fun g hg=>by simp only; rw [if_pos hg],fun _ _ h=>h,⟨e3.os,e3.output⟩,fun f=>f.elim⟩,rfl,hq v w' _ e2 g1 g2 g3⟩
section rules
variable [Cc] [Dy] {P:Program} [Ba P] {fn:Func} {Post:B0} {st:List KI×S} {u m:PH}
theorem Ul {k:Option (Option Nat)}(h:A7 P env o=.load k x):∃ t X,o=.load t X∧env X=x∧Wc P t=k:=by
 cases o <;> simp only [A7] at h <;> try cases h
 any_goals ((repeat' split at h) <;> cases h; done)
 ·exact ⟨_,_,rfl,rfl,rfl⟩
theorem Up {sz:Option Nat}{x i:Value}(h:A7 P env o=.addr sz x i):∃ t X I,o=.indexAddr t X I∧env X=x∧env I=i∧Kq P t=sz:=by
 cases o <;> simp only [A7] at h <;> try cases h
 any_goals ((repeat' split at h) <;> cases h; done)
 ·exact ⟨_,_,_,rfl,rfl,rfl,rfl⟩
theorem Xc {op:UnOp}(h:A7 P env o=.un op x):∃ t X,o=.unOp op t X∧env X=x:=by
 cases o <;> simp only [A7] at h <;> try cases h
 any_goals ((repeat' split at h) <;> cases h; done)
 ·exact ⟨_,_,rfl,rfl⟩
theorem Tt {t:TypeId}{k:Option Nat}{e:Value}(hk:Wc P t=some k)(hs:Aby k e=true)(h:ElP u b off e)(hp:Eb u w):(loadVar t ⟨b,off,none⟩).run P w=.ok e w:=by
 unfold Wc at hk;unfold loadVar;split at hk
 ·rename_i ha;split at hk
  ·rename_i n hn;simp at hk; subst hk;unfold Aby at hs;simp only at hs;split at hs
   ·rename_i cs;have hl:=Nat.eq_of_beq_eq_true hs;have:=run_loadCells_list (P:=P) w ⟨b,off,none⟩ cs.toList (fun j v hj=>by rw [Db]; exact (h j v (by simpa [Value.cells] using hj)).cell hp);simp only [Sem.run_bind,Dg ha,Result.andThen_ok,if_true,Bf hn,hl];simp at this;rw [this]; simp
   ·cases hs
  ·cases hk
 ·rename_i ha;simp at hk; subst hk;unfold Aby at hs;have hc:e.cells = #[e]:=by cases e <;> simp_all [Value.cells]
  have:=(h 0 e (by simp [hc])).cell hp;simp [Dg ha];simp at this;simp [this]
 ·cases hk
theorem G.loadU (kd:Option Nat)(b off:Nat)(e:Value)(h:Al P (adv P st)=.load (some kd) (.pointer (some ⟨b,off,none⟩)))(hs:Aby kd e=true)(he:ElP u b off e)(k:G P fn Post (nx (adv P st) e) u m):G P fn Post st u m:=by
 refine G.ask h (by simp) (fun env o hview w hp=>?_) k;obtain ⟨t,X,e1,e2,e3⟩:=Ul hview;obtain ⟨dst,opp,type,pos,after,guard⟩:=o;simp only at e1; subst e1;simp [execOp,Instr.loadAt,Instr.sureAddr,e2,Tt e3 hs he (hp rfl).1]
theorem G.loadM (kd:Option Nat)(b off:Nat)(e:Value)(h:Al P (adv P st)=.load (some kd) (.pointer (some ⟨b,off,none⟩)))(hs:Aby kd e=true)(he:ElP m b off e)(k:G P fn Post (nx (adv P st) e) u m):G P fn Post st u m:=by
 refine G.ask h (by simp) (fun env o hview w hp=>?_) k;obtain ⟨t,X,e1,e2,e3⟩:=Ul hview;obtain ⟨dst,opp,type,pos,after,guard⟩:=o;simp only at e1; subst e1;simp [execOp,Instr.loadAt,Instr.sureAddr,e2,Tt e3 hs he (hp rfl).2]
theorem G.addr (b off n c j sz:Nat)(h:Al P (adv P st)=.addr (some sz) (.slice (some ⟨b,off,none⟩) n c) (.int .i64 (j:Int)))(hj:j < n)
  (k:G P fn Post (nx (adv P st) (.pointer (some ⟨b,off+j*sz,none⟩))) u m):G P fn Post st u m:=by
 refine G.ask h (by simp) (fun env o hview w hp=>?_) k;obtain ⟨t,X,I,e1,e2,e3,hsz⟩:=Up hview;obtain ⟨dst,opp,type,pos,after,guard⟩:=o;simp only at e1; subst e1;unfold Kq at hsz;split at hsz
 ·rename_i e hu;have h1:(0:Int)≤j∧(j:Int) < n:=by omega
  simp [execOp,Instr.indexAt,asIntOf,e2,e3,run_underlying hu,h1,Bf hsz,Db];omega
 ·cases hsz
theorem G.neg (x z:Int)(h:Al P (adv P st)=.un .neg (.int .i64 x))(hz:-x=z)(h1:-9223372036854775808≤z)(h2:z≤9223372036854775807)
  (k:G P fn Post (nx (adv P st) (.int .i64 z)) u m):G P fn Post st u m:=by
 refine G.ask h (by simp) (fun env o hview w hp=>?_) k;obtain ⟨t,X,e1,e2⟩:=Xc hview;obtain ⟨dst,opp,type,pos,after,guard⟩:=o;simp only at e1; subst e1;have:(0:Int) - x=z:=by omega
 simp [execOp,Op.unary,e2,Op.intArith,this,Cl h1 h2]
end rules
end
section
variable [Cc]
open Go.RowKit
variable {P : Program} [Ba P] {fn : Func} {Post : B0} {st : List KI × S} {u m : PH}
theorem G.a (b off n c j sz : Nat) (hj : j < n) (k : G P fn Post (nx (adv P st) (.pointer (some ⟨b, off + j * sz, none⟩))) u m) (h : Al P (adv P st) = .addr (some sz) (.slice (some ⟨b, off, none⟩) n c) (.int .i64 (j : Int)) := by kernel_rfl) : G P fn Post st u m := G.addr b off n c j sz h hj k
theorem G.lU (kd : Option Nat) (b off : Nat) (e : Value) (he : ElP u b off e) (k : G P fn Post (nx (adv P st) e) u m) (h : Al P (adv P st) = .load (some kd) (.pointer (some ⟨b, off, none⟩)) := by kernel_rfl) (hs : Aby kd e = true := by kernel_rfl) : G P fn Post st u m := G.loadU kd b off e h hs he k
theorem G.lM (kd : Option Nat) (b off : Nat) (e : Value) (he : ElP m b off e) (k : G P fn Post (nx (adv P st) e) u m) (h : Al P (adv P st) = .load (some kd) (.pointer (some ⟨b, off, none⟩)) := by kernel_rfl) (hs : Aby kd e = true := by kernel_rfl) : G P fn Post st u m := G.loadM kd b off e h hs he k
end
section
variable {cs z:Array Value}{env:Operand→Value}{es xs:List Value}{g sz:Nat}{o:Oper}{t:TypeId}{v:Value}
variable [Cc] [Dy]
open Go.RowKit
def PH.upd (m:PH)(g:Nat)(o:Obj):PH:=fun h=>if h=g then some o else m h
theorem Ac (m:PH)(g:Nat)(o:Obj):m.upd g o g=some o:=by simp [PH.upd]
theorem Ad (m:PH){g h:Nat}(o:Obj)(hn:h≠g):m.upd g o h=m h:=by simp [PH.upd,hn]
theorem Dh (m:PH)(g:Nat)(o o':Obj):(m.upd g o).upd g o'=m.upd g o':=by
 funext h; by_cases e:h=g
 ·subst e; simp [PH.upd]
 ·simp [PH.upd,e]
theorem Jw {m:PH}(o:Obj)(h:m g=none):PH.le m (m.upd g o):=fun k x hk=>by
 by_cases e:k=g
 ·subst e; rw [h] at hk; cases hk
 ·rw [Ad _ _ e]; exact hk
def Az (es:List Value):List Value:=es.flatMap fun e=>e.cells.toList
def Uc (p:Value→Bool)(sz:Nat)(es:List Value):Prop:=∀ e∈es,e.cells.size=sz∧∀ x∈e.cells.toList,p x=true
abbrev A3 (sz:Nat)(es:List Value):Prop:=Uc Be sz es
theorem A2 {p:Value→Bool}{sz:Nat}:∀ {es:List Value},Uc p sz es→(Az es).length=es.length*sz
 | [],_=>by simp [Az]
 | e::es,h=>by
  have h1:=(h e (by simp)).1;have ih:=A2 (sz:=sz) (es:=es) (fun x hx=>h x (List.mem_cons_of_mem _ hx));unfold Az at ih ⊢;simp only [List.flatMap_cons,List.length_append,ih,List.length_cons,Array.length_toList,h1,Nat.add_mul,Nat.one_mul]; omega
theorem Co (a b:List Value):Az (a++b)=Az a++Az b:=by simp [Az]
theorem Ep (h:A3 sz es):∀ x∈Az es,Be x=true:=by
 intro x hx;obtain ⟨e,he,hx⟩:=List.mem_flatMap.1 hx;exact (h e he).2 x hx
theorem A3.append {a b:List Value}(h:A3 sz a)(k:A3 sz b):A3 sz (a++b):=fun e he=>(List.mem_append.1 he).elim (h e) (k e)
theorem Gm {p:Value→Bool}{sz:Nat}:∀ {es:List Value},Uc p sz es→∀ {j i:Nat} {e x:Value},es[j]?=some e→e.cells[i]?=some x→(Az es)[j*sz+i]?=some x
 | [],_,j,i,e,x,hj,_=>by simp at hj
 | d::es,h,j,i,e,x,hj,hi=>by
  have hd:=(h d (by simp)).1;have hr:Uc p sz es:=fun x hx=>h x (List.mem_cons_of_mem _ hx);have e1:Az (d::es)=d.cells.toList++Az es:=by simp [Az]
  rw [e1];cases j with
  | zero =>
   simp at hj; subst hj;have:i < d.cells.size:=(Array.getElem?_eq_some_iff.1 hi).1;rw [List.getElem?_append_left (by simp; omega)];simpa using hi
  | succ j =>
   simp at hj;rw [List.getElem?_append_right (by simp [hd,Nat.add_mul]; omega)];have:=Gm hr hj hi;rw [← this]; congr 1;simp [hd,Nat.add_mul]; omega
def Ae (m0 m:PH)(v:Value)(t:TypeId)(sz:Nat)(es:List Value):Prop :=
 A3 sz es∧((v=.slice none 0 0∧es = []∧m=m0) ∨
  ∃ g cap rest,m0 g=none∧m=m0.upd g (.cells (Az es++rest).toArray t (0,0))∧v=.slice (some ⟨g,0,none⟩) es.length cap∧es.length≤cap∧(Az es++rest).length=cap*sz∧∀ x∈rest,Be x=true)
theorem Ae.nil (m:PH)(t:TypeId)(sz:Nat):Ae m m (.slice none 0 0) t sz []:=⟨fun _ h=>absurd h (by simp),.inl ⟨rfl,rfl,rfl⟩⟩
theorem Ae.shape {m0 m:PH}(h:Ae m0 m v t sz es):∃ a cap,v=.slice a es.length cap:=by
 rcases h.2 with ⟨rfl,rfl,_⟩ | ⟨g,cap,rest,_,_,rfl,_⟩
 ·exact ⟨none,0,rfl⟩
 ·exact ⟨_,cap,rfl⟩
theorem Df {P:Program}{t e:TypeId}{sz bt:Nat}{z:Value}(h:Jq P t=some (e,sz,bt,z)):P.underlying t=some (.slice e)∧∃ i,P.info? e=some i∧i.zero=some z∧i.size=sz∧i.bytes=bt:=by
 unfold Jq at h;split at h
 ·rename_i e' hu;split at h
  ·rename_i i hi;split at h
   ·rename_i z' hz;simp at h;obtain ⟨rfl,rfl,rfl,rfl⟩:=h;exact ⟨hu,i,hi,hz,rfl,rfl⟩
   ·cases h
  ·cases h
 ·cases h
theorem G8 (h:z.toList.all Be=true)(n:Nat):∀ x∈(Builtin.zeroCells z n).toList,Be x=true:=by
 intro x hx;simp [Builtin.zeroCells] at hx;obtain ⟨i,hi,rfl⟩:=hx;rw [List.all_eq_true] at h;by_cases hz:z.size=0
 ·simp [hz] at hi
 ·have hlt:i % z.size < z.size:=Nat.mod_lt _ (by omega);refine h _ ?_;rw [getElem!_pos z _ hlt]; simp
theorem Ww (h:z.toList.all Be=true)(n:Nat)(hz:z.size≠0):∀ x∈(madeCells z n).toList,Be x=true:=by
 intro x hx;simp [madeCells] at hx;obtain ⟨i,hi,rfl⟩:=hx;rw [List.all_eq_true] at h;have hlt:i % z.size < z.size:=Nat.mod_lt _ (by omega);refine h _ ?_;rw [getElem!_pos z _ hlt]; simp
section worlds
variable {u m:PH} {w:World}
theorem Bx.newM (h:Bx u m w)(hw:∀ x∈cs.toList,Be x=true):Bx u (m.upd w.heap.size (.cells cs t (0,0))) (w.alloc (.cells cs t))∧Bz u m w u (m.upd w.heap.size (.cells cs t (0,0))) (w.alloc (.cells cs t))∧m w.heap.size=none∧u w.heap.size=none:=by
 have hm:m w.heap.size=none:=h.pm.none (Nat.le_refl _);have hu:u w.heap.size=none:=h.pu.none (Nat.le_refl _);have g1:=h.alloc (cs:=cs) (t:=t) (fr:=(0,0)) (fun j z e=>Ig (hw _ (by obtain ⟨hj,he⟩:=Array.getElem?_eq_some_iff.1 e; rw [← he]; simp)) z rfl);refine ⟨⟨g1.pu,fun g o hg=>?_,fun g=>?_,g1.cl⟩,⟨by rw [Br]; omega,fun g hg _=>A9 _ _ hg,fun _ _=>rfl,fun g hg hm=>by rw [Ad _ _ (by omega)]; exact hm,⟨rfl,rfl⟩,fun _=>⟨rfl,Nat.le_refl _⟩⟩,hm,hu⟩
 ·by_cases e:g=w.heap.size
  ·subst e; rw [Ac] at hg; rw [Ca]; exact hg
  ·rw [Ad _ _ e] at hg; exact g1.pm g o hg
 ·by_cases e:g=w.heap.size
  ·subst e; exact .inl hu
  ·rw [Ad _ _ e]; exact h.ap g
theorem Bx.drew' (h:Bx u m w):Bx u m w.drew:=⟨h.pu,h.pm,h.ap,h.cl⟩
theorem Bx.less (h:Bx u m w){m':PH}(hl:PH.le m' m):Bx u m' w:=by
 refine ⟨h.pu,fun g o hg=>h.pm g o (hl g o hg),fun g=>(h.ap g).imp id fun e=>?_,h.cl⟩;cases hg:m' g with
 | none=>rfl
 | some o=>rw [hl g o hg] at e; cases e
theorem Bx.setM (h : Bx u m w)  {cs cs' : Array Value}  (hg : m g = some (.cells cs t (0, 0))) (hw : ∀ x ∈ cs'.toList, Be x = true) : Bx u (m.upd g (.cells cs' t (0, 0))) (w.setRow g cs') ∧ Bz u m w u (m.upd g (.cells cs' t (0, 0))) (w.setRow g cs') := by
  have hb := h.pm g _ hg
  have hug : u g = none := by rcases h.ap g with e | e
                              · exact e
                              · rw [hg] at e; cases e
  have hsame := setRow_heap w g cs cs' t (0, 0) hb
  have hother : ∀ k, k ≠ g → (w.setRow g cs').heap[k]? = w.heap[k]? := fun k hk => setRow_other w g k cs' hk
  refine ⟨⟨fun k o hk => ?_, fun k o hk => ?_, fun k => ?_, fun k cs1 t1 fr1 j z hk hj => ?_⟩, ⟨by rw [setRow_size]; exact Nat.le_refl _, fun k hk hm => hother k (fun e => by rw [e, hg] at hm; cases hm), fun _ _ => rfl, fun k hk hm => by rw [Ad _ _ (fun e => by rw [e, hg] at hm; cases hm)]; exact hm, ⟨rfl, rfl⟩, fun _ => ⟨rfl, Nat.le_refl _⟩⟩⟩
  · rw [hother k (fun e => by rw [e, hug] at hk; cases hk)]; exact h.pu k o hk
  · by_cases e : k = g
    · subst e; rw [Ac] at hk; rw [hsame]; exact hk
    · rw [Ad _ _ e] at hk; rw [hother k e]; exact h.pm k o hk
  · by_cases e : k = g
    · subst e; exact .inl hug
    · rw [Ad _ _ e]; exact h.ap k
  · by_cases e : k = g
    · subst e
      rw [hsame] at hk
      simp only [Option.some.injEq, Obj.cells.injEq] at hk
      obtain ⟨rfl, _, _⟩ := hk
      obtain ⟨hlt, he⟩ := Array.getElem?_eq_some_iff.1 hj
      exact absurd he (Ig (hw _ (by simp)) z)
    · rw [hother k e] at hk; exact h.cl k cs1 t1 fr1 j z hk hj
theorem Bx.newU (h:Bx u m w)(o:Obj):Bx (u.upd w.heap.size o) m (w.alloc o)∧Bz u m w (u.upd w.heap.size o) m (w.alloc o)∧m w.heap.size=none∧u w.heap.size=none:=by
 have hm:m w.heap.size=none:=h.pm.none (Nat.le_refl _);have hu:u w.heap.size=none:=h.pu.none (Nat.le_refl _);refine ⟨⟨fun g o' hg=>?_,fun g o' hg=>?_,fun g=>?_,fun g cs t fr j z hg hj=>?_⟩,⟨by rw [Br]; omega,fun g hg _=>A9 _ _ hg,fun g hg=>Ad _ _ (by omega),fun g hg hm=>hm,⟨rfl,rfl⟩,fun _=>⟨rfl,Nat.le_refl _⟩⟩,hm,hu⟩
 ·by_cases e:g=w.heap.size
  ·subst e; rw [Ac] at hg; rw [Ca]; exact hg
  ·rw [Ad _ _ e] at hg; rw [A9 _ _ (h.pu.lt hg)]; exact h.pu g o' hg
 ·rw [A9 _ _ (h.pm.lt hg)]; exact h.pm g o' hg
 ·by_cases e:g=w.heap.size
  ·subst e; exact .inr hm
  ·rw [Ad _ _ e]; exact h.ap g
 ·by_cases e:g=w.heap.size
  ·subst e; rw [Ca] at hg; rw [Ac]; exact hg
  ·rw [Ad _ _ e];have hlt:=Bw hg;rw [Br] at hlt;rw [A9 _ _ (by omega)] at hg;exact h.cl g cs t fr j z hg hj
end worlds
def El (u:PH)(b off sz:Nat)(xs:List Value):Prop:=∀ j e,xs[j]?=some e→ElP u b (off+j*sz) e
theorem El.mono {u u':PH}{b off sz:Nat}{xs:List Value}(h:El u b off sz xs)(hl:PH.le u u'):El u' b off sz xs:=fun j e hj=>(h j e hj).mono hl
theorem To {sz:Nat}(hs:0 < sz):∀ {xs:List Value},A3 sz xs→∀ {k:Nat} {x:Value},(Az xs)[k]?=some x→∃ j i e,k=j*sz+i∧xs[j]?=some e∧e.cells[i]?=some x
 | [],_,k,x,h=>by simp [Az] at h
 | d::xs,ho,k,x,h=>by
  have hd:=(ho d (by simp)).1;have e1:Az (d::xs)=d.cells.toList++Az xs:=by simp [Az]
  rw [e1,List.getElem?_append] at h;split at h
  ·exact ⟨0,k,d,by simp,by simp,by simpa using h⟩
  ·rename_i hk;obtain ⟨j,i,e,h1,h2,h3⟩:=To hs (fun x hx=>ho x (List.mem_cons_of_mem _ hx)) h;refine ⟨j+1,i,e,?_,by simpa using h2,h3⟩;simp [hd] at h1 hk;rw [Nat.add_mul]; omega
theorem El.cells {u:PH}{w:World}{b off sz:Nat}(hs:0 < sz)(h:El u b off sz xs)(ho:A3 sz xs)(hp:Eb u w):∀ j v,(Az xs)[j]?=some v→w.cell? ((⟨b,off,none⟩:Addr).add j)=some v:=by
 intro k x hk;obtain ⟨j,i,e,rfl,h2,h3⟩:=To hs ho hk;rw [Db];have:=(h j e h2 i x h3).cell hp;rw [show off+(j*sz+i)=off+j*sz+i by omega]; exact this
section rules
variable {P:Program} [Ba P] {fn:Func} {Post:B0} {st:List KI×S} {u m:PH}
theorem Bq {w w':World}{K:Value→World→Prop}(h:(execOp env o).run P w=.ok (.value v) w')(hk:K v w'):D3 P env o w K:=by
 unfold D3; rw [h]; exact hk
theorem Dl {inf:Option (TypeId×Nat×Nat×Value)}(h:A7 P env o.op=.app inf true xs):Ke o.op=true∧D6 o.op=false∧∃ t,Jq P t=inf∧∀ w,(execOp env o).run P w=((Builtin.append_ #[t,t] o.type xs.toArray).run P w).andThen fun v w'=>.ok (.value v) w':=by
 obtain ⟨dst,opp,type,pos,after,guard⟩:=o;simp only at h ⊢;cases opp <;> simp only [A7] at h <;> try cases h
 ·split at h <;> cases h
 rename_i c;obtain ⟨cal,args,tys⟩:=c;simp only at h;split at h
 ·split at h <;> cases h
 ·rename_i b;split at h
  ·split at h
   ·rename_i t t' htt;simp only [S2.app.injEq] at h;obtain ⟨rfl,h2,rfl⟩:=h;have:=Nat.eq_of_beq_eq_true h2;subst this;have hty:tys = #[t,t]:=by apply Array.ext'; simpa using htt
    refine ⟨rfl,rfl,t,rfl,fun w=>?_⟩;have:(args.map env)=(args.toList.map env).toArray:=by apply Array.ext'; simp
    simp [execOp,resolve,invoke,builtin,hty,this]
   ·cases h
  ·cases h
 ·cases h
theorem Nm {t e:TypeId}{sz bt:Nat}{z:Value}(m0:PH)(es xs:List Value)(v:Value)(b off n c:Nat)(ty:TypeId)(hi:Jq P t=some (e,sz,bt,z))(hz:z.cells.toList.all Be=true)(hzs:z.cells.size=sz)(hsz:0 < sz)
  (ha:Ae m0 m v e sz es) (ho:A3 sz xs) (hn:xs.length=n) (hn0:0 < n) (hb:(es.length+n)*bt≤140737488355328) (hb2:es.length+n≤9223372036854775807) {w:World} (hgd:Bx u m w)
  (hsrc:∀ j v,(Az xs)[j]?=some v→w.cell? ((⟨b,off,none⟩:Addr).add j)=some v) :
  ∃ v' w' m',(Builtin.append_ #[t,t] ty #[v,.slice (some ⟨b,off,none⟩) n c]).run P w=.ok v' w'∧Bx u m' w'∧Bz u m w u m' w'∧Ae m0 m' v' e sz (es++xs):=by
 obtain ⟨hu,i,hi1,hi2,rfl,rfl⟩:=Df hi;have hfl:=A2 ho;have hok:=ha.1.append ho;rcases ha.2 with ⟨rfl,rfl,rfl⟩ | ⟨g,cap,rest,hg0,rfl,rfl,hcap,hlen,hrest⟩
 ·simp only [List.length_nil,Nat.zero_add] at hb hb2;have hr:=run_append_nil (P:=P) w t ty e i z hu hi1 hi2 ⟨b,off,none⟩ n c (Az xs) (by rw [hfl,hn]) hsrc hn0 (by omega) (by omega);have hcell:∀ x∈((Az xs).toArray++Builtin.zeroCells z.cells (grownCap w n 0 e - n)).toList,Be x=true:=fun x hx=>by
   simp only [Array.toList_append,List.mem_append] at hx;rcases hx with hx | hx
   ·exact Ep ho x hx
   ·exact G8 hz _ x hx
  obtain ⟨g1,g2,g3,_⟩:=hgd.drew'.newM (t:=e) hcell;refine ⟨_,_,_,hr,g1,⟨g2.sz,g2.old,g2.us,g2.ms,g2.io,fun f=>⟨(g2.dr f).tape,Nat.le_of_succ_le (g2.dr f).dr⟩⟩,hok,.inr ⟨w.heap.size,grownCap w n 0 e,(Builtin.zeroCells z.cells (grownCap w n 0 e - n)).toList,g3,?_,?_,?_,?_,G8 hz _⟩⟩
  ·congr 2; apply Array.ext'; simp
  ·simp [hn]
  ·simp only [List.nil_append,hn]; exact grownCap_ge w n 0 e
  ·have:=grownCap_ge w n 0 e;simp only [List.nil_append,List.length_append,hfl,hn,Array.length_toList,size_zeroCells,hzs];rw [← Nat.add_mul]; congr 1; omega
 ·have hgw:=hgd.pm g _ (Ac _ _ _);have hfe:=A2 ha.1;by_cases hroom:es.length+n≤cap
  ·have hle:(es.length+n)*i.size≤cap*i.size:=Nat.mul_le_mul_right _ hroom;rw [Nat.add_mul] at hle;have hr:=run_append_room (P:=P) w t ty e i hu hi1 g es.length cap (Az es++rest).toArray hgw ⟨b,off,none⟩ n c (Az xs) (by rw [hfl,hn]) hsrc (fun x hx=>H2 (Ep ho x hx)) hroom (by simp only [List.size_toArray]; rw [hlen,hfl,hn]; omega);have e1:(Az es++rest).toArray.toList.take (es.length*i.size)=Az es:=by
    simp only [List.toList_toArray]; rw [← hfe,List.take_left]
   rw [e1] at hr;have hd:∀ x∈(Az es++rest).toArray.toList.drop (es.length*i.size+(Az xs).length),Be x=true:=by
    intro x hx;simp only [List.toList_toArray] at hx;rw [← hfe,← List.drop_drop,List.drop_left] at hx;exact hrest x (List.mem_of_mem_drop hx)
   have hcell:∀ x∈(Az es++Az xs++(Az es++rest).toArray.toList.drop (es.length*i.size+(Az xs).length)).toArray.toList,Be x=true:=by
    intro x hx;simp only [List.toList_toArray] at hx;rcases List.mem_append.1 hx with hx | hx
    ·rcases List.mem_append.1 hx with hx | hx
     ·exact Ep ha.1 x hx
     ·exact Ep ho x hx
    ·exact hd x (by simpa using hx)
   obtain ⟨g1,g2⟩:=hgd.setM (Ac _ _ _) hcell;rw [Dh] at g1 g2;refine ⟨_,_,_,hr,g1,g2,hok,.inr ⟨g,cap,_,hg0,by rw [Co],by simp [hn],by simp [hn]; exact hroom,?_,hd⟩⟩;rw [Co];simp only [List.length_append,hfe,hfl,hn,List.toList_toArray,List.length_drop];simp only [List.length_append,hfe] at hlen;omega
  ·have hold:∀ j v,(Az es)[j]?=some v→w.cell? ((⟨g,0,none⟩:Addr).add j)=some v:=by
    intro j x hj;rw [Db];simp [World.cell?,hgw];rw [List.getElem?_append_left (by obtain ⟨h,_⟩:=List.getElem?_eq_some_iff.1 hj; exact h)]; exact hj
   have hr:=run_append_grow (P:=P) w t ty e i z hu hi1 hi2 ⟨g,0,none⟩ es.length cap (Az es) hfe hold ⟨b,off,none⟩ n c (Az xs) (by rw [hfl,hn]) hsrc (by omega) (by omega) (growslice_fits (by omega) hb);have hcell:∀ x∈((Az es).toArray++(Az xs).toArray++Builtin.zeroCells z.cells (grownCap w (es.length+n) cap e - (es.length+n))).toList,Be x=true:=fun x hx=>by
    simp only [Array.toList_append,List.mem_append] at hx;rcases hx with (hx | hx) | hx
    ·exact Ep ha.1 x hx
    ·exact Ep ho x hx
    ·exact G8 hz _ x hx
   obtain ⟨g1,g2,g3,_⟩:=hgd.drew'.newM (t:=e) hcell;have hdsz:w.drew.heap.size=w.heap.size:=rfl;rw [hdsz] at g1 g2 g3;have hng:w.heap.size≠g:=fun h=>by have:=Bw hgw; omega
   have hm0:m0 w.heap.size=none:=by
    have:=g3;rw [Ad _ _ hng] at this; exact this
   refine ⟨_,_,m0.upd w.heap.size (.cells ((Az es).toArray++(Az xs).toArray++Builtin.zeroCells z.cells (grownCap w (es.length+n) cap e - (es.length+n))) e (0,0)),hr,g1.less (fun k o hk=>?_),⟨g2.sz,g2.old,g2.us,fun k hk hmk=>?_,g2.io,fun f=>⟨(g2.dr f).tape,Nat.le_of_succ_le (g2.dr f).dr⟩⟩,hok,.inr ⟨w.heap.size,grownCap w (es.length+n) cap e,(Builtin.zeroCells z.cells (grownCap w (es.length+n) cap e - (es.length+n))).toList,hm0,?_,?_,?_,?_,G8 hz _⟩⟩
   ·by_cases hk1:k=w.heap.size
    ·subst hk1; rw [Ac] at hk ⊢; exact hk
    ·rw [Ad _ _ hk1] at hk ⊢;rw [Ad _ _ (fun h=>by rw [h,hg0] at hk; cases hk)]; exact hk
   ·rw [Ad _ _ (by omega)];by_cases hkg:k=g
    ·rw [hkg]; exact hg0
    ·rw [Ad _ _ hkg] at hmk; exact hmk
   ·congr 2; apply Array.ext'; simp [Co]
   ·simp [hn]
   ·simp only [List.length_append,hn]; exact grownCap_ge w _ cap e
   ·have:=grownCap_ge w (es.length+n) cap e;rw [Co];simp only [List.length_append,hfl,hfe,hn,Array.length_toList,size_zeroCells,hzs];rw [← Nat.add_mul,← Nat.add_mul]; congr 1; omega
theorem G.append (e:TypeId)(sz bt:Nat)(z:Value)(m0:PH)(es xs:List Value)(v:Value)(b off n c:Nat)(h:Al P (adv P st)=.app (some (e,sz,bt,z)) true [v,.slice (some ⟨b,off,none⟩) n c])(hz:z.cells.toList.all Be=true)(hzs:z.cells.size=sz)(hsz:0 < sz)
  (ha:Ae m0 m v e sz es) (hx:El u b off sz xs) (ho:A3 sz xs) (hn:xs.length=n) (hn0:0 < n) (hb:(es.length+n)*bt≤140737488355328) (hb2:es.length+n≤9223372036854775807)
  (k:∀ v' m',Ae m0 m' v' e sz (es++xs)→G P fn Post (nx (adv P st) v') u m'):G P fn Post st u m:=by
 refine G.big (K:=fun v' u' m'=>u'=u∧Ae m0 m' v' e sz (es++xs)) h (by simp) (fun env op hv=>(Dl (P:=P) (o:=⟨none,op,0, "",#[],none⟩) hv).2.1) (.inr fun env op hv=>(Dl (P:=P) (o:=⟨none,op,0, "",#[],none⟩) hv).1) (fun env o hview w hgd=>?_) (fun v' u' m' _ hk=>?_)
 ·obtain ⟨_,_,t,hi,hex⟩:=Dl (P:=P) hview;obtain ⟨v',w',m',h1,h2,h3,h4⟩:=Nm (P:=P) m0 es xs v b off n c o.type hi hz hzs hsz ha ho hn hn0 hb hb2 hgd (hx.cells hsz ho hgd.pu);exact Bq (by rw [hex,h1]; rfl) ⟨u,m',h2,h3,rfl,h4⟩
 ·obtain ⟨rfl,hk⟩:=hk;exact k v' m' hk
end rules
end
section
variable [Cc]
open Go.RowKit
variable {P : Program} [Ba P] {fn : Func} {Post : B0} {st : List KI × S} {u m : PH}
theorem G.k (e : TypeId) (sz bt : Nat) (z : Value) (m0 : PH) (es xs : List Value) (v : Value) (b off n c : Nat) (ha : Ae m0 m v e sz es) (hx : El u b off sz xs) (ho : A3 sz xs) (k : ∀ v' m', Ae m0 m' v' e sz (es ++ xs) → G P fn Post (nx (adv P st) v') u m') (h : Al P (adv P st) = .app (some (e, sz, bt, z)) true [v, .slice (some ⟨b, off, none⟩) n c] := by kernel_rfl) (hz : z.cells.toList.all Be = true := by rfl) (hzs : z.cells.size = sz := by rfl) (hsz : 0 < sz := by omega) (hn : xs.length = n := by rfl) (hn0 : 0 < n := by omega) (hb : (es.length + n) * bt ≤ 140737488355328 := by simp; omega) (hb2 : es.length + n ≤ 9223372036854775807 := by simp; omega) : G P fn Post st u m := G.append e sz bt z m0 es xs v b off n c h hz hzs hsz ha hx ho hn hn0 hb hb2 k
end
section
variable {c j n sz:Nat}{e x y:Value}{env:Operand→Value}{es:List Value}{inf:Option (TypeId×Nat×Nat×Value)}{m0:PH}{o:Op}{t:TypeId}
variable [Cc] [Dy]
open Go.RowKit
section fill
theorem Oz {p:Value→Bool}{sz:Nat}:∀ (es:List Value) (k:Nat) (cells:Array Value),Uc p sz es→(k+es.length)*sz≤cells.size →
  Instr.fill (fun i=>some (i*sz,sz)) cells (es.zipIdx k |>.map fun p=>(p.2,p.1))=some (cells.toList.take (k*sz)++Az es++cells.toList.drop ((k+es.length)*sz)).toArray
 | [],k,cells,_,h=>by simp [Instr.fill,Az]
 | e::es,k,cells,ho,h=>by
  have h1:=(ho e (by simp)).1;have ho':Uc p sz es:=fun x hx=>ho x (List.mem_cons_of_mem _ hx);have hm:(k+(es.length+1))*sz=k*sz+sz+es.length*sz:=by rw [Nat.add_mul,Nat.add_mul]; omega
  simp only [List.length_cons] at h;rw [hm] at h;simp only [List.zipIdx_cons,List.map_cons];rw [Vg _ _ _ (k*sz) sz _ _ rfl h1 (by omega)];rw [Oz es (k+1) _ ho' (by simp [h1]; rw [Nat.add_mul,Nat.add_mul]; omega)]
  congr 2
  have hl:(cells.toList.take (k*sz)++e.cells.toList).length=(k+1)*sz:=by simp [h1,Nat.add_mul]; omega
  have e1:(cells.toList.take (k*sz)++e.cells.toList++cells.toList.drop (k*sz+sz)).toArray.toList.take ((k+1)*sz)=cells.toList.take (k*sz)++e.cells.toList:=by
   simp only [List.toList_toArray]; rw [← hl,List.take_left]
  have e2:(cells.toList.take (k*sz)++e.cells.toList++cells.toList.drop (k*sz+sz)).toArray.toList.drop ((k+1+es.length)*sz)=cells.toList.drop ((k+(es.length+1))*sz):=by
   simp only [List.toList_toArray];rw [show (k+1+es.length)*sz=(k+1)*sz+es.length*sz by rw [Nat.add_mul],← hl,← List.drop_drop,List.drop_left,List.drop_drop]
   congr 1; rw [hm]
  rw [e1,e2];simp [Az]
end fill
section rules
variable {P:Program} [Ba P] {fn:Func} {Post:B0} {st:List KI×S} {u m:PH}
theorem E1 {ps:List (Nat×Value)}(h:A7 P env o=.buildS inf n ps):∃ t qs,o=.buildSlice t n qs∧(qs.map fun (i,x)=>(i,env x))=ps.toArray∧Jq P t=inf:=by
 cases o <;> simp only [A7] at h <;> try cases h
 any_goals ((repeat' split at h) <;> cases h; done)
 ·exact ⟨_,_,rfl,by apply Array.ext'; simp,rfl⟩
theorem Vh (h:A7 P env o=.make inf x y):∃ t X Y,o=.makeSlice t X Y∧env X=x∧env Y=y∧Jq P t=inf:=by
 cases o <;> simp only [A7] at h <;> try cases h
 any_goals ((repeat' split at h) <;> cases h; done)
 ·exact ⟨_,_,_,rfl,rfl,rfl,rfl⟩
theorem Gc {sz:Option Nat}(h:A7 P env o=.store sz x y):∃ t X Y,o=.store t X Y∧env X=x∧env Y=y∧szB P t=sz:=by
 cases o <;> simp only [A7] at h <;> try cases h
 any_goals ((repeat' split at h) <;> cases h; done)
 ·exact ⟨_,_,_,rfl,rfl,rfl,rfl⟩
theorem G.buildW {p:Value→Bool}(e:TypeId)(sz bt:Nat)(z:Value)(es:List Value)(h:Al P (adv P st)=.buildS (some (e,sz,bt,z)) es.length (es.zipIdx.map fun p=>(p.2,p.1)))(ho:Uc p sz es)(hzs:z.cells.size=sz)(hsz:0 < sz)(hn0:0 < es.length)(hb:es.length*sz≤16777216)
  (k:∀ g u',PH.le u u'→El u' g 0 sz es→G P fn Post (nx (adv P st) (.slice (some ⟨g,0,none⟩) es.length es.length)) u' m):G P fn Post st u m:=by
 refine G.big (K:=fun v' u' m'=>m'=m∧∃ g,v'=.slice (some ⟨g,0,none⟩) es.length es.length∧El u' g 0 sz es) h (by simp) (fun env op hv=>?_) (.inl fun v u' m' hk=>by rw [hk.1]; exact PH.le_refl _) (fun env o hview w hgd=>?_) (fun v' u' m' hle hk=>?_)
 ·obtain ⟨t,qs,rfl,_⟩:=E1 hv; rfl
 ·obtain ⟨t,qs,e1,e2,hi⟩:=E1 hview;obtain ⟨dst,opp,type,pos,after,guard⟩:=o;simp only at e1; subst e1;obtain ⟨hu,i,hi1,hi2,rfl,rfl⟩:=Df hi;obtain ⟨g1,g2,g3,g4⟩:=hgd.newU (.cells (Az es).toArray e (0,0));have hfl:=A2 ho;have hne:es.length*i.size≠0:=by have:=Nat.mul_pos hn0 hsz; omega
  have hfill:=Oz es 0 ((Array.range (es.length*i.size)).map (z.cells[· % z.cells.size]!)) ho (by simp);have e0:((Array.range (es.length*i.size)).map (z.cells[· % z.cells.size]!)).toList.drop (es.length*i.size) = []:=by
   apply List.drop_eq_nil_of_le; simp
  simp only [Nat.zero_mul,List.take_zero,List.nil_append,Nat.zero_add,e0,List.append_nil] at hfill;refine Bq (w':=w.alloc (.cells (Az es).toArray e (0,0))) (v:=.slice (some ⟨w.heap.size,0,none⟩) es.length es.length) ?_ ⟨_,m,g1,g2,rfl,_,rfl,?_⟩
  ·simp only [execOp,e2];simp [Instr.buildSlice,run_underlying hu,sizeOf,typeInfo,zeroValue,hi1,hi2,hne,hfill,newRow,show ¬ 16777216 < es.length*i.size by omega]
  ·intro j x hj ii y hy;refine ⟨_,_,_,Ac _ _ _,?_⟩;rw [List.getElem?_toArray,Nat.zero_add];exact Gm ho hj hy
 ·obtain ⟨rfl,g,rfl,hk⟩:=hk;exact k g u' hle hk
theorem G.buildU (e:TypeId)(sz bt:Nat)(z:Value)(es:List Value)(h:Al P (adv P st)=.buildS (some (e,sz,bt,z)) es.length (es.zipIdx.map fun p=>(p.2,p.1)))(ho:A3 sz es)(hzs:z.cells.size=sz)(hsz:0 < sz)(hn0:0 < es.length)(hb:es.length*sz≤16777216)
  (k:∀ g u',PH.le u u'→El u' g 0 sz es→G P fn Post (nx (adv P st) (.slice (some ⟨g,0,none⟩) es.length es.length)) u' m):G P fn Post st u m:=G.buildW e sz bt z es h ho hzs hsz hn0 hb k
theorem G.make (e : TypeId) (sz bt : Nat) (z : Value) (n : Nat) (h : Al P (adv P st) = .make (some (e, sz, bt, z)) (.int .i64 (n : Int)) (.int .i64 (n : Int))) (hz : z.cells.toList.all Be = true) (hzs : z.cells.size = sz) (hsz : 0 < sz)
    (hb : bt * n ≤ 281474976710656) (hb2 : n ≤ 9223372036854775807) (k : ∀ v' m', Ae m m' v' e sz (List.replicate n z) → (∃ a, v' = .slice (some a) n n) → G P fn Post (nx (adv P st) v') u m') : G P fn Post st u m := by
  refine G.big (K := fun v' u' m' => u' = u ∧ PH.le m m' ∧ Ae m m' v' e sz (List.replicate n z) ∧ ∃ a, v' = .slice (some a) n n) h (by simp) (fun env op hv => by obtain ⟨t, X, Y, rfl, _⟩ := Vh hv; rfl) (.inl fun v u' m' hk => hk.2.1) (fun env o hview w hgd => ?_) (fun v' u' m' hle hk => ?_)
  · obtain ⟨t, X, Y, e1, e2, e3, hi⟩ := Vh hview
    obtain ⟨dst, opp, type, pos, after, guard⟩ := o
    simp only at e1; subst e1
    obtain ⟨hu, i, hi1, hi2, rfl, rfl⟩ := Df hi
    have hb' : (i.bytes : Int) * (n : Int) ≤ 281474976710656 := by have : ((i.bytes * n : Nat) : Int) ≤ 281474976710656 := by omega
                                                                   rwa [Int.natCast_mul] at this
    have hr := run_make (P := P) w t e i z hu hi1 hi2 .i64 .i64 n n (by omega) (Int.le_refl _) hb' (by omega)
    simp only [Int.toNat_natCast] at hr
    obtain ⟨g1, g2, g3, g4⟩ := hgd.newM (t := e) (Ww hz (n * i.size) (by omega))
    have hok : A3 i.size (List.replicate n z) := fun x hx => by
      rw [List.eq_of_mem_replicate hx]
      exact ⟨hzs, fun y hy => by rw [List.all_eq_true] at hz; exact hz y hy⟩
    have hflat : (Az (List.replicate n z)).toArray = madeCells z.cells (n * i.size) := by
      apply Array.ext
      · rw [size_madeCells, List.size_toArray, A2 hok, List.length_replicate]
      · intro j h1 h2
        rw [size_madeCells] at h2
        have hlt : j % i.size < i.size := Nat.mod_lt _ hsz
        have hq : j / i.size < n := (Nat.div_lt_iff_lt_mul hsz).2 h2
        have hget := Gm hok (j := j / i.size) (i := j % i.size) (e := z) (x := z.cells[j % i.size]'(by omega)) (by simp [hq]) (by simp)
        rw [show j / i.size * i.size + j % i.size = j by rw [Nat.mul_comm]; exact Nat.div_add_mod _ _] at hget
        have : (Az (List.replicate n z)).toArray[j]? = some z.cells[j % i.size] := by rw [List.getElem?_toArray]; exact hget
        rw [Array.getElem?_eq_getElem h1] at this
        have h3 := Option.some.inj this
        rw [h3]
        simp only [madeCells, Array.getElem_map, Array.getElem_range, hzs]
        rw [getElem!_pos z.cells _ (by omega)]
    refine Bq (w' := w.alloc (.cells (madeCells z.cells (n * i.size)) e (0, 0))) (v := .slice (some ⟨w.heap.size, 0, none⟩) n n) ?_ ⟨u, _, g1, g2, rfl, Jw _ g3, ⟨hok, .inr ⟨w.heap.size, n, [], g3, ?_, by simp, by simp, ?_, by simp⟩⟩, _, rfl⟩
    · simp only [execOp, e2, e3]
      simp [hr]
    · rw [List.append_nil, hflat]
    · rw [List.append_nil, A2 hok, List.length_replicate]
  · obtain ⟨rfl, _, hk, ha⟩ := hk
    exact k v' m' hk ha
theorem Nv {sz:Nat}:∀ {es:List Value} {j:Nat} {e:Value},A3 sz es→e.cells.size=sz→j < es.length→Az (es.set j e)=(Az es).take (j*sz)++e.cells.toList++(Az es).drop (j*sz+sz)
 | [],j,e,_,_,h=>by simp at h
 | d::es,j,e,ho,he,h=>by
  have hd:=(ho d (by simp)).1;have e1:∀ d (l:List Value),Az (d::l)=d.cells.toList++Az l:=fun d l=>by simp [Az]
  cases j with
  | zero =>
   rw [List.set_cons_zero,e1,e1];have:d.cells.toList.length=sz:=by simpa using hd
   simp only [Nat.zero_mul,List.take_zero,List.nil_append,Nat.zero_add];rw [← this,List.drop_left]
  | succ j =>
   rw [List.set_cons_succ,e1,e1,Nv (sz:=sz) (fun x hx=>ho x (List.mem_cons_of_mem _ hx)) he (by simpa using h)];have hl:d.cells.toList.length=sz:=by simpa using hd
   rw [List.take_append,List.drop_append,hl];have a1:(j+1)*sz - sz=j*sz:=by rw [Nat.add_mul]; omega
   have a2:(j+1)*sz+sz - sz=j*sz+sz:=by rw [Nat.add_mul]; omega
   have b1:d.cells.toList.take ((j+1)*sz)=d.cells.toList:=List.take_of_length_le (by rw [hl,Nat.add_mul]; omega);have b2:d.cells.toList.drop ((j+1)*sz+sz) = []:=List.drop_eq_nil_of_le (by rw [hl,Nat.add_mul]; omega);rw [a1,a2,b1,b2];simp
theorem A3.set (h:A3 sz es)(he:e.cells.size=sz∧∀ x∈e.cells.toList,Be x=true):A3 sz (es.set j e):=by
 intro x hx;rcases List.mem_or_eq_of_mem_set hx with hx | rfl
 ·exact h x hx
 ·exact he
theorem G.storeA {t:TypeId}(sz:Nat)(m0:PH)(es:List Value)(b n c j:Nat)(e:Value)(h:Al P (adv P st)=.store (some sz) (.pointer (some ⟨b,0+j*sz,none⟩)) e)(ha:Ae m0 m (.slice (some ⟨b,0,none⟩) n c) t sz es)(hj:j < es.length)(he:e.cells.size=sz)(hc:e.cells.toList.all Be=true)
  (k:∀ m',Ae m0 m' (.slice (some ⟨b,0,none⟩) n c) t sz (es.set j e)→G P fn Post (nx (adv P st) undef) u m'):G P fn Post st u m:=by
 refine G.big (K:=fun v' u' m'=>u'=u∧v'=undef∧Ae m0 m' (.slice (some ⟨b,0,none⟩) n c) t sz (es.set j e)) h (by simp) (fun env op hv=>?_) (.inr fun env op hv=>?_) (fun env o hview w hgd=>?_) (fun v' u' m' _ hk=>?_)
 ·obtain ⟨t',X,Y,rfl,_⟩:=Gc hv; rfl
 ·obtain ⟨t',X,Y,rfl,_⟩:=Gc hv; rfl
 ·obtain ⟨t',X,Y,e1,e2,e3,ht⟩:=Gc hview;obtain ⟨dst,opp,type,pos,after,guard⟩:=o;simp only at e1; subst e1;rw [List.all_eq_true] at hc;rcases ha.2 with ⟨hv,_⟩ | ⟨g,cap,rest,hg0,rfl,hv,hcap,hlen,hrest⟩
  ·simp at hv
  ·simp only [Value.slice.injEq,Option.some.injEq,Addr.mk.injEq,and_true] at hv;obtain ⟨rfl,rfl,rfl⟩:=hv;have hgw:=hgd.pm b _ (Ac _ _ _);have hfe:=A2 ha.1;have hjm:j*sz+sz≤es.length*sz:=by
    have:=Nat.mul_le_mul_right sz (show j+1≤es.length by omega);rw [Nat.add_mul] at this; omega
   have hst:=run_storeCells_at P b (j*sz) t e.cells.toList 0 (Az es++rest).toArray w hgw (by simp [he,hfe]; omega) (fun x hx=>H2 (hc x hx));simp only [Nat.add_zero,Array.length_toList,he,List.toList_toArray] at hst;have ecells:(Az es++rest).take (j*sz)++e.cells.toList++(Az es++rest).drop (j*sz+sz)=Az (es.set j e)++rest:=by
    rw [Nv ha.1 he hj,List.take_append_of_le_length (by omega),List.drop_append_of_le_length (by omega)];simp
   rw [ecells] at hst;have hok:=ha.1.set (j:=j) (e:=e) ⟨he,hc⟩;have hcell:∀ x∈(Az (es.set j e)++rest).toArray.toList,Be x=true:=by
    intro x hx;simp only [List.toList_toArray,List.mem_append] at hx;exact hx.elim (Ep hok x) (hrest x)
   obtain ⟨g1,g2⟩:=hgd.setM (Ac _ _ _) hcell;rw [Dh] at g1 g2;unfold D3;have hex:(execOp env ⟨dst,.store t' X Y,type,pos,after,guard⟩).run P w=.ok .skip (w.setRow b (Az (es.set j e)++rest).toArray):=by
    simp only [execOp,e2,e3];simp [Instr.storeAt,Instr.sureAddr,storeVar,Bf ht,he,hst]
   rw [hex];refine ⟨u,_,g1,g2,rfl,rfl,hok,.inr ⟨b,c,rest,hg0,rfl,by simp,by simpa using hcap,?_,hrest⟩⟩;simp only [List.length_append,A2 hok,List.length_set,hfe] at hlen ⊢;exact hlen
 ·obtain ⟨rfl,rfl,hk⟩:=hk;exact k m' hk
theorem Ae.el {b n c j:Nat}(ha:Ae m0 m (.slice (some ⟨b,0,none⟩) n c) t sz es)(hj:es[j]?=some e):ElP m b (0+j*sz) e:=by
 rcases ha.2 with ⟨hv,_⟩ | ⟨g,cap,rest,hg0,rfl,hv,hcap,hlen,hrest⟩
 ·simp at hv
 ·simp only [Value.slice.injEq,Option.some.injEq,Addr.mk.injEq,and_true] at hv;obtain ⟨rfl,rfl,rfl⟩:=hv;intro i x hx;refine ⟨_,_,_,Ac _ _ _,?_⟩;rw [List.getElem?_toArray,Nat.zero_add];have:=Gm ha.1 hj hx;rw [List.getElem?_append_left (by obtain ⟨h,_⟩:=List.getElem?_eq_some_iff.1 this; exact h)]; exact this
theorem Ae.len {a:Option Addr}(ha:Ae m0 m (.slice a n c) t sz es):n=es.length:=by
 rcases ha.2 with ⟨hv,rfl,_⟩ | ⟨g,cap,rest,hg0,rfl,hv,_⟩
 ·simp at hv; simp [hv.2.1]
 ·simp at hv; exact hv.2.1
theorem Ae.ptr {v:Value}(ha:Ae m0 m v t sz es)(h:es≠[]):∃ b c,v=.slice (some ⟨b,0,none⟩) es.length c:=by
 rcases ha.2 with ⟨_,rfl,_⟩ | ⟨g,cap,rest,hg0,rfl,hv,_⟩
 ·exact absurd rfl h
 ·exact ⟨g,cap,hv⟩
def Ab (u:PH)(v:Value)(sz:Nat)(es:List Value):Prop:=∃ a c,v=.slice a es.length c∧es.length≤c∧∀ j e,es[j]?=some e→∃ b off,a=some ⟨b,off,none⟩∧ElP u b (off+j*sz) e
theorem Ab.mono {u u':PH}{v:Value}{sz:Nat}{es:List Value}(h:Ab u v sz es)(hl:PH.le u u'):Ab u' v sz es:=by
 obtain ⟨a,c,h1,h2,h3⟩:=h;exact ⟨a,c,h1,h2,fun j e hj=>by obtain ⟨b,off,e1,e2⟩:=h3 j e hj; exact ⟨b,off,e1,e2.mono hl⟩⟩
theorem Ab.nil (u:PH)(a:Option Addr)(c sz:Nat):Ab u (.slice a 0 c) sz []:=⟨a,c,rfl,Nat.zero_le _,fun j e h=>by simp at h⟩
theorem G.give (m0:PH)(es:List Value)(v:Value)(h:Fd (ctl P 100 st).1=true)(ha:Ae m0 m v t sz es)(h0:∀ g,Post.m0 g=none∨m0 g≠none)(k:∀ u',PH.le u u'→Ab u' v sz es→G P fn Post (ctl P 100 st) u' m0):G P fn Post st u m:=by
 refine ⟨Is 100 st ?_⟩;rcases ha.2 with ⟨rfl,rfl,rfl⟩ | ⟨g,cap,rest,hg0,rfl,rfl,hcap,hlen,hrest⟩
 ·exact (k u (PH.le_refl _) (Ab.nil _ _ _ _)).out
 ·have hle:∀ o,u g=none→PH.le u (u.upd g o):=fun o hu=>Jw o hu;rw [Sym.ofNo h];intro c ρ a w hm0 hr;have hgw:=hr.gd.pm g _ (Ac _ _ _);have hug:u g=none:=by
   rcases hr.gd.ap g with e | e
   ·exact e
   ·rw [Ac] at e; cases e
  have hnew:c.w0.heap.size≤g:=by
   rcases Nat.lt_or_ge g c.w0.heap.size with hlt | hge
   ·have hpm:c.m0 g=none:=by
     rw [hm0];rcases h0 g with e | e
     ·exact e
     ·exact absurd hg0 e
    have:=hr.gr.ms g hlt hpm;rw [Ac] at this; cases this
   ·exact hge
  have hk:=k (u.upd g (.cells (Az es++rest).toArray t (0,0))) (hle _ hug) ⟨_,_,rfl,hcap,fun j e hj=>⟨g,0,rfl,fun i x hx=>⟨_,_,_,Ac _ _ _,by
   rw [List.getElem?_toArray,Nat.zero_add];have:=Gm ha.1 hj hx;rw [List.getElem?_append_left (by obtain ⟨h,_⟩:=List.getElem?_eq_some_iff.1 this; exact h)]; exact this⟩⟩⟩
  have hk:=hk.out;rw [Sym.ofNo h] at hk;refine hk c ρ a w hm0 ⟨hr.sz,hr.tm,hr.df.of fun r e _ hu hm=>(by
   have hne:r≠g:=fun e'=>(by rw [e',Ac] at hm; cases hm);rw [Ad _ _ hne] at hm;exact ⟨e,by rw [Ad _ _ hne]; exact hu,hm⟩),fun kk b hb=>?_,hr.inj,hr.lv,⟨fun g' o hg=>?_,fun g' o hg=>?_,fun g'=>?_,fun g' cs t' fr j z hg hj=>?_⟩,⟨hr.gr.sz,hr.gr.old,fun g' hg=>?_,fun g' hg hm=>?_,hr.gr.io,hr.gr.dr⟩⟩
  ·obtain ⟨e1,e2,e3,e4⟩:=hr.box kk b hb;have hne:ρ kk≠g:=fun e=>by rw [e,Ac] at e4; cases e4
   refine ⟨e1,e2,by rw [Ad _ _ hne]; exact e3,?_⟩;rw [Ad _ _ hne] at e4; exact e4
  ·by_cases e:g'=g
   ·subst e; rw [Ac] at hg; rw [hgw]; exact hg
   ·rw [Ad _ _ e] at hg; exact hr.gd.pu g' o hg
  ·refine hr.gd.pm g' o ?_;rw [Ad _ _ (fun e=>by rw [e,hg0] at hg; cases hg)]; exact hg
  ·by_cases e:g'=g
   ·subst e; exact .inr hg0
   ·rw [Ad _ _ e];have:=hr.gd.ap g';rw [Ad _ _ e] at this; exact this
  ·by_cases e:g'=g
   ·subst e; rw [Ac,← hgw]; exact hg
   ·rw [Ad _ _ e]; exact hr.gd.cl g' cs t' fr j z hg hj
  ·rw [Ad _ _ (by omega)]; exact hr.gr.us g' hg
  ·have:=hr.gr.ms g' hg hm;rw [Ad _ _ (by omega)] at this; exact this
end rules
end
section
variable [Cc]
open Go.RowKit
variable {P : Program} [Ba P] {fn : Func} {Post : B0} {st : List KI × S} {u m : PH}
theorem G.B (e : TypeId) (sz bt : Nat) (z : Value) (es : List Value) (ho : A3 sz es) (k : ∀ g u', PH.le u u' → El u' g 0 sz es → G P fn Post (nx (adv P st) (.slice (some ⟨g, 0, none⟩) es.length es.length)) u' m) (h : Al P (adv P st) = .buildS (some (e, sz, bt, z)) es.length (es.zipIdx.map fun p => (p.2, p.1)) := by kernel_rfl) (hzs : z.cells.size = sz := by rfl) (hsz : 0 < sz := by omega) (hn0 : 0 < es.length := by simp) (hb : es.length * sz ≤ 16777216 := by simp) : G P fn Post st u m := G.buildU e sz bt z es h ho hzs hsz hn0 hb k
end
section
variable {a:Option Addr}{c n:Nat}{env:Operand→Value}{l:List Nat}{o:Op}
variable [Cc] [Dy]
open Go.RowKit
section rules
variable {P:Program} [Ba P] {fn:Func} {Post:B0} {st:List KI×S} {u m:PH}
theorem H4 {sz:Option Nat}{x:Value}{lo hi mx:Option Value}(h:A7 P env o=.slice sz x lo hi mx):∃ t X L H M,o=.slice t X L H M∧env X=x∧L.map env=lo∧H.map env=hi∧M.map env=mx∧Kq P t=sz:=by
 cases o <;> simp only [A7] at h <;> try cases h
 any_goals ((repeat' split at h) <;> cases h; done)
 ·exact ⟨_,_,_,_,_,rfl,rfl,rfl,rfl,rfl,rfl⟩
theorem T6 (a:Option Addr):a.map (·.add 0)=a:=by cases a <;> rfl
theorem G.sliceTo (sz:Nat)(a:Option Addr)(n c k:Nat)(h:Al P (adv P st)=.slice (some sz) (.slice a n c) none (some (.int .i64 (k:Int))) none)(hk:k≤c)
  (g:G P fn Post (nx (adv P st) (.slice a k c)) u m):G P fn Post st u m:=by
 refine G.ask h (by simp) (fun env o hview w hp=>?_) g;obtain ⟨t,X,L,H,M,e1,e2,e3,e4,e5,hsz⟩:=H4 hview;obtain ⟨dst,opp,type,pos,after,guard⟩:=o;simp only at e1; subst e1;unfold Kq at hsz;split at hsz
 ·rename_i e hu;have h1:(0:Int)≤k∧(k:Int)≤c:=by omega
  simp only [execOp,e2,e3,e4,e5];simp only [Instr.sliceAt,Sem.run_bind,run_underlying hu,Result.andThen_ok,Instr.slice,Instr.sliceBounds,Instr.sliceBound,asIntOf,Sem.run_pure,if_true,Option.isSome,Sem.run_ite,Bf hsz,h1,and_self,Int.toNat_natCast,Nat.zero_mul,T6,Nat.sub_zero];simp
 ·cases hsz
theorem G.sliceFrom (b off n c k sz:Nat)(h:Al P (adv P st)=.slice (some sz) (.slice (some ⟨b,off,none⟩) n c) (some (.int .i64 (k:Int))) none none)(hk:k≤n)(hc:k < c)
  (g:G P fn Post (nx (adv P st) (.slice (some ⟨b,off+k*sz,none⟩) (n - k) (c - k))) u m):G P fn Post st u m:=by
 refine G.ask h (by simp) (fun env o hview w hp=>?_) g;obtain ⟨t,X,L,H,M,e1,e2,e3,e4,e5,hsz⟩:=H4 hview;obtain ⟨dst,opp,type,pos,after,guard⟩:=o;simp only at e1; subst e1;unfold Kq at hsz;split at hsz
 ·rename_i e hu;have h1:(0:Int)≤k∧(k:Int)≤n:=by omega
  have h2:¬ (c=k):=by omega
  simp only [execOp,e2,e3,e4,e5];simp only [Instr.sliceAt,Sem.run_bind,run_underlying hu,Result.andThen_ok,Instr.slice,Instr.sliceBounds,Instr.sliceBound,asIntOf,Sem.run_pure,if_true,Option.isSome,Sem.run_ite,Bf hsz,h1,and_self,Int.toNat_natCast,h2,if_false,Option.map_some,Db]
 ·cases hsz
theorem G.quo (x y z:Int)(h:Al P (adv P st)=.bin .quo (.int .i64 x) (.int .i64 y))(hx:0≤x)(hx2:x≤9223372036854775807)(hy:0 < y)(hz:x / y=z)
  (k:G P fn Post (nx (adv P st) (.int .i64 z)) u m):G P fn Post st u m:=by
 refine G.bin _ h Cy (fun t w=>?_) k;have h1:x.tdiv y=z:=by rw [Int.tdiv_eq_ediv_of_nonneg hx]; exact hz
 have h2:0≤z:=by rw [← hz]; exact Int.ediv_nonneg hx (by omega)
 have h3:z≤x:=by rw [← hz]; exact Int.ediv_le_self _ hx
 have h4:¬ y=0:=by omega
 simp [binOp,Op.intDiv,h4,h1,Cl (z:=z) (by omega) (by omega)]
theorem G.rem (x y z:Int)(h:Al P (adv P st)=.bin .rem (.int .i64 x) (.int .i64 y))(hx:0≤x)(_hx2:x≤9223372036854775807)(hy:0 < y)(hz:x % y=z)
  (k:G P fn Post (nx (adv P st) (.int .i64 z)) u m):G P fn Post st u m:=by
 refine G.bin _ h Cy (fun t w=>?_) k;have h1:x.tmod y=z:=by rw [Int.tmod_eq_emod_of_nonneg hx]; exact hz
 have h4:¬ y=0:=by omega
 have h2:0≤z:=by rw [← hz]; exact Int.emod_nonneg _ h4
 have h3:z≤x:=by rw [← hz]; have:=Int.mul_ediv_add_emod x y; have h5:=Int.mul_nonneg (Int.le_of_lt hy) (Int.ediv_nonneg hx (Int.le_of_lt hy)); omega
 simp [binOp,Op.intDiv,h4,h1,Cl (z:=z) (by omega) (by omega)]
theorem Sx {op:BinOp}{x y:Bool}(t:TypeId)(X Y:Operand)(w:World):(eqGuard op t X Y (.bool x) (.bool y)).run P w=.ok () w:=by
 unfold eqGuard; split <;> simp
theorem Aeh {t:TypeId}(ht:P.underlying t=some .bool)(x y:Bool)(w:World):(Op.equal t (.bool x) (.bool y)).run P w=.ok (x == y) w:=by
 unfold Op.equal;rw [show Op.maxDepth=9999+1 from rfl,Op.equalIn];simp [run_underlying ht]
theorem G.eqB (x y:Bool)(h:Al P (adv P st)=.binT .eql (some .bool) (.bool x) (.bool y))(k:G P fn Post (nx (adv P st) (.bool (x == y))) u m):G P fn Post st u m:=by
 refine G.ask h (by simp) (fun env o hview w _=>?_) k;obtain ⟨t,X,Y,yt,e,e1,e2,e3⟩:=Pz hview;obtain ⟨dst,opp,type,pos,after,guard⟩:=o;simp only at e; subst e;simp [execOp,e1,e2,Sx,binOp,Aeh e3]
theorem G.neB (x y:Bool)(h:Al P (adv P st)=.binT .neq (some .bool) (.bool x) (.bool y))(k:G P fn Post (nx (adv P st) (.bool (!(x == y)))) u m):G P fn Post st u m:=by
 refine G.ask h (by simp) (fun env o hview w _=>?_) k;obtain ⟨t,X,Y,yt,e,e1,e2,e3⟩:=Pz hview;obtain ⟨dst,opp,type,pos,after,guard⟩:=o;simp only at e; subst e;simp [execOp,e1,e2,Sx,binOp,Aeh e3]
def Ag (l:List Nat):List Value:=l.map fun (n:Nat)=>Value.int .i64 (n:Int)
def B7 (u:PH)(v:Value)(l:List Nat):Prop:=Ab u v 1 (Ag l)
theorem Ah (l:List Nat):(Ag l).length=l.length:=by simp [Ag]
theorem B7.mono {u u':PH}{v:Value}{l:List Nat}(h:B7 u v l)(hl:PH.le u u'):B7 u' v l:=Ab.mono h hl
theorem B7.opn {u:PH}{v:Value}(h:B7 u v l):∃ a c,v=.slice a l.length c∧l.length≤c:=by
 obtain ⟨a,c,h1,h2,_⟩:=h;rw [Ah] at h1 h2;exact ⟨a,c,h1,h2⟩
theorem B7.len {u:PH}(h:B7 u (.slice a n c) l):n=l.length∧l.length≤c:=by
 obtain ⟨a',c',h1,h2⟩:=h.opn;simp at h1; obtain ⟨_,rfl,rfl⟩:=h1; exact ⟨rfl,h2⟩
theorem B7.at {u:PH}{a:Option Addr}{n c:Nat}{l:List Nat}(h:B7 u (.slice a n c) l){j:Nat}(hj:j < l.length):∃ b off,a=some ⟨b,off,none⟩∧ElP u b (off+j*1) (.int .i64 (l.getD j 0:Nat)):=by
 obtain ⟨a',c',h1,h2,h3⟩:=h;simp at h1; obtain ⟨rfl,_,rfl⟩:=h1;exact h3 j _ (by simp [Ag,hj])
theorem B7.take {u:PH}(h:B7 u (.slice a n c) l)(k:Nat)(hk:k≤l.length):B7 u (.slice a k c) (l.take k):=by
 obtain ⟨a',c',h1,h2,h3⟩:=h;simp at h1; obtain ⟨rfl,_,rfl⟩:=h1;rw [Ah] at h2;refine ⟨a,c,by simp [Ag]; omega,by simp [Ag]; omega,fun j e hj=>?_⟩;refine h3 j e ?_;simp only [Ag,List.map_take,List.getElem?_take] at hj ⊢;split at hj
 ·exact hj
 ·cases hj
theorem Ou {b:Builtin}{ts:List TypeId}{xs:List Value}(h:A7 P env o=.blt b ts xs):∃ c,o=.call c∧c.callee=.builtin b∧c.argTypes=ts.toArray∧(c.args.map env)=xs.toArray:=by
 cases o <;> simp only [A7] at h <;> try cases h
 ·split at h <;> cases h
 split at h
 ·split at h <;> cases h
 ·rename_i c b' hc;split at h
  ·split at h <;> cases h
  ·simp only [S2.blt.injEq] at h;obtain ⟨rfl,rfl,rfl⟩:=h;exact ⟨_,rfl,hc,by simp,by apply Array.ext'; simp⟩
 ·cases h
theorem G.minI (ts:List TypeId)(x y z:Int)(h:Al P (adv P st)=.blt .min ts [.int .i64 x,.int .i64 y])(hz:min x y=z)(k:G P fn Post (nx (adv P st) (.int .i64 z)) u m):G P fn Post st u m:=by
 refine G.ask h (by simp) (fun env o hview w _=>?_) k;obtain ⟨c,e1,e2,e3,e4⟩:=Ou hview;obtain ⟨dst,opp,type,pos,after,guard⟩:=o;simp only at e1; subst e1;subst hz;have hm:(if y < x then y else x)=min x y:=by split <;> omega
 simp [execOp,resolve,e2,invoke,builtin,e4,Builtin.min_,Builtin.min2,hm]
theorem G.maxI (ts:List TypeId)(x y z:Int)(h:Al P (adv P st)=.blt .max ts [.int .i64 x,.int .i64 y])(hz:max x y=z)(k:G P fn Post (nx (adv P st) (.int .i64 z)) u m):G P fn Post st u m:=by
 refine G.ask h (by simp) (fun env o hview w _=>?_) k;obtain ⟨c,e1,e2,e3,e4⟩:=Ou hview;obtain ⟨dst,opp,type,pos,after,guard⟩:=o;simp only at e1; subst e1;subst hz;have hm:(if x < y then y else x)=max x y:=by split <;> omega
 simp [execOp,resolve,e2,invoke,builtin,e4,Builtin.max_,Builtin.max2,hm]
theorem G.appendNil (e:TypeId)(sz bt:Nat)(z:Value)(a:Option Addr)(c:Nat)(h:Al P (adv P st)=.app (some (e,sz,bt,z)) true [.slice none 0 0,.slice a 0 c])
  (k:G P fn Post (nx (adv P st) (.slice none 0 0)) u m):G P fn Post st u m:=by
 refine G.big (K:=fun v' u' m'=>u'=u∧m'=m∧v'=.slice none 0 0) h (by simp) (fun env op hv=>(Dl (P:=P) (o:=⟨none,op,0, "",#[],none⟩) hv).2.1) (.inl fun v u' m' hk=>by rw [hk.2.1]; exact PH.le_refl _) (fun env o hview w hgd=>?_) (fun v' u' m' _ hk=>?_)
 ·obtain ⟨_,_,t,hi,hex⟩:=Dl (P:=P) hview;obtain ⟨hu,i,hi1,hi2,hi3,hi4⟩:=Df hi;have hr:(Builtin.append_ #[t,t] o.type #[.slice none 0 0,.slice a 0 c]).run P w=.ok (.slice none 0 0) w:=by
   cases a <;> simp [Builtin.append_,run_underlying hu,sizeOf,typeInfo,hi1,Builtin.lenOf,Builtin.firstCells,loadCells,loadCellsFrom]
  exact Bq (by rw [hex,hr]; rfl) ⟨u,m,hgd,Bz.refl _ _ _,rfl,rfl,rfl⟩
 ·obtain ⟨rfl,rfl,rfl⟩:=hk;exact k
def Dx (l:List Int):List Value:=l.map fun (n:Int)=>Value.int .i64 n
theorem B1 (l:List Int):(Dx l).length=l.length:=by simp [Dx]
theorem K9 (l:List Int):A3 1 (Dx l):=by
 intro e he;simp only [Dx,List.mem_map] at he;obtain ⟨n,_,rfl⟩:=he;simp [Value.cells,Be]
theorem Ix (l:List Int)(j:Nat)(d:Int):(Dx l).set j (.int .i64 d)=Dx (l.set j d):=by simp [Dx,List.map_set]
theorem Pe (l:List Nat):Dx (l.map fun (n:Nat)=>(n:Int))=Ag l:=by simp [Dx,Ag]
theorem Ax (l:List Nat):A3 1 (Ag l):=by rw [← Pe]; exact K9 _
theorem B7.els {u:PH}{b off n c:Nat}(h:B7 u (.slice (some ⟨b,off,none⟩) n c) l):El u b off 1 (Ag l):=by
 obtain ⟨a',c',h1,h2,h3⟩:=h;simp at h1; obtain ⟨rfl,_,rfl⟩:=h1;intro j e hj;obtain ⟨b',off',e1,e2⟩:=h3 j e hj;simp at e1; obtain ⟨rfl,rfl⟩:=e1; exact e2
end rules
end
section
variable [Cc] [Dy]
open Go.RowKit
section rules
variable {P:Program} [Ba P] {fn:Func} {Post:B0} {st:List KI×S} {u m:PH}
theorem Ab.els {sz:Nat}{es:List Value}{b off n c:Nat}(h:Ab u (.slice (some ⟨b,off,none⟩) n c) sz es):El u b off sz es:=by
 obtain ⟨a',c',h1,h2,h3⟩:=h;simp at h1; obtain ⟨rfl,_,rfl⟩:=h1;intro j e hj;obtain ⟨b',off',e1,e2⟩:=h3 j e hj;simp at e1; obtain ⟨rfl,rfl⟩:=e1; exact e2
theorem G.append0 (e:TypeId)(sz bt:Nat)(z:Value)(a a':Option Addr)(n c c':Nat)(h:Al P (adv P st)=.app (some (e,sz,bt,z)) true [.slice a n c,.slice a' 0 c'])(hc:n≤c)
  (k:G P fn Post (nx (adv P st) (.slice a n c)) u m):G P fn Post st u m:=by
 refine G.big (K:=fun v' u' m'=>u'=u∧m'=m∧v'=.slice a n c) h (by simp) (fun env op hv=>(Dl (P:=P) (o:=⟨none,op,0, "",#[],none⟩) hv).2.1) (.inl fun v u' m' hk=>by rw [hk.2.1]; exact PH.le_refl _) (fun env o hview w hgd=>?_) (fun v' u' m' _ hk=>?_)
 ·obtain ⟨_,_,t,hi,hex⟩:=Dl (P:=P) hview;obtain ⟨hu,i,hi1,hi2,hi3,hi4⟩:=Df hi;have hr:(Builtin.append_ #[t,t] o.type #[.slice a n c,.slice a' 0 c']).run P w=.ok (.slice a n c) w:=by
   cases a <;> cases a' <;> simp [Builtin.append_,run_underlying hu,sizeOf,typeInfo,hi1,Builtin.lenOf,Builtin.firstCells,loadCells,loadCellsFrom,hc,storeCells]
  exact Bq (by rw [hex,hr]; rfl) ⟨u,m,hgd,Bz.refl _ _ _,rfl,rfl,rfl⟩
 ·obtain ⟨rfl,rfl,rfl⟩:=hk;exact k
theorem G.appendU (e:TypeId)(sz bt:Nat)(z:Value)(es xs:List Value)(a:Option Addr)(n' b off n c:Nat)(h:Al P (adv P st)=.app (some (e,sz,bt,z)) true [.slice a n' n',.slice (some ⟨b,off,none⟩) n c])(hsz:0 < sz)
  (ha:Ab u (.slice a n' n') sz es) (hoe:A3 sz es) (hx:El u b off sz xs) (ho:A3 sz xs) (hn:xs.length=n) (hn0:0 < n) (hb:(es.length+n)*bt≤140737488355328) (hb2:es.length+n≤9223372036854775807)
  (k:∀ v' u',PH.le u u'→Ab u' v' sz (es++xs)→G P fn Post (nx (adv P st) v') u' m):G P fn Post st u m:=by
 refine G.big (K:=fun v' u' m'=>m'=m∧Ab u' v' sz (es++xs)) h (by simp) (fun env op hv=>(Dl (P:=P) (o:=⟨none,op,0, "",#[],none⟩) hv).2.1) (.inl fun v u' m' hk=>by rw [hk.1]; exact PH.le_refl _) (fun env o hview w hgd=>?_) (fun v' u' m' hle hk=>?_)
 ·obtain ⟨_,_,t,hi,hex⟩:=Dl (P:=P) hview;obtain ⟨hu,i,hi1,hi2,rfl,rfl⟩:=Df hi;have hsrc:=hx.cells hsz ho hgd.pu;have hfl:=A2 ho;have hfe:=A2 hoe;obtain ⟨a1,c1,e1,e2,e3⟩:=id ha;simp only [Value.slice.injEq] at e1;obtain ⟨rfl,rfl,rfl⟩:=e1;have key:∀ (cap:Nat) (rest:List Value),es.length+n≤cap→Ab (u.upd w.heap.size (.cells (Az (es++xs)++rest).toArray e (0,0))) (.slice (some ⟨w.heap.size,0,none⟩) (es.length+n) cap) i.size (es++xs):=by
   intro cap rest hcap;refine ⟨_,cap,by simp [hn],by simp [hn]; exact hcap,fun j x hj=>⟨_,0,rfl,fun ii y hy=>⟨_,_,_,Ac _ _ _,?_⟩⟩⟩;rw [List.getElem?_toArray,Nat.zero_add];have:=Gm (hoe.append ho) hj hy;rw [List.getElem?_append_left (by obtain ⟨h,_⟩:=List.getElem?_eq_some_iff.1 this; exact h)]; exact this
  rcases Nat.eq_zero_or_pos es.length with h0 | h0
  ·have:es = []:=List.eq_nil_of_length_eq_zero h0;subst this;simp only [List.length_nil,Nat.zero_add] at hb hb2;have hr:∃ v w',(Builtin.append_ #[t,t] o.type #[.slice a 0 0,.slice (some ⟨b,off,none⟩) n c]).run P w=.ok v w'∧v=.slice (some ⟨w.heap.size,0,none⟩) n (grownCap w n 0 e)∧w'=w.drew.alloc (.cells (Az xs++(Builtin.zeroCells z.cells (grownCap w n 0 e - n)).toList).toArray e):=by
    cases a with
    | none =>
     refine ⟨_,_,run_append_nil (P:=P) w t o.type e i z hu hi1 hi2 ⟨b,off,none⟩ n c (Az xs) (by rw [hfl,hn]) hsrc hn0 (by omega) (by omega),rfl,?_⟩
     congr 2; apply Array.ext'; simp
    | some a =>
     have:=run_append_grow (P:=P) w t o.type e i z hu hi1 hi2 a 0 0 [] (by simp) (by simp) ⟨b,off,none⟩ n c (Az xs) (by rw [hfl,hn]) hsrc (by omega) (by omega) (growslice_fits (by omega) (by rw [Nat.zero_add]; omega));simp only [Nat.zero_add] at this;refine ⟨_,_,this,rfl,?_⟩
     congr 2; apply Array.ext'; simp
   obtain ⟨v,w',hr,rfl,rfl⟩:=hr;obtain ⟨g1,g2,g3,g4⟩:=hgd.drew'.newU (.cells (Az xs++(Builtin.zeroCells z.cells (grownCap w n 0 e - n)).toList).toArray e (0,0));have:=key (grownCap w n 0 e) (Builtin.zeroCells z.cells (grownCap w n 0 e - n)).toList (by simpa using grownCap_ge w n 0 e);simp only [List.nil_append,List.length_nil,Nat.zero_add] at this;exact Bq (by rw [hex]; simp only [List.length_nil]; rw [hr]; rfl) ⟨_,m,g1,⟨g2.sz,g2.old,g2.us,g2.ms,g2.io,fun f=>⟨(g2.dr f).tape,Nat.le_of_succ_le (g2.dr f).dr⟩⟩,rfl,this⟩
  ·obtain ⟨be,oe,rfl,_⟩:=e3 0 es[0] (by simp);have hold:=El.cells hsz ha.els hoe hgd.pu;have hr:=run_append_grow (P:=P) w t o.type e i z hu hi1 hi2 ⟨be,oe,none⟩ es.length es.length (Az es) hfe hold ⟨b,off,none⟩ n c (Az xs) (by rw [hfl,hn]) hsrc (by omega) (by omega) (growslice_fits (by omega) hb);have ew:(Az es).toArray++(Az xs).toArray++Builtin.zeroCells z.cells (grownCap w (es.length+n) es.length e - (es.length+n))=(Az (es++xs)++(Builtin.zeroCells z.cells (grownCap w (es.length+n) es.length e - (es.length+n))).toList).toArray:=by
    apply Array.ext'; simp [Co]
   rw [ew] at hr;obtain ⟨g1,g2,g3,g4⟩:=hgd.drew'.newU (.cells (Az (es++xs)++(Builtin.zeroCells z.cells (grownCap w (es.length+n) es.length e - (es.length+n))).toList).toArray e (0,0));exact Bq (by rw [hex,show ([Value.slice (some ⟨be,oe,none⟩) es.length es.length,Value.slice (some ⟨b,off,none⟩) n c]).toArray = #[.slice (some ⟨be,oe,none⟩) es.length es.length,.slice (some ⟨b,off,none⟩) n c] from rfl,hr]; rfl) ⟨_,m,g1,⟨g2.sz,g2.old,g2.us,g2.ms,g2.io,fun f=>⟨(g2.dr f).tape,Nat.le_of_succ_le (g2.dr f).dr⟩⟩,rfl,key _ _ (grownCap_ge w _ _ e)⟩
 ·obtain ⟨rfl,hk⟩:=hk;exact k v' u' hle hk
theorem G.appendV (e:TypeId)(sz bt:Nat)(z:Value)(es xs:List Value)(a:Option Addr)(n':Nat)(ax:Option Addr)(n c:Nat)(h:Al P (adv P st)=.app (some (e,sz,bt,z)) true [.slice a n' n',.slice ax n c])(hsz:0 < sz)
  (ha:Ab u (.slice a n' n') sz es) (hoe:A3 sz es) (hx:Ab u (.slice ax n c) sz xs) (ho:A3 sz xs) (hb:(es.length+xs.length)*bt≤140737488355328) (hb2:es.length+xs.length≤9223372036854775807)
  (k:∀ v' u',PH.le u u'→Ab u' v' sz (es++xs)→G P fn Post (nx (adv P st) v') u' m):G P fn Post st u m:=by
 obtain ⟨ax',c',e1,e2,e3⟩:=id hx;simp only [Value.slice.injEq] at e1;obtain ⟨rfl,rfl,rfl⟩:=e1;rcases Nat.eq_zero_or_pos xs.length with h0 | h0
 ·have:xs = []:=List.eq_nil_of_length_eq_zero h0;subst this;exact G.append0 e sz bt z a ax n' n' c h (Nat.le_refl _) (k _ u (PH.le_refl _) (by rw [List.append_nil]; exact ha))
 ·obtain ⟨bx,ox,rfl,_⟩:=e3 0 xs[0] (by simp);exact G.appendU e sz bt z es xs a n' bx ox xs.length c h hsz ha hoe hx.els ho rfl h0 hb hb2 k
end rules
end
section
variable {env:Operand→Value}{o:Op}{x:Value}
variable [Cc] [Dy]
open Go.RowKit
abbrev mkS (l:List UInt8):ByteArray:=⟨l.toArray⟩
theorem Wx {a b:List UInt8}:mkS a=mkS b↔a=b:=by
 constructor
 ·intro h; injection h with h; simpa using h
 ·rintro rfl; rfl
theorem J9 (l:List UInt8):(mkS l).toList=l:=by
 rw [Go.Lib.toList_data]
theorem I8 (a b:List UInt8):((mkS a).toList == (mkS b).toList)=decide (a=b):=by
 rw [J9,J9,Bool.eq_iff_iff]; simp
section rules
variable {P:Program} [Ba P] {fn:Func} {Post:B0} {st:List KI×S} {u m:PH}
def U6 (Q:Op→Bool)(st:List KI×S):Bool :=
 match st.1 with
 | .reg _ ops _ (i::_)::_=>match ops[i]? with
  | some o=>Q o.op
  | none=>false
 | _=>false
theorem G.askQ (Q:Op→Bool){V:S2}{v:Value}(h:Al P (adv P st)=V)(hq:U6 Q (adv P st)=true)(hV:V≠.other)(hr:∀ env (o:Oper),A7 P env o.op=V→Q o.op=true→∀ w,(F2 o.op=true→Eb u w∧Eb m w)→(execOp env o).run P w=.ok (.value v) w)
  (k:G P fn Post (nx (adv P st) v) u m):G P fn Post st u m:=by
 refine G.stp ?_;obtain ⟨id,ops,dr,i,l,kk,s,o,e,ho,hg,hd,hv,hs,hview,hnx⟩:=Ho h hV;have k:=k.out;rw [hnx] at k;have hQ:Q o.op=true:=by
  rw [e] at hq; simpa [U6,ho] using hq
 rw [e];exact ⟨Ob.ask ho hg hd hv hs (Adw hview hV) (fun w hp=>hr _ o hview hQ w hp) k⟩
def Jm (P:Program):Op→Bool
 | .slice t ..=>match P.underlying t with | some .string=>true | _=>false
 | _=>false
theorem Fx {op:BinOp}{x y:ByteArray}(t:TypeId)(X Y:Operand)(w:World):(eqGuard op t X Y (.string x) (.string y)).run P w=.ok () w:=by
 unfold eqGuard; split <;> simp
theorem G.eqST (a b:List UInt8)(h:Al P (adv P st)=.bin .eql (.string (mkS a)) (.string (mkS b)))(hab:a=b)(k:G P fn Post (nx (adv P st) (.bool true)) u m):G P fn Post st u m :=
 G.bin _ h Fx (fun t w=>by simp [binOp,Op.stringOp,I8,hab]) k
theorem G.eqSF (a b:List UInt8)(h:Al P (adv P st)=.bin .eql (.string (mkS a)) (.string (mkS b)))(hab:a≠b)(k:G P fn Post (nx (adv P st) (.bool false)) u m):G P fn Post st u m :=
 G.bin _ h Fx (fun t w=>by simp only [binOp,Op.stringOp,I8,decide_eq_false hab]; rfl) k
theorem G.neST (a b:List UInt8)(h:Al P (adv P st)=.bin .neq (.string (mkS a)) (.string (mkS b)))(hab:a≠b)(k:G P fn Post (nx (adv P st) (.bool true)) u m):G P fn Post st u m :=
 G.bin _ h Fx (fun t w=>by simp only [binOp,Op.stringOp,I8,decide_eq_false hab]; rfl) k
theorem G.neSF (a b:List UInt8)(h:Al P (adv P st)=.bin .neq (.string (mkS a)) (.string (mkS b)))(hab:a=b)(k:G P fn Post (nx (adv P st) (.bool false)) u m):G P fn Post st u m :=
 G.bin _ h Fx (fun t w=>by simp only [binOp,Op.stringOp,I8,decide_eq_true hab]; rfl) k
theorem Ac0 (a b:List UInt8):mkS a++mkS b=mkS (a++b):=by
 rw [mkS,mkS,ByteArray.mk_append_mk]
theorem G.addS (a b:List UInt8)(h:Al P (adv P st)=.bin .add (.string (mkS a)) (.string (mkS b)))(hl:a.length+b.length≤9223372036854775807)(k:G P fn Post (nx (adv P st) (.string (mkS (a++b)))) u m):G P fn Post st u m :=
 G.bin _ h Fx (fun t w=>by
  have h1:¬ (((mkS a).size+(mkS b).size:Nat):Int) > IntKind.i64.max:=by
   rw [Go.Lib.size_mk,Go.Lib.size_mk]; simp [IntKind.max,IntKind.signed,IntKind.bits]; omega
  simp only [binOp,Op.stringOp];rw [if_neg h1,Ac0]; rfl) k
theorem Ab4 {t:Option TypeDesc}{x i:Value}(h:A7 P env o=.index t x i):∃ t' X I,o=.index t' X I∧env X=x∧env I=i∧P.underlying t'=t:=by
 cases o <;> simp only [A7] at h <;> try cases h
 any_goals ((repeat' split at h) <;> cases h; done)
 ·exact ⟨_,_,_,rfl,rfl,rfl,rfl⟩
theorem Ja {s d:Option TypeDesc}(h:A7 P env o=.conv s d x):∃ s' d' X,o=.convert s' d' X∧env X=x∧P.underlying s'=s∧P.underlying d'=d:=by
 cases o <;> simp only [A7] at h <;> try cases h
 any_goals ((repeat' split at h) <;> cases h; done)
 ·exact ⟨_,_,_,rfl,rfl,rfl,rfl⟩
theorem G.idxS (l:List UInt8)(i:Nat)(b:UInt8)(h:Al P (adv P st)=.index (some .string) (.string (mkS l)) (.int .i64 (i:Int)))(hb:l[i]?=some b)
  (k:G P fn Post (nx (adv P st) (.int .u8 (b.toNat:Int))) u m):G P fn Post st u m:=by
 refine G.ask h (by simp) (fun env o hview w _=>?_) k;obtain ⟨t,X,I,e1,e2,e3,e4⟩:=Ab4 hview;obtain ⟨dst,opp,type,pos,after,guard⟩:=o;simp only at e1; subst e1;obtain ⟨hi,hb⟩:=List.getElem?_eq_some_iff.1 hb;have e5:(mkS l)[i]?=some b:=by
  have h6:i < (mkS l).size:=by rw [Go.Lib.size_mk]; exact hi
  rw [getElem?_pos (mkS l) i h6]
  congr 1
 have h0:(0:Int)≤(i:Int):=by omega
 simp [execOp,e2,e3,Instr.index,run_underlying e4,asIntOf,e5,h0]
theorem G.sliceSTo (l:List UInt8)(n:Nat)(h:Al P (adv P st)=.slice none (.string (mkS l)) none (some (.int .i64 (n:Int))) none)(hq:U6 (Jm P) (adv P st)=true)(hn:n≤l.length)
  (k:G P fn Post (nx (adv P st) (.string (mkS (l.take n)))) u m):G P fn Post st u m:=by
 refine G.askQ _ h hq (by simp) (fun env o hview hQ w hp=>?_) k;obtain ⟨t,X,L,H,M,e1,e2,e3,e4,e5,hsz⟩:=H4 hview;obtain ⟨dst,opp,type,pos,after,guard⟩:=o;simp only at e1; subst e1;simp only [Jm] at hQ;split at hQ
 ·rename_i hu;have h1:(0:Int)≤n∧(n:Int)≤(mkS l).size:=by rw [Go.Lib.size_mk]; omega
  simp only [execOp,e2,e3,e4,e5];simp only [Instr.sliceAt,Sem.run_bind,run_underlying hu,Result.andThen_ok,Instr.slice,Instr.sliceBounds,Instr.sliceBound,asIntOf,Sem.run_pure,if_true,Option.isSome,Sem.run_ite,h1,and_self,Int.toNat_natCast,Nat.sub_zero];simp [Go.Lib.extract_mk]
 ·cases hQ
theorem G.sliceSFrom (l:List UInt8)(n:Nat)(h:Al P (adv P st)=.slice none (.string (mkS l)) (some (.int .i64 (n:Int))) none none)(hq:U6 (Jm P) (adv P st)=true)(hn:n≤l.length)
  (k:G P fn Post (nx (adv P st) (.string (mkS (l.drop n)))) u m):G P fn Post st u m:=by
 refine G.askQ _ h hq (by simp) (fun env o hview hQ w hp=>?_) k;obtain ⟨t,X,L,H,M,e1,e2,e3,e4,e5,hsz⟩:=H4 hview;obtain ⟨dst,opp,type,pos,after,guard⟩:=o;simp only at e1; subst e1;simp only [Jm] at hQ;split at hQ
 ·rename_i hu;have h1:(0:Int)≤n∧(n:Int)≤(mkS l).size:=by rw [Go.Lib.size_mk]; omega
  simp only [execOp,e2,e3,e4,e5];simp only [Instr.sliceAt,Sem.run_bind,run_underlying hu,Result.andThen_ok,Instr.slice,Instr.sliceBounds,Instr.sliceBound,asIntOf,Sem.run_pure,if_true,Option.isSome,Sem.run_ite,h1,and_self,Int.toNat_natCast,Nat.sub_zero];have h2:(mkS l).extract n (mkS l).size=mkS (l.drop n):=by
   rw [Go.Lib.extract_mk,Go.Lib.size_mk,List.take_of_length_le (by simp)]
  simp [h2]
 ·cases hQ
theorem G.convI (k0 k1 k2:IntKind)(x z:Int)(h:Al P (adv P st)=.conv (some (.int k0)) (some (.int k1)) (.int k2 x))(hz:k1.wrap x=z)
  (k:G P fn Post (nx (adv P st) (.int k1 z)) u m):G P fn Post st u m:=by
 refine G.ask h (by simp) (fun env o hview w _=>?_) k;obtain ⟨s,d,X,e1,e2,e3,e4⟩:=Ja hview;obtain ⟨dst,opp,type,pos,after,guard⟩:=o;simp only at e1; subst e1;simp [execOp,convert,e2,run_underlying e3,run_underlying e4,Conv.intToInt,hz]
theorem Ad8 {z:Int}(h1:0≤z)(h2:z < 256):IntKind.u8.wrap z=z:=by
 simp only [IntKind.wrap,IntKind.signed,IntKind.bits]; simp; omega
theorem G.sub8 (x y z:Int)(h:Al P (adv P st)=.bin .sub (.int .u8 x) (.int .u8 y))(hz:x - y=z)(h1:0≤z)(h2:z < 256)
  (k:G P fn Post (nx (adv P st) (.int .u8 z)) u m):G P fn Post st u m :=
 G.bin _ h Cy (fun t w=>by simp [binOp,Op.intArith,hz,Ad8 h1 h2]) k
def Bc (l:List UInt8):List Value:=l.map fun b=>Value.int .u8 (b.toNat:Int)
theorem Aw (l:List UInt8):(Bc l).length=l.length:=by simp [Bc]
theorem Mo (l l':List UInt8):Bc (l++l')=Bc l++Bc l':=by simp [Bc]
theorem Jh (l:List UInt8):A3 1 (Bc l):=by
 intro e he;simp only [Bc,List.mem_map] at he;obtain ⟨b,_,rfl⟩:=he;exact ⟨rfl,fun x hx=>by simp [Value.cells] at hx; subst hx; rfl⟩
theorem Ae.take {m0:PH}{t:TypeId}{sz:Nat}{es:List Value}{a:Option Addr}{n c k:Nat}(ha:Ae m0 m (.slice a n c) t sz es)(hk:k≤es.length):Ae m0 m (.slice a k c) t sz (es.take k):=by
 refine ⟨fun e he=>ha.1 e (List.mem_of_mem_take he),?_⟩;rcases ha.2 with ⟨hv,rfl,hm⟩ | ⟨g,cap,rest,hg0,rfl,hv,hcap,hlen,hrest⟩
 ·left;simp at hv hk; obtain ⟨rfl,rfl,rfl⟩:=hv; subst hk; exact ⟨rfl,rfl,hm⟩
 ·right;simp only [Value.slice.injEq] at hv;obtain ⟨rfl,rfl,rfl⟩:=hv;have e:Az es=Az (es.take k)++Az (es.drop k):=by rw [← Co,List.take_append_drop]
  refine ⟨g,c,Az (es.drop k)++rest,hg0,by rw [← List.append_assoc,← e],by simp; omega,by simp; omega,by rw [← List.append_assoc,← e]; exact hlen,fun x hx=>?_⟩;rcases List.mem_append.1 hx with hx | hx
  ·simp only [Az,List.mem_flatMap] at hx;obtain ⟨e',he',hx⟩:=hx;exact (ha.1 e' (List.mem_of_mem_drop he')).2 x hx
  ·exact hrest x hx
theorem Ae.cap {m0:PH}{t:TypeId}{sz:Nat}{es:List Value}{a:Option Addr}{n c:Nat}(ha:Ae m0 m (.slice a n c) t sz es):n≤c:=by
 rcases ha.2 with ⟨hv,rfl,hm⟩ | ⟨g,cap,rest,hg0,rfl,hv,hcap,hlen,hrest⟩
 ·simp at hv; omega
 ·simp at hv; omega
theorem G.convB (m0:PH)(t e:TypeId)(l:List UInt8)(b n c:Nat)(h:Al P (adv P st)=.conv (some (.slice e)) (some .string) (.slice (some ⟨b,0,none⟩) n c))(he:P.underlying e=some (.int .u8))
  (ha:Ae m0 m (.slice (some ⟨b,0,none⟩) n c) t 1 (Bc l)) (k:G P fn Post (nx (adv P st) (.string (mkS l))) u m):G P fn Post st u m:=by
 refine G.ask h (by simp) (fun env o hview w hp=>?_) k;obtain ⟨s,d,X,e1,e2,e3,e4⟩:=Ja hview;obtain ⟨dst,opp,type,pos,after,guard⟩:=o;simp only at e1; subst e1;have hm:=(hp (by simp [F2,V1 e4 (by simp)])).2;have hn:=ha.len;rw [Aw] at hn;subst hn;have:=run_convert_bytes_back (P:=P) w s d e ⟨b,0,none⟩ c l e3 he e4 (fun j hj=>by
  have h1:=ha.el (j:=j) (e:=.int .u8 (l[j].toNat:Int)) (by simp [Bc,hj]);have h2:=(h1 0 (.int .u8 (l[j].toNat:Int)) (by simp [Value.cells])).cell hm;rw [Db]; simpa using h2)
 simp [execOp,e2,this]
end rules
end
section
variable [Cc]
open Go.RowKit
variable {P : Program} [Ba P] {fn : Func} {Post : B0} {st : List KI × S} {u m : PH}
theorem G.q (a b : List UInt8) (hab : a = b) (k : G P fn Post (nx (adv P st) (.bool true)) u m) (h : Al P (adv P st) = .bin .eql (.string (mkS a)) (.string (mkS b)) := by kernel_rfl) : G P fn Post st u m := G.eqST a b h hab k
theorem G.w (a b : List UInt8) (hab : a ≠ b) (k : G P fn Post (nx (adv P st) (.bool false)) u m) (h : Al P (adv P st) = .bin .eql (.string (mkS a)) (.string (mkS b)) := by kernel_rfl) : G P fn Post st u m := G.eqSF a b h hab k
theorem G.x (a b : List UInt8) (hab : a ≠ b) (k : G P fn Post (nx (adv P st) (.bool true)) u m) (h : Al P (adv P st) = .bin .neq (.string (mkS a)) (.string (mkS b)) := by kernel_rfl) : G P fn Post st u m := G.neST a b h hab k
theorem G.y (a b : List UInt8) (hab : a = b) (k : G P fn Post (nx (adv P st) (.bool false)) u m) (h : Al P (adv P st) = .bin .neq (.string (mkS a)) (.string (mkS b)) := by kernel_rfl) : G P fn Post st u m := G.neSF a b h hab k
end
section
open Go.RowKit
variable {a:Option Addr}{b neg:Bool}{c n:Nat}{l:List Nat}{q:Rat}{y z:Int}
section
variable [Cc] {P:Program} [Ba P] {fn:Func} {Post:B0} {st:List KI×S} {u m:PH}
theorem Ahq (h1:0≤z)(h2:z < 18446744073709551616):IntKind.u64.wrap z=z:=by
 simp only [IntKind.wrap,IntKind.signed,IntKind.bits]; simp; omega
theorem G.quoW (x y z:Nat)(h:Al P (adv P st)=.bin .quo (.int .u64 (x:Int)) (.int .u64 (y:Int)))(hz:x / y=z)(hx:x < 18446744073709551616)(hy:0 < y)(k:G P fn Post (nx (adv P st) (.int .u64 (z:Int))) u m):G P fn Post st u m:=by
 refine G.bin _ h Cy (fun t w=>?_) k;have h3:z≤x:=by rw [← hz]; exact Nat.div_le_self _ _
 have h1:(x:Int).tdiv y=z:=by rw [Int.tdiv_eq_ediv_of_nonneg (by omega),← hz]; rfl
 have h4:¬ y=0:=by omega
 simp [binOp,Op.intDiv,h4,h1,Ahq (z:=(z:Int)) (by omega) (by omega)]
theorem G.remW (x y z:Nat)(h:Al P (adv P st)=.bin .rem (.int .u64 (x:Int)) (.int .u64 (y:Int)))(hz:x % y=z)(hx:x < 18446744073709551616)(hy:0 < y)(k:G P fn Post (nx (adv P st) (.int .u64 (z:Int))) u m):G P fn Post st u m:=by
 refine G.bin _ h Cy (fun t w=>?_) k;have h3:z≤x:=by rw [← hz]; exact Nat.mod_le _ _
 have h1:(x:Int).tmod y=z:=by rw [Int.tmod_eq_emod_of_nonneg (by omega),← hz]; rfl
 have h4:¬ y=0:=by omega
 simp [binOp,Op.intDiv,h4,h1,Ahq (z:=(z:Int)) (by omega) (by omega)]
theorem G.negW (x z:Int)(h:Al P (adv P st)=.un .neg (.int .u64 x))(hz:IntKind.u64.wrap (-x)=z)(k:G P fn Post (nx (adv P st) (.int .u64 z)) u m):G P fn Post st u m:=by
 refine G.ask h (by simp) (fun env o hview w hp=>?_) k;obtain ⟨t,X,e1,e2⟩:=Xc hview;obtain ⟨dst,opp,type,pos,after,guard⟩:=o;simp only at e1; subst e1;simp [execOp,Op.unary,e2,Op.intArith,hz]
end
section
variable {u:PH} {x x':Value}
theorem Ad1 {m n:Nat}(h:Cm u x m)(h':Cm u x' n)(sa:nl m≤10000000000000)(sb:nl n≤10000000000000):Fn0 prog 222 [x,x'] u fun v u'=>Cm u' v (m+n) :=
 Fn0.ofW (fun v w=>Ci w v (m+n)) (fun w hp=>Acx x x' m n w (h.toW hp) (h'.toW hp) sa sb) (fun _ _ _ h _ c _=>Cm.ofW h c)
theorem Xw {m n:Nat}(h:Cm u x m)(h':Cm u x' n)(sa:nl m≤10000000000000)(hle:n≤m):Fn0 prog 224 [x,x'] u fun v u'=>Cm u' v (m - n) :=
 Fn0.ofW (fun v w=>Ci w v (m - n)) (fun w hp=>Acl x x' m n w (h.toW hp) (h'.toW hp) sa hle) (fun _ _ _ h _ c _=>Cm.ofW h c)
theorem Amt {m n:Nat}(h:Cm u x m)(h':Cm u x' n)(sa:nl m≤10000000000000)(sb:nl n≤10000000000000):Fn0 prog 198 [x,x'] u fun v u'=>Cm u' v (m*n) :=
 Fn0.ofW (fun v w=>Ci w v (m*n)) (fun w hp=>Aa5 x x' m n w (h.toW hp) (h'.toW hp) sa sb) (fun _ _ _ h _ c _=>Cm.ofW h c)
theorem Zn {m n:Nat}(h:Cm u x m)(h':Cm u x' n)(sa:nl m≤10000000000000)(sb:nl n≤10000000000000):Fn0 prog 223 [x,x'] u fun v _=>v=.int .i64 (sgn ((m:Int) - n)) :=
 Fn0.ofW (fun v _=>v=.int .i64 (sgn ((m:Int) - n))) (fun w hp=>(Fa x x' m n w (h.toW hp) (h'.toW hp) sa sb).mono fun _ _ h=>⟨_,h.ext.1,rfl,h.ext.2⟩) (fun _ _ _ h _ _ _=>h)
theorem Mr {m n:Nat}(h:Cm u x m)(h':Cm u x' n)(sa:nl m≤5000000000000)(sb:nl n≤5000000000000)(hn:0 < n):Fn0 prog 249 [x,x'] u fun v u'=>∃ a b,v=.tuple #[a,b]∧Cm u' a (m / n)∧Cm u' b (m % n) :=
 Fn0.ofW (fun v w=>∃ a b,v=.tuple #[a,b]∧Ci w a (m / n)∧Ci w b (m % n)) (fun w hp=>(Ub x x' m n w (h.toW hp) (h'.toW hp) sa sb hn).mono fun _ _ ⟨a,b,e,k1,k2,k3⟩=>⟨_,e,⟨a,b,rfl,k1,k2⟩,k3⟩)
  (fun _ _ _ ⟨a,b,e,k1,k2⟩ _ c _=>⟨a,b,e,Cm.ofW k1 c,Cm.ofW k2 c⟩)
theorem Vy (h:Cm u x n)(hn:nl n≤2):Fn0 prog 291 [x] u fun v _=>v=.int .u64 (n:Int) :=
 Fn0.ofW (fun v _=>v=.int .u64 (n:Int)) (fun w hp=>(W9 x n w (h.toW hp) hn).mono fun _ _ ⟨e,k⟩=>⟨_,e,rfl,k ▸ Ext.refl _⟩) (fun _ _ _ h _ _ _=>h)
theorem Abs.els {g:Nat}(h:El u g 0 1 (A1 l)):Abs u (some ⟨g,0,none⟩) (A1 l):=fun j hj=>by
 refine ⟨g,0,rfl,?_⟩;have hl:j < l.length:=by simpa [A1] using hj
 have:=h j (.int .u64 (l[j]:Nat)) (by simp [A1,hl]) 0 (.int .u64 (l[j]:Nat)) rfl;simpa [A1,hl] using this
theorem And (hl:Low l)(hr:Abs u a (A1 l))(hn:val l=n)(hc:l.length≤c)(h2:l.length≤9223372036854775807):Fn0 prog 228 [.slice a l.length c] u fun v u'=>Cm u' v n :=
 Fn0.ofW (fun v w=>Ci w v n) (fun w hp=>by
  have hw:Row w a (A1 l):=fun j hj=>by obtain ⟨b,off,e1,e2⟩:=hr j hj; exact ⟨b,off,e1,e2.cell hp⟩
  exact (Fk a c l.length l w rfl h2 hc hw).mono fun e w' ⟨e1,e2⟩=>by subst e2; exact ⟨_,e1,C3 hl hw hn hc,Ext.refl _⟩) (fun _ _ _ h _ c _=>Cm.ofW h c)
theorem Cm.len {k c n:Nat}(h:Cm u (.slice a k c) n):k=nl n:=by
 obtain ⟨_,_,e,_⟩:=h; cases e; rfl
theorem Cm.opn (h:Cm u x n):∃ a c,x=.slice a (nl n) c:=by
 obtain ⟨a,c,e,_⟩:=h; exact ⟨a,c,e⟩
theorem Amb {m n : Nat} (h : Cm u x m) (h' : Cm u x' n) (sa : nl m ≤ 5000000000000) (sb : nl n ≤ 5000000000000) : Fn0 prog 248 [x, x'] u fun v u' => Cm u' v (Nat.gcd m n) := by
  obtain ⟨a, c, rfl⟩ := h.opn
  obtain ⟨b, d, rfl⟩ := h'.opn
  refine Fn0.o func248 ?_
  refine G.l (ι := (Option Addr × Nat × Nat) × (Option Addr × Nat × Nat)) (fun i => [(0, .v (.slice i.1.1 (nl i.1.2.1) i.1.2.2)), (1, .v (.slice i.2.1 (nl i.2.2.1) i.2.2.2))]) (fun _ => [])
    (fun i u' m' => m' = PH.mt ∧ Cm u' (.slice i.1.1 (nl i.1.2.1) i.1.2.2) i.1.2.1 ∧ Cm u' (.slice i.2.1 (nl i.2.2.1) i.2.2.2) i.2.2.1 ∧ Nat.gcd i.1.2.1 i.2.2.1 = Nat.gcd m n ∧ nl i.1.2.1 ≤ 5000000000000 ∧ nl i.2.2.1 ≤ 5000000000000)
    (fun i => i.2.2.1) ((a, m, c), (b, n, d)) ⟨rfl, h, h', rfl, sa, sb⟩ ?_
  rintro J ⟨⟨a1, m1, c1⟩, b1, n1, d1⟩ hJ u1 _ l1 ⟨rfl, h1, h1', hg, s1, s1'⟩
  simp only at h1 h1' hg s1 s1' hJ
  by_cases h2 : 2 < nl n1
  · refine G.gT (nl n1 : Int) 2 ?_
    have hp : 0 < n1 := Ce.1 (show 0 < nl n1 by omega)
    refine G.c call249 (Mr h1 h1' s1 s1' hp) ?_
    rintro _ u2 l2 ⟨q, r, rfl, hq, hr⟩
    obtain ⟨aq, cq, rfl⟩ := hq.opn
    obtain ⟨ar, cr, rfl⟩ := hr.opn
    have hlt := Nat.mod_lt m1 hp
    exact G.b (hJ ((b1, n1, d1), (ar, m1 % n1, cr)) _ _ _ cv (l1.trans l2) ⟨rfl, h1'.mono l2, hr, by rw [← hg]; exact T3 m1 n1, s1', Nat.le_trans (C6 (Nat.le_of_lt hlt)) s1'⟩ hlt)
  refine G.gF (nl n1 : Int) 2 ?_
  by_cases h0 : nl n1 = 0
  · refine G.eT (nl n1 : Int) 0 ?_
    have e0 : n1 = 0 := by rcases Nat.eq_zero_or_pos n1 with e | e; · exact e
                           · have := Ce.2 e; unfold nl at h0; omega
    rw [← hg, e0, Nat.gcd_zero_right]
    exact G.r _ ⟨rfl, h1⟩
  have hp : 0 < n1 := Ce.1 (show 0 < nl n1 by omega)
  refine G.eF (nl n1 : Int) 0 ?_
  refine dite (2 < nl m1) (fun h3 => ?y) (fun h3 => ?n)
  case' y =>
    refine G.gT (nl m1 : Int) 2 ?_
    refine G.c call249 (Mr h1 h1' s1 s1' hp) ?_
    rintro _ u2 l2 ⟨q, r, rfl, hq, hr⟩
    obtain ⟨aq, cq, rfl⟩ := hq.opn
    obtain ⟨ar, cr, rfl⟩ := hr.opn
    have ha := h1'.mono l2
    have hg2 : Nat.gcd n1 (m1 % n1) = Nat.gcd m n := by rw [← hg]; exact T3 m1 n1
    have hm2 : nl n1 ≤ 2 := by omega
    have hn2 : nl (m1 % n1) ≤ 2 := Nat.le_trans (C6 (Nat.le_of_lt (Nat.mod_lt m1 hp))) hm2
    generalize m1 % n1 = r2 at hr hg2 hn2
  case' n =>
    refine G.gF (nl m1 : Int) 2 ?_
    have ha := h1
    have hr := h1'
    have hg2 := hg
    have hm2 : nl m1 ≤ 2 := by omega
    have hn2 : nl n1 ≤ 2 := by omega
  case y | n =>
    refine G.c call291 (Vy ha hm2) ?_
    rintro _ u3 l3 rfl
    refine G.c call291 (Vy (hr.mono l3) hn2) ?_
    rintro _ u4 l4 rfl
    refine G.l (ι := Nat × Nat) (fun i => [(9, .v (.int .u64 (i.1 : Int))), (10, .v (.int .u64 (i.2 : Int)))]) (fun _ => [])
      (fun i u' m' => m' = PH.mt ∧ Nat.gcd i.1 i.2 = Nat.gcd m n ∧ i.1 < 1000000000000000000 ∧ i.2 < 1000000000000000000) (fun i => i.2) (_, _) ⟨rfl, hg2, U9 hm2, U9 hn2⟩ ?_
    rintro J ⟨p, q⟩ hJ u5 _ l5 ⟨rfl, hpq, b1, b2⟩
    simp only at hpq b1 b2 hJ
    by_cases hq : q = 0
    · refine G.cmpG .neq .u64 (q : Int) 0 false (by kernel_rfl) rfl (by simp [B4, hq]) ?_
      refine G.remW p 1000000000 _ (by kernel_rfl) rfl (by omega) (by omega) ?_
      refine G.quoW p 1000000000 _ (by kernel_rfl) rfl (by omega) (by omega) ?_
      refine G.buildW (p := fun _ => true) 266 1 8 (.int .u64 0) (A1 [p % 1000000000, p / 1000000000]) (by kernel_rfl) (by simp [Uc, A1, Value.cells]) rfl (by omega) (by simp [A1]) (by simp [A1]) ?_
      intro g u6 l6 e6
      refine G.c call228 (And (l := [p % 1000000000, p / 1000000000]) (n := p) (Low.cons (Nat.mod_lt _ (by omega)) (Low.cons (by omega) Low.nil)) (Abs.els e6) (by simp [val]; omega) (c := 2) (by simp) (by simp)) ?_
      intro v7 u7 l7 k7
      obtain ⟨a7, c7, rfl⟩ := k7.opn
      rw [hq, Nat.gcd_zero_right] at hpq
      exact G.r (.slice a7 (nl p) c7) ⟨rfl, by rw [← hpq]; exact k7⟩
    · refine G.cmpG .neq .u64 (q : Int) 0 true (by kernel_rfl) rfl (by simp [B4, hq]) ?_
      refine G.remW p q _ (by kernel_rfl) rfl (by omega) (by omega) ?_
      have hlt := Nat.mod_lt p (show 0 < q by omega)
      exact G.b (hJ (q, p % q) _ _ _ cv l5 ⟨rfl, by rw [← hpq]; exact T3 p q, b2, by dsimp only; omega⟩ hlt)
theorem Xl {s:Value}(hb:b=(neg && decide (0 < n)))(hs:Cm u s n):Cb u (.agg #[.bool b,s]) (Bp neg n):=by
 obtain ⟨a,c,rfl,h2⟩:=id hs;exact ⟨a,_,c,by rw [Tr,hb],by rw [Ik]; exact hs⟩
theorem G6 (h:Cm u x n):Fn0 prog 197 [.bool neg,x] u fun v u'=>Cb u' v (Bp neg n):=by
 obtain ⟨a,c,rfl⟩:=h.opn;have hl:0 < nl n↔0 < n:=Ce;refine Fn0.o func197 ?_;cases neg
 ·exact G.r (.agg #[.bool false,.slice a (nl n) c]) ⟨rfl,Xl rfl h⟩
 ·by_cases h0:0 < nl n
  ·refine G.gT (nl n:Int) 0 ?_;exact G.r (.agg #[.bool true,.slice a (nl n) c]) ⟨rfl,Xl (by simp [hl.1 h0]) h⟩
  ·refine G.gF (nl n:Int) 0 ?_;exact G.r (.agg #[.bool false,.slice a (nl n) c]) ⟨rfl,Xl (by simp [mt hl.2 h0]) h⟩
theorem Cb.opn' (h:Cb u x z):∃ a c,x=.agg #[.bool (decide (z < 0)),.slice a (nl z.natAbs) c]∧Cm u (.slice a (nl z.natAbs) c) z.natAbs:=by
 obtain ⟨a,n,c,rfl,h⟩:=h;have:=h.len; subst this; exact ⟨a,c,rfl,h⟩
theorem Rx (h:Cb u x z)(hn:nl z.natAbs≤100000000000000):Fn0 prog 176 [x] u fun v _=>v=.int .i64 (sgn z):=by
 obtain ⟨a,c,rfl,k⟩:=h.opn';have hl:0 < nl z.natAbs↔0 < z.natAbs:=Ce;refine Fn0.o func176 ?_;by_cases h0:z < 0
 ·rw [decide_eq_true h0,C0 h0]; exact G.r (.int .i64 (-1)) ⟨rfl,rfl⟩
 rw [decide_eq_false h0];by_cases h1:0 < nl z.natAbs
 ·refine G.gT (nl z.natAbs:Int) 0 ?_;rw [B9 (by omega)]; exact G.r (.int .i64 1) ⟨rfl,rfl⟩
 ·refine G.gF (nl z.natAbs:Int) 0 ?_;rw [show z=0 by omega,Ny]; exact G.r (.int .i64 0) ⟨rfl,rfl⟩
theorem Aim (z:Int):Bp (!decide (z < 0)) z.natAbs = -z:=by unfold Bp; by_cases h:z < 0 <;> simp [h] <;> omega
theorem Q5 (h:Cb u x z)(hn:nl z.natAbs≤100000000000000):Fn0 prog 194 [x] u fun v u'=>Cb u' v (-z):=by
 obtain ⟨a,c,rfl,k⟩:=h.opn';refine Fn0.o func194 ?_;refine G.c call197 (G6 (neg:=!decide (z < 0)) k) ?_;intro v1 u1 l1 k1;rw [Aim] at k1;obtain ⟨b1,a1,n1,c1,rfl⟩:=k1.opn;exact G.r _ ⟨rfl,k1⟩
theorem Gg (h:Cb u x y)(h':Cb u x' z)(sy:nl y.natAbs≤5000000000000)(sz:nl z.natAbs≤5000000000000):Fn0 prog 121 [x,x'] u fun v u'=>Cb u' v (y*z):=by
 obtain ⟨a,c,rfl,k⟩:=h.opn';obtain ⟨a',c',rfl,k'⟩:=h'.opn';refine Fn0.o func121 ?_;refine G.neB (decide (y < 0)) (decide (z < 0)) (by kernel_rfl) ?_;refine G.c call198 (Amt k k' (by omega) (by omega)) ?_;intro v1 u1 l1 k1;obtain ⟨a1,c1,rfl⟩:=k1.opn;refine G.c call197 (G6 (neg:=!(decide (y < 0) == decide (z < 0))) k1) ?_;intro v2 u2 l2 k2;rw [Aaa] at k2;obtain ⟨b2,a2,n2,c2,rfl⟩:=k2.opn;exact G.r _ ⟨rfl,k2⟩
theorem V3 (h:Cb u x y)(h':Cb u x' z)(sy:nl y.natAbs≤5000000000000)(sz:nl z.natAbs≤5000000000000):Fn0 prog 161 [x,x'] u fun v u'=>Cb u' v (y+z):=by
 obtain ⟨a,c,rfl,k⟩:=h.opn';obtain ⟨a',c',rfl,k'⟩:=h'.opn';refine Fn0.o func161 ?_;refine G.eqB (decide (y < 0)) (decide (z < 0)) (by kernel_rfl) ?_;by_cases hs:decide (y < 0)=decide (z < 0)
 ·rw [show (decide (y < 0) == decide (z < 0))=true by simp [hs]];refine G.c call222 (Ad1 k k' (by omega) (by omega)) ?_;intro v1 u1 l1 k1;obtain ⟨a1,c1,rfl⟩:=k1.opn;refine G.c call197 (G6 (neg:=decide (y < 0)) k1) ?_;intro v2 u2 l2 k2;rw [Zq hs] at k2;obtain ⟨b2,a2,n2,c2,rfl⟩:=k2.opn;exact G.r _ ⟨rfl,k2⟩
 rw [show (decide (y < 0) == decide (z < 0))=false by simpa using hs];refine G.c call223 (Zn k k' (by omega) (by omega)) ?_;rintro v1 u1 l1 rfl;by_cases hc:z.natAbs≤y.natAbs
 ·refine G.hT' (sgn ((y.natAbs:Int) - z.natAbs)) 0 (Aa4 hc) ?_;refine G.c call224 (Xw (k.mono l1) (k'.mono l1) (by omega) hc) ?_;intro v2 u2 l2 k2;obtain ⟨a2,c2,rfl⟩:=k2.opn;refine G.c call197 (G6 (neg:=decide (y < 0)) k2) ?_;intro v3 u3 l3 k3;rw [Ve hs hc] at k3;obtain ⟨b3,a3,n3,c3,rfl⟩:=k3.opn;exact G.r _ ⟨rfl,k3⟩
 ·refine G.hF' (sgn ((y.natAbs:Int) - z.natAbs)) 0 (by rw [C0 (by omega)]; omega) ?_;refine G.c call224 (Xw (k'.mono l1) (k.mono l1) (by omega) (by omega)) ?_;intro v2 u2 l2 k2;obtain ⟨a2,c2,rfl⟩:=k2.opn;refine G.c call197 (G6 (neg:=decide (z < 0)) k2) ?_;intro v3 u3 l3 k3;rw [Uq hs (by omega)] at k3;obtain ⟨b3,a3,n3,c3,rfl⟩:=k3.opn;exact G.r _ ⟨rfl,k3⟩
theorem Amo (h:Cb u x y)(h':Cb u x' z)(sy:nl y.natAbs≤5000000000000)(sz:nl z.natAbs≤5000000000000):Fn0 prog 201 [x,x'] u fun v u'=>Cb u' v (y - z):=by
 obtain ⟨b,a,n,c,rfl⟩:=h.opn;obtain ⟨b',a',n',c',rfl⟩:=h'.opn;refine Fn0.o func201 ?_;refine G.c call194 (Q5 h' (by omega)) ?_;intro v1 u1 l1 k1;obtain ⟨b1,a1,n1,c1,rfl⟩:=k1.opn;refine G.c call161 (V3 (h.mono l1) k1 sy (by rw [Int.natAbs_neg]; exact sz)) ?_;intro v2 u2 l2 k2;rw [← Int.sub_eq_add_neg] at k2;obtain ⟨b2,a2,n2,c2,rfl⟩:=k2.opn;exact G.r _ ⟨rfl,k2⟩
theorem Gs (h:Cb u x y)(h':Cb u x' z)(sy:nl y.natAbs≤5000000000000)(sz:nl z.natAbs≤5000000000000):Fn0 prog 127 [x,x'] u fun v _=>v=.int .i64 (sgn (y - z)):=by
 obtain ⟨b,a,n,c,rfl⟩:=h.opn;obtain ⟨b',a',n',c',rfl⟩:=h'.opn;refine Fn0.o func127 ?_;refine G.c call201 (Amo h h' sy sz) ?_;intro v1 u1 l1 k1;obtain ⟨b1,a1,n1,c1,rfl⟩:=k1.opn;have:=Nq (y:=y) (z:=-z) sy (by rw [Int.natAbs_neg]; exact sz);refine G.c call176 (Rx k1 (by rw [Int.sub_eq_add_neg]; omega)) ?_;rintro v2 u2 l2 rfl;exact G.r (.int .i64 (sgn (y - z))) ⟨rfl,rfl⟩
theorem Aeo (h:Cb u x y)(h':Cb u x' z)(sy:nl y.natAbs≤5000000000000)(sz:nl z.natAbs≤5000000000000):Fn0 prog 195 [x,x'] u fun v u'=>Cb u' v (Nat.gcd y.natAbs z.natAbs):=by
 obtain ⟨a,c,rfl,k⟩:=h.opn';obtain ⟨a',c',rfl,k'⟩:=h'.opn';refine Fn0.o func195 ?_;refine G.c call248 (Amb k k' sy sz) ?_;intro v1 u1 l1 k1;obtain ⟨a1,c1,rfl⟩:=k1.opn;refine G.c call197 (G6 (neg:=false) k1) ?_;intro v2 u2 l2 k2;obtain ⟨b2,a2,n2,c2,rfl⟩:=k2.opn;exact G.r _ ⟨rfl,k2⟩
theorem Ael (h:Cb u x y)(h':Cb u x' z)(sy:nl y.natAbs≤4000000000000)(sz:nl z.natAbs≤4000000000000)(hz:z≠0):Fn0 prog 196 [x,x'] u fun v u'=>∃ a b,v=.tuple #[a,b]∧Cb u' a (y / z)∧Cb u' b (y % z):=by
 obtain ⟨a,c,rfl,k⟩:=h.opn';obtain ⟨a',c',rfl,k'⟩:=h'.opn';have hl:0 < nl (y.natAbs % z.natAbs)↔0 < y.natAbs % z.natAbs:=Ce;have hlt:=Nat.mod_lt y.natAbs (show 0 < z.natAbs by omega);refine Fn0.o func196 ?_;refine G.c call249 (Mr k k' (by omega) (by omega) (by omega)) ?_;rintro _ u1 l1 ⟨q,r,rfl,hq,hr⟩;obtain ⟨aq,cq,rfl⟩:=hq.opn;obtain ⟨ar,cr,rfl⟩:=hr.opn;refine dite (y < 0) (fun hy=>?A) (fun hy=>?D)
 case' A =>
  rw [decide_eq_true hy];refine dite (0 < y.natAbs % z.natAbs) (fun h0=>?B) (fun h0=>?C)
 case' B =>
  refine G.gT' (nl (y.natAbs % z.natAbs):Int) 0 (by have:=hl.2 h0; omega) ?_;refine G.buildW (p:=fun _=>true) 266 1 8 (.int .u64 0) (A1 [1]) (by kernel_rfl) (by simp [Uc,A1,Value.cells]) rfl (by omega) (by simp [A1]) (by simp [A1]) ?_;intro g u2 l2 e2;have k1:Cm u2 (.slice (some ⟨g,0,none⟩) 1 1) 1:=by
   have:=Dv (d:=1) (by omega) (by omega);exact ⟨_,1,by rw [this]; rfl,by rw [this]; simp,by rw [this]; exact Abs.els e2⟩
  refine G.c call222 (Ad1 (hq.mono l2) k1 (by have:=C6 (Nat.div_le_self y.natAbs z.natAbs); omega) (by have:=Pw; omega)) ?_;intro v3 u3 l3 k3;obtain ⟨a3,c3,rfl⟩:=k3.opn;refine G.c call224 (Xw ((k'.mono l1).mono (l2.trans l3)) (hr.mono (l2.trans l3)) (by omega) (by omega)) ?_;intro v4 u4 l4 k4;obtain ⟨a4,c4,rfl⟩:=k4.opn;obtain ⟨hm,hm2⟩:=Xk hy hz h0;rw [decide_eq_true hy] at hm;have k3:=k3.mono l4
 case' C =>
  refine G.gF' (nl (y.natAbs % z.natAbs):Int) 0 (by have:=mt hl.1 h0; omega) ?_;obtain ⟨hm,hm2⟩:=T8 hy hz (by omega);rw [decide_eq_true hy] at hm
 case' D =>
  obtain ⟨hm,hm2⟩:=T9 hy hz;rw [decide_eq_false hy] at hm ⊢
 case' C | D =>
  have k3:=hq;have k4:=hr
 case' B | C=>generalize hE:true=E at hm ⊢
 case' D=>generalize hE:false=E at hm ⊢
 case B | C | D =>
  refine G.neB E (decide (z < 0)) (by kernel_rfl) ?_;refine G.c call197 (G6 (neg:=!(E == decide (z < 0))) k3) ?_;intro v5 u5 l5 k5;obtain ⟨b5,a5,n5,c5,rfl⟩:=k5.opn;refine G.c call197 (G6 (neg:=false) (k4.mono l5)) ?_;intro v6 u6 l6 k6;obtain ⟨b6,a6,n6,c6,rfl⟩:=k6.opn;exact G.r (.tuple #[_,_]) ⟨rfl,_,_,rfl,hm ▸ k5.mono l6,hm2 ▸ k6⟩
theorem Tz (h1:-9223372036854775808≤z)(h2:z≤9223372036854775807):Fn0 prog 177 [.int .i64 z] u fun v u'=>Cb u' v z:=by
 refine Fn0.o func177 ?_;refine G.convI .i64 .u64 .i64 z _ (by kernel_rfl) rfl ?_;have hs:=Po z;refine dite (z < 0) (fun hz=>?A) (fun hz=>?B)
 case' A =>
  rw [decide_eq_true hz] at hs;generalize hE:true=E at hs;refine G.lT' z 0 hz ?_;refine G.negW _ _ (by kernel_rfl) (Abz hz h1) ?_;refine G.lT' z 0 hz ?_
 case' B =>
  rw [decide_eq_false hz] at hs;generalize hE:false=E at hs;rw [Aa6 (by omega) h2];refine G.lF' z 0 hz ?_;refine G.lF' z 0 hz ?_
 case A | B =>
  refine G.remW z.natAbs 1000000000 _ (by kernel_rfl) rfl (by omega) (by omega) ?_;refine G.quoW z.natAbs 1000000000 _ (by kernel_rfl) rfl (by omega) (by omega) ?_;refine G.remW (z.natAbs / 1000000000) 1000000000 _ (by kernel_rfl) rfl (by omega) (by omega) ?_;refine G.quoW z.natAbs 1000000000 _ (by kernel_rfl) rfl (by omega) (by omega) ?_;refine G.quoW (z.natAbs / 1000000000) 1000000000 _ (by kernel_rfl) rfl (by omega) (by omega) ?_;refine G.buildW (p:=fun _=>true) 266 1 8 (.int .u64 0) (A1 [z.natAbs % 1000000000,z.natAbs / 1000000000 % 1000000000,z.natAbs / 1000000000 / 1000000000]) (by kernel_rfl) (by simp [Uc,A1,Value.cells]) rfl (by omega) (by simp [A1]) (by simp [A1]) ?_;intro g u6 l6 e6;refine G.c call228 (And (l:=[_,_,_]) (n:=z.natAbs) (Low.cons (Nat.mod_lt _ (by omega)) (Low.cons (Nat.mod_lt _ (by omega)) (Low.cons (by omega) Low.nil))) (Abs.els e6) (by simp [val]; omega) (c:=3) (by simp) (by simp)) ?_;intro v7 u7 l7 k7;obtain ⟨a7,c7,rfl⟩:=k7.opn;refine G.c call197 (G6 (neg:=E) (by cases hE; exact k7)) ?_;intro v8 u8 l8 k8;obtain ⟨b8,a8,n8,c8,rfl⟩:=k8.opn;exact G.r _ ⟨rfl,hs ▸ k8⟩
theorem Vq (h:Av u x q)(hn:nl q.num.natAbs≤100000000000000):Fn0 prog 97 [x] u fun v _=>v=.int .i64 (sgn q.num):=by
 obtain ⟨b,a,n,c,b',a',n',c',rfl⟩:=h.opn;refine Fn0.o func97 ?_;refine G.c call176 (Rx h.num hn) ?_;rintro v1 u1 l1 rfl;exact G.r (.int .i64 (sgn q.num)) ⟨rfl,rfl⟩
theorem Hm (h:Av u x q)(hd:nl q.den≤4000000000000):Fn0 prog 159 [x] u fun v _=>v=.bool (decide (q.den=1)):=by
 obtain ⟨b,a,n,c,b',a',n',c',rfl⟩:=h.opn;refine Fn0.o func159 ?_;refine G.c call177 (Tz (z:=1) (by omega) (by omega)) ?_;intro v1 u1 l1 k1;obtain ⟨b1,a1,n1,c1,rfl⟩:=k1.opn;refine G.c call127 (Gs (h.den.mono l1) k1 (by rw [Int.natAbs_natCast]; omega) (by have:=Pw; show nl 1≤_; omega)) ?_;rintro v2 u2 l2 rfl;have hs:=P7 (d:=q.den);by_cases hq:q.den=1
 ·refine G.eT' (sgn ((q.den:Int) - 1)) 0 (by simpa [hq] using hs) ?_;exact G.r (.bool true) ⟨rfl,by rw [decide_eq_true hq]⟩
 ·refine G.eF' (sgn ((q.den:Int) - 1)) 0 (by simpa [hq] using hs) ?_;exact G.r (.bool false) ⟨rfl,by rw [decide_eq_false hq]⟩
theorem Av.mk4 {d:Nat}{b b':Bool}{a a':Option Addr}{n n' c c':Nat}(h:Cb u (.agg #[.bool b,.slice a n c]) y)(h':Cb u (.agg #[.bool b',.slice a' n' c']) (d:Int))(e:q.num=y)(e':q.den=d) :
  Av u (.agg #[.bool b,.slice a n c,.bool b',.slice a' n' c']) q:=by
 obtain ⟨_,_,_,h1,h2⟩:=h;obtain ⟨_,_,_,h3,h4⟩:=h';simp only [Value.agg.injEq,Array.mk.injEq,List.cons.injEq,Value.bool.injEq,Value.slice.injEq,and_true] at h1 h3;obtain ⟨rfl,rfl,rfl,rfl⟩:=h1;obtain ⟨rfl,rfl,rfl,rfl⟩:=h3;exact ⟨_,_,_,_,_,_,by rw [e,decide_eq_false (show ¬ ((d:Int) < 0) by omega)],by rw [e]; exact h2,by rw [e']; exact h4⟩
theorem Cb.cast (h:Cb u x z)(hz:0 < z):Cb u x ((z.natAbs:Nat):Int):=by rw [show ((z.natAbs:Nat):Int)=z by omega]; exact h
theorem M9 (h:Cb u x z):Fn0 prog 160 [x] u fun v u'=>Av u' v (z:Rat):=by
 obtain ⟨b,a,n,c,rfl⟩:=h.opn;refine Fn0.o func160 ?_;refine G.c call177 (Tz (z:=1) (by omega) (by omega)) ?_;intro v1 u1 l1 k1;obtain ⟨b1,a1,n1,c1,rfl⟩:=k1.opn;exact G.r (.agg #[_,_,_,_]) ⟨rfl,Av.mk4 (h.mono l1) k1 (by simp) (by simp)⟩
theorem L8 (h1:-9223372036854775808≤z)(h2:z≤9223372036854775807):Fn0 prog 98 [.int .i64 z] u fun v u'=>Av u' v (z:Rat):=by
 refine Fn0.o func98 ?_;refine G.c call177 (Tz h1 h2) ?_;intro v1 u1 l1 k1;obtain ⟨b1,a1,n1,c1,rfl⟩:=k1.opn;refine G.c call160 (M9 k1) ?_;intro v2 u2 l2 k2;obtain ⟨b2,a2,n2,c2,b2',a2',n2',c2',rfl⟩:=k2.opn;exact G.r _ ⟨rfl,k2⟩
theorem Z3 (h:Av u x q)(hs:nl q.num.natAbs≤4000000000000):Fn0 prog 126 [x] u fun v u'=>Av u' v (-q):=by
 obtain ⟨b,a,n,c,b',a',n',c',rfl⟩:=h.opn;refine Fn0.o func126 ?_;refine G.c call194 (Q5 h.num (by omega)) ?_;intro v1 u1 l1 k1;obtain ⟨b1,a1,n1,c1,rfl⟩:=k1.opn;exact G.r (.agg #[_,_,_,_]) ⟨rfl,Av.mk4 k1 (h.den.mono l1) (Rat.neg_num q) (Rat.neg_den q)⟩
theorem Rp (h:Cb u x y)(h':Cb u x' z)(sy:nl y.natAbs≤4000000000000)(sz:nl z.natAbs≤4000000000000)(hz:z≠0):Fn0 prog 120 [x,x'] u fun v u'=>Av u' v (Rat.divInt y z):=by
 obtain ⟨b,a,n,c,rfl⟩:=h.opn;obtain ⟨b',a',n',c',rfl⟩:=h'.opn;refine Fn0.o func120 ?_;refine G.c call176 (Rx h' (by omega)) ?_;rintro v1 u1 l1 rfl;refine dite (z < 0) (fun h0=>?A) (fun h0=>?B)
 case' A =>
  refine G.lT' (sgn z) 0 (by rw [C0 h0]; omega) ?_;refine G.c call194 (Q5 (h.mono l1) (by omega)) ?_;intro v2 u2 l2 k2;obtain ⟨b2,a2,n2,c2,rfl⟩:=k2.opn;refine G.c call194 (Q5 (h'.mono (l1.trans l2)) (by omega)) ?_;intro v3 u3 l3 k3;obtain ⟨b3,a3,n3,c3,rfl⟩:=k3.opn;have k2:=k2.mono l3;have hd:=K1 y z;have ty:nl (-y).natAbs≤4000000000000:=by rw [Int.natAbs_neg]; exact sy
  have tz:nl (-z).natAbs≤4000000000000:=by rw [Int.natAbs_neg]; exact sz
  have hp:0 < -z:=by omega
  generalize -y=y2 at k2 hd ty;generalize -z=z2 at k3 hd tz hp
 case' B =>
  refine G.lF' (sgn z) 0 (by rw [B9 (by omega)]; omega) ?_;have k2:=h.mono l1;have k3:=h'.mono l1;have hd:Rat.divInt y z=Rat.divInt y z:=rfl;have ty:=sy;have tz:=sz;have hp:0 < z:=by omega
  generalize y=y2 at k2 hd ty;generalize z=z2 at k3 hd tz hp
 case A | B =>
  have hg0:0 < Nat.gcd y2.natAbs z2.natAbs:=Nat.gcd_pos_of_pos_right _ (by omega);have hg1:Nat.gcd y2.natAbs z2.natAbs≤z2.natAbs:=Nat.gcd_le_right _ (by omega);have hgn:nl (Nat.gcd y2.natAbs z2.natAbs)≤4000000000000:=Nat.le_trans (C6 hg1) tz;refine G.c call195 (Aeo k2 k3 (by omega) (by omega)) ?_;intro v4 u4 l4 k4;obtain ⟨b4,a4,n4,c4,rfl⟩:=k4.opn;refine G.c call177 (Tz (z:=1) (by omega) (by omega)) ?_;intro v5 u5 l5 k5;obtain ⟨b5,a5,n5,c5,rfl⟩:=k5.opn;refine G.c call127 (Gs (k4.mono l5) k5 (by rw [Int.natAbs_natCast]; omega) (by have:=Pw; show nl 1≤_; omega)) ?_;rintro v6 u6 l6 rfl;have hs:=P7 (d:=Nat.gcd y2.natAbs z2.natAbs);have l46:=(l4.trans l5).trans l6;by_cases hq:Nat.gcd y2.natAbs z2.natAbs=1
  ·refine G.nF' (sgn ((Nat.gcd y2.natAbs z2.natAbs:Int) - 1)) 0 (by simpa [hq] using hs) ?_;have hc:=Ru hp hq;exact G.r (.agg #[_,_,_,_]) ⟨rfl,Av.mk4 (k2.mono l46) ((k3.mono l46).cast hp) (by rw [← hd]; exact hc.1) (by rw [← hd]; exact hc.2)⟩
  ·refine G.nT' (sgn ((Nat.gcd y2.natAbs z2.natAbs:Int) - 1)) 0 (by simpa [hq] using hs) ?_;have hc:=Rz hp (y:=y2) rfl;refine G.c call196 (Ael (k2.mono l46) (k4.mono (l5.trans l6)) ty (by rw [Int.natAbs_natCast]; exact hgn) (by omega)) ?_;rintro _ u7 l7 ⟨q,r,rfl,k7,k7'⟩;obtain ⟨b7,a7,n7,c7,rfl⟩:=k7.opn;obtain ⟨b7',a7',n7',c7',rfl⟩:=k7'.opn;refine G.c call196 (Ael (k3.mono (l46.trans l7)) (k4.mono ((l5.trans l6).trans l7)) tz (by rw [Int.natAbs_natCast]; exact hgn) (by omega)) ?_;rintro _ u8 l8 ⟨q8,r8,rfl,k8,k8'⟩;obtain ⟨b8,a8,n8,c8,rfl⟩:=k8.opn;obtain ⟨b8',a8',n8',c8',rfl⟩:=k8'.opn;have e8:(((z2.natAbs / Nat.gcd y2.natAbs z2.natAbs:Nat)):Int)=z2 / (Nat.gcd y2.natAbs z2.natAbs:Nat):=by rw [Int.natCast_ediv,show ((z2.natAbs:Nat):Int)=z2 by omega]
   rw [← e8] at k8;exact G.r (.agg #[_,_,_,_]) ⟨rfl,Av.mk4 (k7.mono l8) k8 (by rw [← hd]; exact hc.1) (by rw [← hd]; exact hc.2)⟩
end
end
section
open Go.RowKit
variable {q r:Rat}
section
variable {u:PH} {x x':Value}
theorem Le (h:Av u x q)(h':Av u x' r)(h1:Sz q 1000000000000)(h2:Sz r 1000000000000):Fn0 prog 78 [x,x'] u fun v u'=>Av u' v (q*r):=by
 obtain ⟨s1,s2⟩:=h1;obtain ⟨s3,s4⟩:=h2;obtain ⟨b,a,n,c,b',a',n',c',rfl⟩:=h.opn;obtain ⟨d,e,k,f,d',e',k',f',rfl⟩:=h'.opn;refine Fn0.o func78 ?_;refine G.c call159 (Hm h (by omega)) ?_;rintro v1 u1 l1 rfl;refine dite (q.den=1) (fun e1=>?y) (fun e1=>?n1)
 case' y =>
  rw [decide_eq_true e1];refine G.c call159 (Hm (h'.mono l1) (by omega)) ?_;rintro v2 u2 l2 rfl;refine dite (r.den=1) (fun e2=>?yy) (fun e2=>?n2)
 case yy =>
  rw [decide_eq_true e2];refine G.c call121 (Gg (h.num.mono (l1.trans l2)) (h'.num.mono (l1.trans l2)) (by omega) (by omega)) ?_;intro v3 u3 l3 k3;obtain ⟨b3,a3,n3,c3,rfl⟩:=k3.opn;refine G.c call160 (M9 k3) ?_;intro v4 u4 l4 k4;rw [Afb e1 e2] at k4;obtain ⟨b4,a4,n4,c4,b4',a4',n4',c4',rfl⟩:=k4.opn;exact G.r _ ⟨rfl,k4⟩
 case' n1 =>
  rw [decide_eq_false e1];have l2:=l1
 case' n2 =>
  rw [decide_eq_false e2];have l2:=l1.trans l2
 case n1 | n2 =>
  refine G.c call121 (Gg (h.num.mono l2) (h'.num.mono l2) (by omega) (by omega)) ?_;intro v3 u3 l3 k3;obtain ⟨b3,a3,n3,c3,rfl⟩:=k3.opn;refine G.c call121 (Gg (h.den.mono (l2.trans l3)) (h'.den.mono (l2.trans l3)) (by rw [Int.natAbs_natCast]; omega) (by rw [Int.natAbs_natCast]; omega)) ?_;intro v4 u4 l4 k4;obtain ⟨b4,a4,n4,c4,rfl⟩:=k4.opn;refine G.c call120 (Rp (k3.mono l4) k4 (by have:=Bl s1 s3; omega) (by have:=Bl (y:=(q.den:Int)) (z:=(r.den:Int)) (k:=1000000000000) (by rw [Int.natAbs_natCast]; omega) (by rw [Int.natAbs_natCast]; omega); omega) (Tf q r)) ?_;intro v5 u5 l5 k5;rw [Wf] at k5;obtain ⟨b5,a5,n5,c5,b5',a5',n5',c5',rfl⟩:=k5.opn;exact G.r _ ⟨rfl,k5⟩
theorem O2 (h:Av u x q)(h':Av u x' r)(h1:Sz q 1000000000000)(h2:Sz r 1000000000000):Fn0 prog 76 [x,x'] u fun v u'=>Av u' v (q+r):=by
 obtain ⟨s1,s2⟩:=h1;obtain ⟨s3,s4⟩:=h2;obtain ⟨b,a,n,c,b',a',n',c',rfl⟩:=h.opn;obtain ⟨d,e,k,f,d',e',k',f',rfl⟩:=h'.opn;have t2:nl ((q.den:Int)).natAbs≤1000000000000:=by rw [Int.natAbs_natCast]; exact s2
 have t4:nl ((r.den:Int)).natAbs≤1000000000000:=by rw [Int.natAbs_natCast]; exact s4
 have m1:=Bl s1 t4;have m2:=Bl s3 t2;have m3:=Bl t2 t4;have m4:=Nq m1 m2;refine Fn0.o func76 ?_;refine G.c call159 (Hm h (by omega)) ?_;rintro v1 u1 l1 rfl;refine dite (q.den=1) (fun e1=>?y) (fun e1=>?n1)
 case' y =>
  rw [decide_eq_true e1];refine G.c call159 (Hm (h'.mono l1) (by omega)) ?_;rintro v2 u2 l2 rfl;refine dite (r.den=1) (fun e2=>?yy) (fun e2=>?n2)
 case yy =>
  rw [decide_eq_true e2];refine G.c call161 (V3 (h.num.mono (l1.trans l2)) (h'.num.mono (l1.trans l2)) (by omega) (by omega)) ?_;intro v3 u3 l3 k3;obtain ⟨b3,a3,n3,c3,rfl⟩:=k3.opn;refine G.c call160 (M9 k3) ?_;intro v4 u4 l4 k4;rw [Afm e1 e2] at k4;obtain ⟨b4,a4,n4,c4,b4',a4',n4',c4',rfl⟩:=k4.opn;exact G.r _ ⟨rfl,k4⟩
 case' n1 =>
  rw [decide_eq_false e1];have l2:=l1
 case' n2 =>
  rw [decide_eq_false e2];have l2:=l1.trans l2
 case n1 | n2 =>
  refine G.c call121 (Gg (h.num.mono l2) (h'.den.mono l2) (by omega) (by omega)) ?_;intro v3 u3 l3 k3;obtain ⟨b3,a3,n3,c3,rfl⟩:=k3.opn;refine G.c call121 (Gg (h'.num.mono (l2.trans l3)) (h.den.mono (l2.trans l3)) (by omega) (by omega)) ?_;intro v4 u4 l4 k4;obtain ⟨b4,a4,n4,c4,rfl⟩:=k4.opn;refine G.c call161 (V3 (k3.mono l4) k4 (by omega) (by omega)) ?_;intro v5 u5 l5 k5;obtain ⟨b5,a5,n5,c5,rfl⟩:=k5.opn;have l25:=((l2.trans l3).trans l4).trans l5;refine G.c call121 (Gg (h.den.mono l25) (h'.den.mono l25) (by omega) (by omega)) ?_;intro v6 u6 l6 k6;obtain ⟨b6,a6,n6,c6,rfl⟩:=k6.opn;refine G.c call120 (Rp (k5.mono l6) k6 (by omega) (by omega) (Tf q r)) ?_;intro v7 u7 l7 k7;rw [Nx] at k7;obtain ⟨b7,a7,n7,c7,b7',a7',n7',c7',rfl⟩:=k7.opn;exact G.r _ ⟨rfl,k7⟩
theorem Lf (h:Av u x q)(h':Av u x' r)(h1:Sz q 1000000000000)(h2:Sz r 1000000000000):Fn0 prog 57 [x,x'] u fun v u'=>Av u' v (q - r):=by
 obtain ⟨b,a,n,c,b',a',n',c',rfl⟩:=h.opn;obtain ⟨d,e,k,f,d',e',k',f',rfl⟩:=h'.opn;refine Fn0.o func57 ?_;refine G.c call126 (Z3 h' (Nat.le_trans h2.1 (by omega))) ?_;intro v1 u1 l1 k1;obtain ⟨b1,a1,n1,c1,b1',a1',n1',c1',rfl⟩:=k1.opn;refine G.c call76 (O2 (h.mono l1) k1 h1 ⟨by rw [Rat.neg_num,Int.natAbs_neg]; exact h2.1,by rw [Rat.neg_den]; exact h2.2⟩) ?_;intro v2 u2 l2 k2;rw [← Rat.sub_eq_add_neg] at k2;obtain ⟨b2,a2,n2,c2,b2',a2',n2',c2',rfl⟩:=k2.opn;exact G.r _ ⟨rfl,k2⟩
theorem G0 (h:Av u x q)(h':Av u x' r)(h1:Sz q 1000000000000)(h2:Sz r 1000000000000)(hr:r≠0):Fn0 prog 54 [x,x'] u fun v u'=>Av u' v (q / r):=by
 obtain ⟨s1,s2⟩:=h1;obtain ⟨s3,s4⟩:=h2;obtain ⟨b,a,n,c,b',a',n',c',rfl⟩:=h.opn;obtain ⟨d,e,k,f,d',e',k',f',rfl⟩:=h'.opn;have t2:nl ((q.den:Int)).natAbs≤1000000000000:=by rw [Int.natAbs_natCast]; exact s2
 have t4:nl ((r.den:Int)).natAbs≤1000000000000:=by rw [Int.natAbs_natCast]; exact s4
 have m1:=Bl s1 t4;have m2:=Bl t2 s3;refine Fn0.o func54 ?_;refine G.c call121 (Gg h.num h'.den (by omega) (by omega)) ?_;intro v3 u3 l3 k3;obtain ⟨b3,a3,n3,c3,rfl⟩:=k3.opn;refine G.c call121 (Gg (h.den.mono l3) (h'.num.mono l3) (by omega) (by omega)) ?_;intro v4 u4 l4 k4;obtain ⟨b4,a4,n4,c4,rfl⟩:=k4.opn;refine G.c call120 (Rp (k3.mono l4) k4 (by omega) (by omega) (Int.mul_ne_zero (by have:=q.den_nz; omega) (fun e=>hr (Rat.num_eq_zero.1 e)))) ?_;intro v5 u5 l5 k5;rw [Xh] at k5;obtain ⟨b5,a5,n5,c5,b5',a5',n5',c5',rfl⟩:=k5.opn;exact G.r _ ⟨rfl,k5⟩
theorem Wb (h:Av u x q)(h':Av u x' r)(h1:Sz q 1000000000000)(h2:Sz r 1000000000000):Fn0 prog 59 [x,x'] u fun v _=>v=.int .i64 (sgn (q.num*(r.den:Int) - r.num*(q.den:Int))):=by
 obtain ⟨s1,s2⟩:=h1;obtain ⟨s3,s4⟩:=h2;obtain ⟨b,a,n,c,b',a',n',c',rfl⟩:=h.opn;obtain ⟨d,e,k,f,d',e',k',f',rfl⟩:=h'.opn;have t2:nl ((q.den:Int)).natAbs≤1000000000000:=by rw [Int.natAbs_natCast]; exact s2
 have t4:nl ((r.den:Int)).natAbs≤1000000000000:=by rw [Int.natAbs_natCast]; exact s4
 have m1:=Bl s1 t4;have m2:=Bl s3 t2;refine Fn0.o func59 ?_;refine G.c call121 (Gg h.num h'.den (by omega) (by omega)) ?_;intro v3 u3 l3 k3;obtain ⟨b3,a3,n3,c3,rfl⟩:=k3.opn;refine G.c call121 (Gg (h'.num.mono l3) (h.den.mono l3) (by omega) (by omega)) ?_;intro v4 u4 l4 k4;obtain ⟨b4,a4,n4,c4,rfl⟩:=k4.opn;refine G.c call127 (Gs (k3.mono l4) k4 (by omega) (by omega)) ?_;rintro v5 u5 l5 rfl;exact G.r (.int .i64 (sgn (q.num*(r.den:Int) - r.num*(q.den:Int)))) ⟨rfl,rfl⟩
end
end
section
open Go.RowKit
theorem Aig {u:PH}{b:Bool}{a:Option Addr}{n c:Nat}{l:List Nat}(h:B7 u (.slice a n c) l)(hl:l.length≤1000000000000000000) :
  Fn0 prog 168 [.agg #[.bool b,.slice a n c]] u fun v _=>v=.agg #[.bool (b && decide (0 < Bj l l.length)),.slice a (Bj l l.length) c]:=by
 obtain ⟨rfl,hc⟩:=h.len;refine Fn0.o func168 ?_;refine G.l (ι:=Nat) (fun _=>[(1,.p 0 0),(2,.p 1 0)]) (fun k=>[(0,⟨66,[.v (.bool b),.v (.slice a k c)]⟩),(1,⟨66,[.v (.bool false),.v (.slice none 0 0)]⟩)])
  (fun k _ m=>k≤l.length∧Bj l l.length=Bj l k∧m=PH.mt) id l.length ⟨Nat.le_refl _,rfl,rfl⟩ ?_
 rintro J k hJ u' m' hle ⟨hk,ht,rfl⟩;rw [ht];rcases k with _ | k
 ·refine G.gF ((0:Nat):Int) 0 ?_;refine G.eT' ((0:Nat):Int) 0 rfl ?_;exact G.r (.agg #[.bool false,.slice a 0 c]) ⟨rfl,by simp [Bj]⟩
 ·refine G.gT ((k+1:Nat):Int) 0 ?_;refine G.s ((k+1:Nat):Int) 1 (k:Int) ?_;obtain ⟨bb,off,rfl,he⟩:=(h.mono hle).at (j:=k) (by omega);refine G.a bb off (k+1) c k 1 (by omega) ?_;refine G.lU none bb (off+k*1) (.int .i64 (l.getD k 0:Nat)) he ?_;by_cases h0:l.getD k 0=0
  ·refine G.eT ((l.getD k 0:Nat):Int) 0 ?_;refine G.s ((k+1:Nat):Int) 1 (k:Int) ?_;refine G.sliceTo 1 (some ⟨bb,off,none⟩) (k+1) c k (by kernel_rfl) (by omega) ?_;exact G.b (hJ k _ _ _ cv hle ⟨by omega,by rw [ht]; simp only [Bj,if_pos h0],rfl⟩ (by simp))
  ·refine G.eF ((l.getD k 0:Nat):Int) 0 ?_;refine G.eF ((k+1:Nat):Int) 0 ?_;exact G.r (.agg #[.bool b,.slice (some ⟨bb,off,none⟩) (k+1) c]) ⟨rfl,by simp only [Bj,if_neg h0]; simp⟩
end
section
open Go.RowKit
variable {k:Nat}{u:PH}{va vb:Value}
theorem Cj (l:List Nat)(n:Nat):Ag l++[.int .i64 (n:Int)]=Ag (l++[n]):=by simp [Ag]
theorem Jb {m n:Nat}(ha:B7 u va (Aa m))(hb:B7 u vb (Aa n))(sa:nl m≤1000000000000000000)(sb:nl n≤1000000000000000000) :
  Fn0 prog 172 [va,vb] u fun v _=>v=.int .i64 (sgn ((m:Int) - n)):=by
 obtain ⟨a,ca,rfl,hca⟩:=ha.opn;obtain ⟨b,cb,rfl,hcb⟩:=hb.opn;have sa':(Aa m).length≤1000000000000000000:=sa;have sb':(Aa n).length≤1000000000000000000:=sb;refine Fn0.o func172 ?_;by_cases hne:(Aa m).length=(Aa n).length
 ·refine G.nF ((Aa m).length:Int) ((Aa n).length:Int) ?_;refine G.sub ((Aa m).length:Int) 1 (((Aa m).length:Int) - 1) (by kernel_rfl) rfl (by omega) (by omega) ?_;refine G.l (ι:=Int) (fun z=>[(0,.v (.slice a (Aa m).length ca)),(1,.v (.slice b (Aa n).length cb)),(5,.v (.int .i64 z))]) (fun _=>[])
   (fun z _ m'=>-1≤z∧z < (Aa m).length∧(Aa m).drop (z+1).toNat=(Aa n).drop (z+1).toNat∧m'=PH.mt) (fun z=>(z+1).toNat) (((Aa m).length:Int) - 1)
   ⟨by omega,by omega,by rw [List.drop_of_length_le (by omega),List.drop_of_length_le (by omega)],rfl⟩ ?_
  rintro J z hJ u' m' hle ⟨h1,h2,h3,rfl⟩;by_cases hz:0≤z
  ·obtain ⟨k,rfl⟩:=Int.eq_ofNat_of_zero_le hz;have hk:k < (Aa m).length:=by omega
   rw [show ((k:Int)+1).toNat=k+1 by omega] at h3;obtain ⟨ba,oa,rfl,ea⟩:=(ha.mono hle).at (j:=k) hk;obtain ⟨bb,ob,rfl,eb⟩:=(hb.mono hle).at (j:=k) (by omega);refine G.hT (k:Int) 0 ?_;refine G.a ba oa (Aa m).length ca k 1 hk ?_;refine G.lU none ba (oa+k*1) (.int .i64 ((Aa m).getD k 0:Nat)) ea ?_;refine G.a bb ob (Aa n).length cb k 1 (by omega) ?_;refine G.lU none bb (ob+k*1) (.int .i64 ((Aa n).getD k 0:Nat)) eb ?_;rcases Nat.lt_trichotomy ((Aa m).getD k 0) ((Aa n).getD k 0) with hlt | heq | hgt
   ·refine G.lT ((Aa m).getD k 0:Nat) ((Aa n).getD k 0:Nat) ?_;have:=Fq hne hk (Am _) h3 hlt;rw [Aj,Aj] at this;exact G.r (.int .i64 (-1)) ⟨rfl,by rw [C0 (by omega)]⟩
   ·refine G.lF ((Aa m).getD k 0:Nat) ((Aa n).getD k 0:Nat) ?_;refine G.a ba oa (Aa m).length ca k 1 hk ?_;refine G.lU none ba (oa+k*1) (.int .i64 ((Aa m).getD k 0:Nat)) ea ?_;refine G.a bb ob (Aa n).length cb k 1 (by omega) ?_;refine G.lU none bb (ob+k*1) (.int .i64 ((Aa n).getD k 0:Nat)) eb ?_;refine G.gF ((Aa m).getD k 0:Nat) ((Aa n).getD k 0:Nat) ?_;refine G.sub (k:Int) 1 ((k:Int) - 1) (by kernel_rfl) rfl (by omega) (by omega) ?_;refine G.b (hJ ((k:Int) - 1) _ _ _ cv hle ⟨by omega,by omega,?_,rfl⟩ (by simp));rw [show ((k:Int) - 1+1).toNat=k by omega,B2 (Aa m) k hk,B2 (Aa n) k (by omega),h3,heq]
   ·refine G.lF ((Aa m).getD k 0:Nat) ((Aa n).getD k 0:Nat) ?_;refine G.a ba oa (Aa m).length ca k 1 hk ?_;refine G.lU none ba (oa+k*1) (.int .i64 ((Aa m).getD k 0:Nat)) ea ?_;refine G.a bb ob (Aa n).length cb k 1 (by omega) ?_;refine G.lU none bb (ob+k*1) (.int .i64 ((Aa n).getD k 0:Nat)) eb ?_;refine G.gT ((Aa m).getD k 0:Nat) ((Aa n).getD k 0:Nat) ?_;have:=Fq hne.symm (by omega) (Am _) h3.symm hgt;rw [Aj,Aj] at this;exact G.r (.int .i64 1) ⟨rfl,by rw [B9 (by omega)]⟩
  ·obtain rfl:z = -1:=by omega
   refine G.hF (-1) 0 ?_;have:m=n:=by
    have h3:(Aa m).drop 0=(Aa n).drop 0:=h3;rw [List.drop_zero,List.drop_zero] at h3;rw [← Aj m,← Aj n,h3]
   exact G.r (.int .i64 0) ⟨rfl,by rw [this,Int.sub_self]; rfl⟩
 ·refine G.nT ((Aa m).length:Int) ((Aa n).length:Int) ?_;by_cases hlt:(Aa m).length < (Aa n).length
  ·refine G.lT ((Aa m).length:Int) ((Aa n).length:Int) ?_;have:=Il (m:=m) (n:=n) hlt;exact G.r (.int .i64 (-1)) ⟨rfl,by rw [C0 (by omega)]⟩
  ·refine G.lF ((Aa m).length:Int) ((Aa n).length:Int) ?_;have:=Il (m:=n) (n:=m) (show nl n < nl m by unfold nl; omega);exact G.r (.int .i64 1) ⟨rfl,by rw [B9 (by omega)]⟩
theorem Hh {l:List Nat}(h:¬ k < l.length):l.getD k 0=0:=by rw [List.getD_eq_getElem?_getD,List.getElem?_eq_none (by omega)]; rfl
theorem I2.over {a b ys:List Nat}{k c:Nat}(h:I2 a b k ys c)(ha:Low a)(hb:Low b)(hka:¬ k < a.length)(hkb:¬ k < b.length)(hc:c=0):val ys=val a+val b:=by
 have:=h.sum;rw [List.take_of_length_le (by omega),List.take_of_length_le (by omega),hc] at this;simpa using this
theorem Agr {la lb:List Nat}(ha:B7 u va la)(hb:B7 u vb lb)(lla:Low la)(llb:Low lb)(sa:la.length≤1000000000000)(sb:lb.length≤1000000000000) :
  Fn0 prog 171 [va,vb] u fun v u'=>∃ l,B7 u' v l∧Low l∧val l=val la+val lb∧l.length≤max la.length lb.length+1:=by
 obtain ⟨a,ca,rfl,hca⟩:=ha.opn;obtain ⟨b,cb,rfl,hcb⟩:=hb.opn;refine Fn0.o func171 ?_;refine G.l (ι:=Nat×List Nat×Nat×Value) (fun i=>[(0,.v (.slice a la.length ca)),(1,.v (.slice b lb.length cb)),(5,.v i.2.2.2),(6,.v (.int .i64 (i.2.2.1:Int))),(7,.v (.int .i64 (i.1:Int)))]) (fun _=>[])
  (fun i _ m'=>(i.1≤max la.length lb.length+1∧(max la.length lb.length+1≤i.1→i.2.2.1=0))∧Ae PH.mt m' i.2.2.2 3 1 (Ag i.2.1)∧I2 la lb i.1 i.2.1 i.2.2.1) (fun i=>max la.length lb.length+2 - i.1) (0,[],0,.slice none 0 0)
  ⟨⟨by simp,fun _=>rfl⟩,Ae.nil _ _ _,I2.start _ _⟩ ?_
 rintro J ⟨k,ys,c,vo⟩ hJ u' m' hle ⟨hk,hA,hst⟩;simp only at hk hA hst hJ;have hc1:=hst.carry;have hal:=lla.getD k;have hbl:=llb.getD k;obtain ⟨ao,co,rfl⟩:=hA.shape;obtain ⟨vo,hvo⟩:∃ vo,vo=Value.slice ao (Ag ys).length co:=⟨_,rfl⟩;rw [← hvo] at hA ⊢;have fin:max la.length lb.length+1≤1000000000001:=by omega
 by_cases hka:k < la.length
 ·refine G.lT (k:Int) (la.length:Int) ?_;refine G.lT (k:Int) (la.length:Int) ?_;have hna:la.getD k 0 < 1000000000:=hal;obtain ⟨ba,oa,rfl,ea⟩:=(ha.mono hle).at (j:=k) hka;refine G.a ba oa la.length ca k 1 hka ?_;refine G.lU none ba (oa+k*1) (.int .i64 (la.getD k 0:Nat)) ea ?_;refine G.p (c:Int) (la.getD k 0:Nat) ((c+la.getD k 0:Nat):Int) ?_;by_cases hkb:k < lb.length
  ·refine G.lT (k:Int) (lb.length:Int) ?_;obtain ⟨bb,ob,rfl,eb⟩:=(hb.mono hle).at (j:=k) hkb;refine G.a bb ob lb.length cb k 1 hkb ?_;refine G.lU none bb (ob+k*1) (.int .i64 (lb.getD k 0:Nat)) eb ?_;refine G.p ((c+la.getD k 0:Nat):Int) (lb.getD k 0:Nat) ((c+la.getD k 0+lb.getD k 0:Nat):Int) ?_;refine G.rem ((c+la.getD k 0+lb.getD k 0:Nat):Int) 1000000000 (((c+la.getD k 0+lb.getD k 0) % 1000000000:Nat):Int) (by kernel_rfl) (by omega) (by omega) (by omega) (by omega) ?_;refine G.B 3 1 8 (.int .i64 0) [.int .i64 (((c+la.getD k 0+lb.getD k 0) % 1000000000:Nat):Int)] (Ax [(c+la.getD k 0+lb.getD k 0) % 1000000000]) ?_;intro g u1 l1 e1;refine G.append 3 1 8 (.int .i64 0) PH.mt (Ag ys) [.int .i64 (((c+la.getD k 0+lb.getD k 0) % 1000000000:Nat):Int)] vo g 0 1 1 (by kernel_rfl) rfl rfl (by omega) hA e1 (Ax [(c+la.getD k 0+lb.getD k 0) % 1000000000]) rfl (by omega) (by rw [Ah,hst.len]; omega) (by rw [Ah,hst.len]; omega) ?_;intro v2 m2 hA2;rw [Cj] at hA2;refine G.quo ((c+la.getD k 0+lb.getD k 0:Nat):Int) 1000000000 (((c+la.getD k 0+lb.getD k 0) / 1000000000:Nat):Int) (by kernel_rfl) (by omega) (by omega) (by omega) (by omega) ?_;refine G.i k ?_;refine G.b (hJ (k+1,ys++[(c+la.getD k 0+lb.getD k 0) % 1000000000],(c+la.getD k 0+lb.getD k 0) / 1000000000,v2) _ _ _ cv (hle.trans l1) ⟨⟨by omega,by dsimp only; omega⟩,hA2,?_⟩ (by show max la.length lb.length+2 - (k+1) < max la.length lb.length+2 - k; omega));have:=hst.step lla llb (x:=la.getD k 0) (y:=lb.getD k 0) rfl rfl; rw [show la.getD k 0+lb.getD k 0+c=c+la.getD k 0+lb.getD k 0 by omega] at this; exact this
  ·have hz:=Hh hkb;refine G.lF (k:Int) (lb.length:Int) ?_;refine G.rem ((c+la.getD k 0:Nat):Int) 1000000000 (((c+la.getD k 0) % 1000000000:Nat):Int) (by kernel_rfl) (by omega) (by omega) (by omega) (by omega) ?_;refine G.B 3 1 8 (.int .i64 0) [.int .i64 (((c+la.getD k 0) % 1000000000:Nat):Int)] (Ax [(c+la.getD k 0) % 1000000000]) ?_;intro g u1 l1 e1;refine G.append 3 1 8 (.int .i64 0) PH.mt (Ag ys) [.int .i64 (((c+la.getD k 0) % 1000000000:Nat):Int)] vo g 0 1 1 (by kernel_rfl) rfl rfl (by omega) hA e1 (Ax [(c+la.getD k 0) % 1000000000]) rfl (by omega) (by rw [Ah,hst.len]; omega) (by rw [Ah,hst.len]; omega) ?_;intro v2 m2 hA2;rw [Cj] at hA2;refine G.quo ((c+la.getD k 0:Nat):Int) 1000000000 (((c+la.getD k 0) / 1000000000:Nat):Int) (by kernel_rfl) (by omega) (by omega) (by omega) (by omega) ?_;refine G.i k ?_;refine G.b (hJ (k+1,ys++[(c+la.getD k 0) % 1000000000],(c+la.getD k 0) / 1000000000,v2) _ _ _ cv (hle.trans l1) ⟨⟨by omega,by dsimp only; omega⟩,hA2,?_⟩ (by show max la.length lb.length+2 - (k+1) < max la.length lb.length+2 - k; omega));have:=hst.step lla llb (x:=la.getD k 0) (y:=lb.getD k 0) rfl rfl; rw [show la.getD k 0+lb.getD k 0+c=c+la.getD k 0 by omega] at this; exact this
 ·have hza:=Hh hka;by_cases hkb:k < lb.length
  ·refine G.lF (k:Int) (la.length:Int) ?_;refine G.lT (k:Int) (lb.length:Int) ?_;refine G.lF (k:Int) (la.length:Int) ?_;refine G.lT (k:Int) (lb.length:Int) ?_;obtain ⟨bb,ob,rfl,eb⟩:=(hb.mono hle).at (j:=k) hkb;refine G.a bb ob lb.length cb k 1 hkb ?_;refine G.lU none bb (ob+k*1) (.int .i64 (lb.getD k 0:Nat)) eb ?_;refine G.p ((c:Nat):Int) (lb.getD k 0:Nat) ((c+lb.getD k 0:Nat):Int) ?_;refine G.rem ((c+lb.getD k 0:Nat):Int) 1000000000 (((c+lb.getD k 0) % 1000000000:Nat):Int) (by kernel_rfl) (by omega) (by omega) (by omega) (by omega) ?_;refine G.B 3 1 8 (.int .i64 0) [.int .i64 (((c+lb.getD k 0) % 1000000000:Nat):Int)] (Ax [(c+lb.getD k 0) % 1000000000]) ?_;intro g u1 l1 e1;refine G.append 3 1 8 (.int .i64 0) PH.mt (Ag ys) [.int .i64 (((c+lb.getD k 0) % 1000000000:Nat):Int)] vo g 0 1 1 (by kernel_rfl) rfl rfl (by omega) hA e1 (Ax [(c+lb.getD k 0) % 1000000000]) rfl (by omega) (by rw [Ah,hst.len]; omega) (by rw [Ah,hst.len]; omega) ?_;intro v2 m2 hA2;rw [Cj] at hA2;refine G.quo ((c+lb.getD k 0:Nat):Int) 1000000000 (((c+lb.getD k 0) / 1000000000:Nat):Int) (by kernel_rfl) (by omega) (by omega) (by omega) (by omega) ?_;refine G.i k ?_;refine G.b (hJ (k+1,ys++[(c+lb.getD k 0) % 1000000000],(c+lb.getD k 0) / 1000000000,v2) _ _ _ cv (hle.trans l1) ⟨⟨by omega,by dsimp only; omega⟩,hA2,?_⟩ (by show max la.length lb.length+2 - (k+1) < max la.length lb.length+2 - k; omega));have:=hst.step lla llb (x:=la.getD k 0) (y:=lb.getD k 0) rfl rfl; rw [show la.getD k 0+lb.getD k 0+c=c+lb.getD k 0 by omega] at this; exact this
  ·have hzb:=Hh hkb;by_cases hc0:0 < c
   ·refine G.lF (k:Int) (la.length:Int) ?_;refine G.lF (k:Int) (lb.length:Int) ?_;refine G.gT (c:Int) 0 ?_;refine G.lF (k:Int) (la.length:Int) ?_;refine G.lF (k:Int) (lb.length:Int) ?_;refine G.rem ((c:Nat):Int) 1000000000 (((c) % 1000000000:Nat):Int) (by kernel_rfl) (by omega) (by omega) (by omega) (by omega) ?_;refine G.B 3 1 8 (.int .i64 0) [.int .i64 (((c) % 1000000000:Nat):Int)] (Ax [(c) % 1000000000]) ?_;intro g u1 l1 e1;refine G.append 3 1 8 (.int .i64 0) PH.mt (Ag ys) [.int .i64 (((c) % 1000000000:Nat):Int)] vo g 0 1 1 (by kernel_rfl) rfl rfl (by omega) hA e1 (Ax [(c) % 1000000000]) rfl (by omega) (by rw [Ah,hst.len]; omega) (by rw [Ah,hst.len]; omega) ?_;intro v2 m2 hA2;rw [Cj] at hA2;refine G.quo ((c:Nat):Int) 1000000000 (((c) / 1000000000:Nat):Int) (by kernel_rfl) (by omega) (by omega) (by omega) (by omega) ?_;refine G.i k ?_;refine G.b (hJ (k+1,ys++[(c) % 1000000000],(c) / 1000000000,v2) _ _ _ cv (hle.trans l1) ⟨⟨by omega,by dsimp only; omega⟩,hA2,?_⟩ (by show max la.length lb.length+2 - (k+1) < max la.length lb.length+2 - k; omega));have:=hst.step lla llb (x:=la.getD k 0) (y:=lb.getD k 0) rfl rfl; rw [show la.getD k 0+lb.getD k 0+c=c by omega] at this; exact this
   ·refine G.lF (k:Int) (la.length:Int) ?_;refine G.lF (k:Int) (lb.length:Int) ?_;refine G.gF (c:Int) 0 ?_;refine G.give PH.mt (Ag ys) vo (by kernel_rfl) hA (fun _=>.inl rfl) ?_;intro u1 l1 hL;refine G.r vo ⟨rfl,ys,hL,hst.low,hst.over lla llb hka hkb (by omega),?_⟩;rw [hst.len]; omega
end
end Go.Proofs.YtanfagpabkdmiaaGreatDoor
