/- Parts of one proof, joined by a program. -/
import Derived.Test.YtnafchoihfnkeaaGreatDoorS02
import Derived.Laws.AppendOwn
import Derived.Laws.MakeOwn
import Derived.IntWalk
import Derived.Lib.TrimByte
import Derived.Lib.ItoaNum
import Derived.Laws.IdiomStrings
set_option linter.defProp false
set_option linter.unusedVariables false
set_option linter.unusedSimpArgs false
set_option linter.unusedSectionVars false
set_option maxHeartbeats 16000000
namespace Go.Proofs.YtnafchoihfnkeaaGreatDoor
open Go.Proofs.Tryz
open Go.RowKit
open _root_.Array renaming ext' -> Ayr, getElem?_eq_some_iff -> Ay0, length_toList -> Awc, mk.injEq -> Axh, range -> A0m, toList_append -> A12
open Instr renaming fill -> Aze, loadAt -> A14, slice -> Azt, sliceAt -> Axs, sliceBound -> Ax6, sliceBounds -> Axv, sureAddr -> Aw2
open Int renaming ediv_nonneg -> Az6, eq_ofNat_of_zero_le -> Ax9, le_of_lt -> A17, mul_ne_zero -> A1c, natAbs_natCast -> Atv, natAbs_neg -> Avp, natCast_mul -> Aws, toNat_natCast -> Avo
open List renaming all_eq_true -> Atx, append_assoc -> Au1, append_nil -> Auu, cons.injEq -> Ave, drop_drop -> A0e, drop_left -> A0f, drop_of_length_le -> Aue, drop_zero -> Aw4, eq_nil_of_length_eq_zero -> Auo, getElem?_append_left -> Atl, getElem?_append_right -> At1, getElem?_eq_some_iff -> Atc, getElem?_set_self -> Awv, getElem?_toArray -> Avh, length_append -> Atg, length_cons -> Auh, length_map -> Ata, length_nil -> Av1, length_replicate -> Aur, length_set -> Avx, length_singleton -> Aux, mem_append -> Ati, mem_cons_of_mem -> Auv, mem_flatMap -> Ax3, mem_map -> Ate, mem_of_mem_drop -> Avz, nil_append -> Ava, replicate -> As6, set_set -> A00, size_toArray -> Azi, take_left -> A3b, take_of_length_le -> Atp, toList_toArray -> Av4
open Nat renaming add_mul -> At2, div_le_self -> Awa, eq_of_beq_eq_true -> Aug, eq_zero_or_pos -> At5, gcd -> Auw, gcd_zero_right -> A0p, le_of_lt -> Az4, le_of_succ_le -> Azm, le_refl -> Atb, le_trans -> As9, lt_or_ge -> At8, mod_lt -> Au3, mul_le_mul_right -> Ats, one_mul -> Avm, sub_zero -> Awx, zero_add -> Aud, zero_mul -> Ax5
open Option renaming isSome -> Ay1
open Rat renaming add_def' -> A3r, divInt -> Au0, neg_den -> A1k, neg_num -> A1j
open Result renaming andThen_ok -> Atf
open Sem renaming run_bind -> At4, run_ite -> Azu, run_pure -> Avt
open Value renaming agg.injEq -> Axc, bool.injEq -> Ax2, cells -> Atw, int -> Auj, slice -> Au8, slice.injEq -> Atr
open World renaming cell? -> A0j
theorem Ag9 {q r:Rat}(h1:q.den=1)(h2:r.den=1):((q.num+r.num:Int):Rat)=q+r:=by
 rw[A3r,h1,h2,Avm,Rat.mkRat_one];simp
theorem Rx (q r:Rat):Au0 (q.num*(r.den:Int)+r.num*(q.den:Int)) ((q.den:Int)*(r.den:Int))=q+r:=by
 rw[A3r,<-Rat.divInt_ofNat,Aws]
theorem Yi {y z:Int}{k:Nat}(h1:nl y.natAbs<=k)(h2:nl z.natAbs<=k):nl (y+z).natAbs<=k+1:=by
 have:=Ajn y.natAbs z.natAbs;have h3:nl (y+z).natAbs<=nl (y.natAbs+z.natAbs):=Ct oV;omega
theorem Xu (q r:Rat):(q.den:Int)*(r.den:Int)≠0:=by
 have e1:=q.den_nz;have e2:=r.den_nz;exact A1c oV oV
section
variable {b n off:Nat}{env:Operand->Value}{o:Op}{q:Rat}{v x:Value}{w:World}
instance:A7 prog:=⟨kV,kV⟩
def Ts (u:PH)(b off:Nat)(x:Value):Prop:=∃ cs t fr,u b=some (.cells cs t fr)/\cs[off]?=some x
theorem Ts.mono {u u':PH}(h:Ts u b off x)(hl:PH.le u u'):Ts u' b off x:=by
 obtain⟨cs,t,fr,h1,h2⟩:=h;exact⟨cs,t,fr,hl _ _ h1,h2⟩
theorem Ts.cell {u:PH}{w:World}{b off:Nat}{x:Value}(h:Ts u b off x)(hp:Ek u w):w.cell? ⟨b,off,none⟩=some x:=by
 obtain⟨cs,t,fr,h1,h2⟩:=h;simp[A0j,hp _ _ h1,h2]
def ElP (u:PH)(b off:Nat)(e:Value):Prop:=∀ (i:Nat) (x:Value),e.cells[i]?=some x->Ts u b (off+i) x
theorem ElP.mono {u u':PH}{b off:Nat}{e:Value}(h:ElP u b off e)(hl:PH.le u u'):ElP u' b off e:=fun i x hi=>(h i x hi).mono hl
def Aai (k:Option Nat)(e:Value):Bool :=
 match k with
 |some n=>match e with
  |.agg cs=>Nat.beq n cs.size
  |_=>false
 |none=>match e with|.agg _=>false|_=>true
def Ada (u:PH)(a:Option Addr)(cs:List Value):Prop:=∀ j,j<cs.length->∃ b off,a=some ⟨b,off,none⟩/\Ts u b (off+j) (cs.getD j (.bool false))
def Cu (u:PH)(v:Value)(n:Nat):Prop:=∃ a cap,v=.slice a (Aa n).length cap/\(Aa n).length<=cap/\Ada u a (Ay (Aa n))
def Bw (u:PH)(v:Value)(z:Int):Prop:=∃ a n c,v=.agg #[.bool (decide (z<0)),.slice a n c]/\Cu u (.slice a n c) z.natAbs
def An (u:PH)(v:Value)(q:Rat):Prop :=
 ∃ a n c a' n' c',v=.agg #[.bool (decide (q.num<0)),.slice a n c,.bool false,.slice a' n' c']/\Cu u (.slice a n c) q.num.natAbs/\Cu u (.slice a' n' c') q.den
theorem Cu.mono {u u':PH}{v:Value}{n:Nat}(h:Cu u v n)(hl:PH.le u u'):Cu u' v n:=by
 obtain⟨a,cap,h1,h2,h3⟩:=h;exact⟨a,cap,h1,h2,fun j hj=>by obtain⟨b,off,e1,e2⟩:=h3 j hj;exact⟨b,off,e1,e2.mono hl⟩⟩
theorem Bw.mono {u u':PH}{v:Value}{z:Int}(h:Bw u v z)(hl:PH.le u u'):Bw u' v z:=by
 obtain⟨a,n,c,h1,h2⟩:=h;exact⟨a,n,c,h1,h2.mono hl⟩
theorem An.mono {u u':PH}{v:Value}{q:Rat}(h:An u v q)(hl:PH.le u u'):An u' v q:=by
 obtain⟨a,n,c,a',n',c',h1,h2,h3⟩:=h;exact⟨a,n,c,a',n',c',h1,h2.mono hl,h3.mono hl⟩
theorem Cu.toW {u:PH}(h:Cu u v n)(hp:Ek u w):Ci w v n:=by
 obtain⟨a,cap,h1,h2,h3⟩:=h;exact⟨a,cap,h1,h2,fun j hj=>by obtain⟨b,off,e1,e2⟩:=h3 j hj;exact⟨b,off,e1,e2.cell hp⟩⟩
theorem Bw.toW {u:PH}{w:World}{v:Value}{z:Int}(h:Bw u v z)(hp:Ek u w):Om w v z:=by
 obtain⟨a,n,c,h1,h2⟩:=h;exact⟨a,n,c,h1,h2.toW hp⟩
theorem An.toW {u:PH}{w:World}{v:Value}{q:Rat}(h:An u v q)(hp:Ek u w):Sk w v q:=by
 obtain⟨a,n,c,a',n',c',h1,h2,h3⟩:=h;exact⟨a,n,c,a',n',c',h1,h2.toW hp,h3.toW hp⟩
theorem Cu.ofW {u:PH}(h:Ci w v n)(hc:Abv u w):Cu u v n:=by
 obtain⟨a,cap,h1,h2,h3⟩:=h;refine⟨a,cap,h1,h2,fun j hj=>?_⟩;obtain⟨b,off,e1,e2⟩:=h3 j hj;refine⟨b,off,e1,?_⟩;have hj':j<(Aa n).length:=by simpa using hj
 have hx:(Ay (Aa n)).getD j (.bool false)=.int .u64 ((Aa n).getD j 0:Nat):=by simp[Ay,hj']
 rw[hx]at e2⊢;unfold A0j at e2;simp only at e2;split at e2
 ·rename_i cs t fr hb;simp at e2;exact⟨cs,t,fr,hc b cs t fr _ _ hb e2,e2⟩
 ·cases e2
theorem Bw.ofW {u:PH}{w:World}{v:Value}{z:Int}(h:Om w v z)(hc:Abv u w):Bw u v z:=by
 obtain⟨a,n,c,h1,h2⟩:=h;exact⟨a,n,c,h1,Cu.ofW h2 hc⟩
theorem Bw.opn {u:PH}{z:Int}(h:Bw u v z):∃ b a n c,v=.agg #[.bool b,.slice a n c]:=by
 obtain⟨a,n,c,rfl,_⟩:=h;exact⟨_,a,n,c,rfl⟩
theorem An.opn {u:PH}(h:An u v q):∃ b a n c b' a' n' c',v=.agg #[.bool b,.slice a n c,.bool b',.slice a' n' c']:=by
 obtain⟨a,n,c,a',n',c',rfl,_⟩:=h;exact⟨_,a,n,c,_,a',n',c',rfl⟩
theorem An.num {u:PH}{b b':Bool}{a a':Option Addr}{n n' c c':Nat}(h:An u (.agg #[.bool b,.slice a n c,.bool b',.slice a' n' c']) q):Bw u (.agg #[.bool b,.slice a n c]) q.num:=by
 obtain⟨_,_,_,_,_,_,h1,h2,h3⟩:=h;simp only[Axc,Axh,Ave,Ax2,Atr,and_true]at h1;obtain⟨rfl,⟨rfl,rfl,rfl⟩,rfl,rfl,rfl,rfl⟩:=h1;exact⟨_,_,_,rfl,h2⟩
theorem An.den {u:PH}{b b':Bool}{a a':Option Addr}{n n' c c':Nat}{q:Rat}(h:An u (.agg #[.bool b,.slice a n c,.bool b',.slice a' n' c']) q):Bw u (.agg #[.bool b',.slice a' n' c']) q.den:=by
 obtain⟨_,_,_,_,_,_,h1,h2,h3⟩:=h;simp only[Axc,Axh,Ave,Ax2,Atr,and_true]at h1;obtain⟨rfl,⟨rfl,rfl,rfl⟩,rfl,rfl,rfl,rfl⟩:=h1;refine⟨_,_,_,?_,by rw[Atv];exact h3⟩;rw[show decide (((q.den:Nat):Int)<0)=false by simp only[decide_eq_false_iff_not];omega]
theorem Fn0.ofW {P:Program}{f:FuncId}{args:List Value}{u:PH}{R:Value->PH->Prop}(Q:Value->World->Prop)(h:∀ w,Ek u w->Calls P f args.toArray w fun e w'=>∃ v,e=.returned v/\Q v w'/\Ext w w')
 (hq:∀ v w' u',Q v w'->Ek u' w'->Abv u' w'->PH.le u u'->R v u'):Fn0 P f args u R:=by
 intro w hg;refine Calls.mono (h w hg.pu) fun e w' he=>?_;obtain⟨v,e1,e2,e3⟩:=he;have hsz:w.heap.size<=w'.heap.size:=e3.size;have hold:∀ g,g<w.heap.size->w'.heap[g]?=w.heap[g]?:=fun g hg=>Below.block e3 g hg;have g1:Ek (fun g=>if g<w.heap.size then u g else w'.heap[g]?) w':=by
  intro g o hgo;simp only at hgo;split at hgo
  ·rename_i hlt;rw[hold g hlt];exact hg.pu g o hgo
  ·exact hgo
 have g2:Abv (fun g=>if g<w.heap.size then u g else w'.heap[g]?) w':=by
  intro g cs t fr j z hgo hj;simp only;split
  ·rename_i hlt;rw[hold g hlt]at hgo;exact hg.cl g cs t fr j z hgo hj
  ·exact hgo
 have g3:PH.le u (fun g=>if g<w.heap.size then u g else w'.heap[g]?):=fun g o hgo=>by simp only;rw[if_pos (hg.pu.lt hgo)];exact hgo
 refine⟨v,_,PH.mt,e1,⟨g1,Ek.mt _,fun _=>.inr rfl,g2⟩,⟨hsz,fun g hg _=>hold g hg,fun g hg=>by simp only;rw[if_pos hg],fun _ _ h=>h,⟨e3.os,e3.output⟩,fun f=>f.elim⟩,rfl,hq v w' _ e2 g1 g2 g3⟩
section rules
variable [Ca] [Df] [Pu] {P:Program} [A7 P] {fn:Func} {Post:By} {st:List KI×S} {u m:PH}
theorem Xf {k:Option (Option Nat)}(h:A8 P env o=.load k x):∃ t X,o=.load t X/\env X=x/\To P t=k:=by
 cases o<;>simp only[A8]at h<;>try cases h
 any_goals ((repeat' split at h)<;>cases h;done)
 ·exact⟨_,_,rfl,rfl,rfl⟩
theorem V3 {sz:Option Nat}{x i:Value}(h:A8 P env o=.addr sz x i):∃ t X I,o=.indexAddr t X I/\env X=x/\env I=i/\Mj P t=sz:=by
 cases o<;>simp only[A8]at h<;>try cases h
 any_goals ((repeat' split at h)<;>cases h;done)
 ·exact⟨_,_,_,rfl,rfl,rfl,rfl⟩
theorem Agl {op:UnOp}(h:A8 P env o=.un op x):∃ t X,o=.unOp op t X/\env X=x:=by
 cases o<;>simp only[A8]at h<;>try cases h
 any_goals ((repeat' split at h)<;>cases h;done)
 ·exact⟨_,_,rfl,rfl⟩
theorem Of {t:TypeId}{k:Option Nat}{e:Value}(hk:To P t=some k)(hs:Aai k e=true)(h:ElP u b off e)(hp:Ek u w):(loadVar t ⟨b,off,none⟩).run P w=.ok e w:=by
 unfold To at hk;unfold loadVar;split at hk
 ·rename_i ha;split at hk
  ·rename_i n hn;simp at hk;subst hk;unfold Aai at hs;simp only at hs;split at hs
   ·rename_i cs;have hl:=Aug hs;have:=run_loadCells_list (P:=P) w ⟨b,off,none⟩ cs.toList (fun j v hj=>by rw[Dp];exact (h j v (by simpa[Atw] using hj)).cell hp);simp only[At4,Dy ha,Atf,if_true,Be hn,hl];simp at this;rw[this];simp
   ·cases hs
  ·cases hk
 ·rename_i ha;simp at hk;subst hk;unfold Aai at hs;have hc:e.cells = #[e]:=by cases e<;>simp_all [Atw]
  have:=(h 0 e (by simp[hc])).cell hp;simp[Dy ha];simp at this;simp[this]
 ·cases hk
theorem G.loadU (kd:Option Nat)(b off:Nat)(e:Value)(h:Al P (adv P st)=.load (some kd) (.pointer (some ⟨b,off,none⟩)))(hs:Aai kd e=true)(he:ElP u b off e)(k:G P fn Post (nx (adv P st) e) u m):G P fn Post st u m:=by
 refine G.ask h mV (fun env o hview w hp=>?_) k;obtain⟨t,X,e1,e2,e3⟩:=Xf hview;obtain⟨dst,opp,type,pos,after,guard⟩:=o;simp only at e1;subst e1;simp[execOp,A14,Aw2,e2,Of e3 hs he (hp rfl).1]
theorem G.loadM (kd:Option Nat)(b off:Nat)(e:Value)(h:Al P (adv P st)=.load (some kd) (.pointer (some ⟨b,off,none⟩)))(hs:Aai kd e=true)(he:ElP m b off e)(k:G P fn Post (nx (adv P st) e) u m)(h00:Pu.b=false:=by rfl):G P fn Post st u m:=by
 refine G.ask h mV (fun env o hview w hp=>?_) k;obtain⟨t,X,e1,e2,e3⟩:=Xf hview;obtain⟨dst,opp,type,pos,after,guard⟩:=o;simp only at e1;subst e1;simp[execOp,A14,Aw2,e2,Of e3 hs he ((hp rfl).2 h00)]
theorem G.addr (b off n c j sz:Nat)(h:Al P (adv P st)=.addr (some sz) (.slice (some ⟨b,off,none⟩) n c) (.int .i64 (j:Int)))(hj:j<n)
 (k:G P fn Post (nx (adv P st) (.pointer (some ⟨b,off+j*sz,none⟩))) u m):G P fn Post st u m:=by
 refine G.ask h mV (fun env o hview w hp=>?_) k;obtain⟨t,X,I,e1,e2,e3,hsz⟩:=V3 hview;obtain⟨dst,opp,type,pos,after,guard⟩:=o;simp only at e1;subst e1;unfold Mj at hsz;split at hsz
 ·rename_i e hu;have h1:(0:Int)<=j/\(j:Int)<n:=oV
  simp[execOp,Instr.indexAt,asIntOf,e2,e3,run_underlying hu,h1,Be hsz,Dp];omega
 ·cases hsz
theorem G.neg (x z:Int)(h:Al P (adv P st)=.un .neg (.int .i64 x))(hz:-x=z)(h1:-9223372036854775808<=z)(h2:z<=9223372036854775807)
 (k:G P fn Post (nx (adv P st) (.int .i64 z)) u m):G P fn Post st u m:=by
 refine G.ask h mV (fun env o hview w hp=>?_) k;obtain⟨t,X,e1,e2⟩:=Agl hview;obtain⟨dst,opp,type,pos,after,guard⟩:=o;simp only at e1;subst e1;have:(0:Int)-x=z:=oV
 simp[execOp,Op.unary,e2,Op.intArith,this,Dq h1 h2]
end rules
end
section
variable [Ca] [Pu] [Df]
variable {P:Program} [A7 P] {fn:Func} {Post:By} {st:List KI×S} {u m:PH}
theorem G.a (b off n c j sz:Nat)(hj:j<n)(k:G P fn Post (nx (adv P st) (.pointer (some ⟨b,off+j*sz,none⟩))) u m)(h:Al P (adv P st)=.addr (some sz) (.slice (some ⟨b,off,none⟩) n c) (.int .i64 (j:Int)):=by kernel_rfl):G P fn Post st u m:=G.addr b off n c j sz h hj k
theorem G.lU (kd:Option Nat)(b off:Nat)(e:Value)(he:ElP u b off e)(k:G P fn Post (nx (adv P st) e) u m)(h:Al P (adv P st)=.load (some kd) (.pointer (some ⟨b,off,none⟩)):=by kernel_rfl)(hs:Aai kd e=true:=by kernel_rfl):G P fn Post st u m:=G.loadU kd b off e h hs he k
theorem G.lM (kd:Option Nat)(b off:Nat)(e:Value)(he:ElP m b off e)(k:G P fn Post (nx (adv P st) e) u m)(h:Al P (adv P st)=.load (some kd) (.pointer (some ⟨b,off,none⟩)):=by kernel_rfl)(hs:Aai kd e=true:=by kernel_rfl)(h00:Pu.b=false:=by rfl):G P fn Post st u m:=G.loadM kd b off e h hs he k h00
end
section
variable {cs z:Array Value}{env:Operand->Value}{es xs:List Value}{g sz:Nat}{o:Oper}{t:TypeId}{v:Value}
variable [Ca] [Df] [Pu]
def PH.upd (m:PH)(g:Nat)(o:Obj):PH:=fun h=>if h=g then some o else m h
theorem Ab (m:PH)(g:Nat)(o:Obj):m.upd g o g=some o:=by simp[PH.upd]
theorem Ac (m:PH){g h:Nat}(o:Obj)(hn:h≠g):m.upd g o h=m h:=by simp[PH.upd,hn]
theorem Dz (m:PH)(g:Nat)(o o':Obj):(m.upd g o).upd g o'=m.upd g o':=by
 funext h;by_cases e:h=g
 ·subst e;simp[PH.upd]
 ·simp[PH.upd,e]
theorem K6 {m:PH}(o:Obj)(h:m g=none):PH.le m (m.upd g o):=fun k x hk=>by
 by_cases e:k=g
 ·subst e;rw[h]at hk;cases hk
 ·rw[Ac _ _ e];exact hk
def Aw (es:List Value):List Value:=es.flatMap fun e=>e.cells.toList
def Vu (p:Value->Bool)(sz:Nat)(es:List Value):Prop:=∀ e∈es,e.cells.size=sz/\∀ x∈e.cells.toList,p x=true
abbrev Ax (sz:Nat)(es:List Value):Prop:=Vu Bh sz es
theorem A4 {p:Value->Bool}{sz:Nat}:∀ {es:List Value},Vu p sz es->(Aw es).length=es.length*sz
 |[],_=>by simp[Aw]
 |e::es,h=>by
  have h1:=(h e mV).1;have ih:=A4 (sz:=sz) (es:=es) (fun x hx=>h x (Auv _ hx));unfold Aw at ih⊢;simp only[List.flatMap_cons,Atg,ih,Auh,Awc,h1,At2,Avm];omega
theorem C0 (a b:List Value):Aw (a++b)=Aw a++Aw b:=by simp[Aw]
theorem E7 (h:Ax sz es):∀ x∈Aw es,Bh x=true:=by
 intro x hx;obtain⟨e,he,hx⟩:=Ax3.1 hx;exact (h e he).2 x hx
theorem Ax.append {a b:List Value}(h:Ax sz a)(k:Ax sz b):Ax sz (a++b):=fun e he=>(Ati.1 he).elim (h e) (k e)
theorem Ik {p:Value->Bool}{sz:Nat}:∀ {es:List Value},Vu p sz es->∀ {j i:Nat} {e x:Value},es[j]?=some e->e.cells[i]?=some x->(Aw es)[j*sz+i]?=some x
 |[],_,j,i,e,x,hj,_=>by simp at hj
 |d::es,h,j,i,e,x,hj,hi=>by
  have hd:=(h d mV).1;have hr:Vu p sz es:=fun x hx=>h x (Auv _ hx);have e1:Aw (d::es)=d.cells.toList++Aw es:=by simp[Aw]
  rw[e1];cases j with
  |zero =>
   simp at hj;subst hj;have:i<d.cells.size:=(Ay0.1 hi).1;rw[Atl gV];simpa using hi
  |succ j =>
   simp at hj;rw[At1 (by simp[hd,At2];omega)];have:=Ik hr hj hi;rw[<-this];congr 1;simp[hd,At2];omega
def Ae (m0 m:PH)(v:Value)(t:TypeId)(sz:Nat)(es:List Value):Prop :=
 Ax sz es/\((v=.slice none 0 0/\es = []/\m=m0) \/
  ∃ g cap rest,m0 g=none/\m=m0.upd g (.cells (Aw es++rest).toArray t (0,0))/\v=.slice (some ⟨g,0,none⟩) es.length cap/\es.length<=cap/\(Aw es++rest).length=cap*sz/\∀ x∈rest,Bh x=true)
theorem Ae.nil (m:PH)(t:TypeId)(sz:Nat):Ae m m (.slice none 0 0) t sz []:=⟨fun _ h=>absurd h mV,.inl ⟨rfl,rfl,rfl⟩⟩
theorem Ae.shape {m0 m:PH}(h:Ae m0 m v t sz es):∃ a cap,v=.slice a es.length cap:=by
 rcases h.2 with ⟨rfl,rfl,_⟩|⟨g,cap,rest,_,_,rfl,_⟩
 ·grind
 ·grind
theorem Dx {P:Program}{t e:TypeId}{sz bt:Nat}{z:Value}(h:Kv P t=some (e,sz,bt,z)):P.underlying t=some (.slice e)/\∃ i,P.info? e=some i/\i.zero=some z/\i.size=sz/\i.bytes=bt:=by
 unfold Kv at h;split at h
 ·grind
 ·cases h
theorem Hq (h:z.toList.all Bh=true)(n:Nat):∀ x∈(Builtin.zeroCells z n).toList,Bh x=true:=by
 intro x hx;simp[Builtin.zeroCells]at hx;obtain⟨i,hi,rfl⟩:=hx;rw[Atx]at h;by_cases hz:z.size=0
 ·grind
 ·have hlt:i%z.size<z.size:=Au3 _ oV;refine h _ ?_;rw[getElem!_pos z _ hlt];simp
theorem Zb (h:z.toList.all Bh=true)(n:Nat)(hz:z.size≠0):∀ x∈(madeCells z n).toList,Bh x=true:=by
 intro x hx;simp[madeCells]at hx;obtain⟨i,hi,rfl⟩:=hx;rw[Atx]at h;have hlt:i%z.size<z.size:=Au3 _ oV;refine h _ ?_;rw[getElem!_pos z _ hlt];simp
section worlds
variable {u m:PH} {w:World}
theorem B1.newM (h:B1 u m w)(hw:∀ x∈cs.toList,Bh x=true):B1 u (m.upd w.heap.size (.cells cs t (0,0))) (w.alloc (.cells cs t))/\B8 u m w u (m.upd w.heap.size (.cells cs t (0,0))) (w.alloc (.cells cs t))/\m w.heap.size=none/\u w.heap.size=none:=by
 have hm:m w.heap.size=none:=h.pm.none (Atb _);have hu:u w.heap.size=none:=h.pu.none (Atb _);have g1:=h.alloc (cs:=cs) (t:=t) (fr:=(0,0)) (fun j z e=>I1 (hw _ (by obtain⟨hj,he⟩:=Ay0.1 e;rw[<-he];simp)) z rfl);refine⟨⟨g1.pu,fun g o hg=>?_,fun g=>?_,g1.cl⟩,⟨by rw[Bu];omega,fun g hg _=>A9 _ _ hg,fun _ _=>rfl,fun g hg hm=>by rw[Ac _ _ oV];exact hm,⟨rfl,rfl⟩,fun _=>⟨rfl,Atb _⟩⟩,hm,hu⟩
 ·by_cases e:g=w.heap.size
  ·subst e;rw[Ab]at hg;rw[Cg];exact hg
  ·rw[Ac _ _ e]at hg;exact g1.pm g o hg
 ·by_cases e:g=w.heap.size
  ·grind
  ·rw[Ac _ _ e];exact h.ap g
theorem B1.drew' (h:B1 u m w):B1 u m w.drew:=⟨h.pu,h.pm,h.ap,h.cl⟩
theorem B1.less (h:B1 u m w){m':PH}(hl:PH.le m' m):B1 u m' w:=by
 refine⟨h.pu,fun g o hg=>h.pm g o (hl g o hg),fun g=>(h.ap g).imp id fun e=>?_,h.cl⟩;cases hg:m' g with
 |none=>rfl
 |some o=>rw[hl g o hg]at e;cases e
theorem B1.setM (h : B1 u m w)  {cs cs' : Array Value}  (hg : m g = some (.cells cs t (0, 0))) (hw : ∀ x ∈ cs'.toList, Bh x = true) : B1 u (m.upd g (.cells cs' t (0, 0))) (w.setRow g cs') ∧ B8 u m w u (m.upd g (.cells cs' t (0, 0))) (w.setRow g cs') := by
  have hb := h.pm g _ hg
  have hug : u g = none := by rcases h.ap g with e | e
                              · exact e
                              · grind
  have hsame := setRow_heap w g cs cs' t (0, 0) hb
  have hother : ∀ k, k ≠ g → (w.setRow g cs').heap[k]? = w.heap[k]? := fun k hk => setRow_other w g k cs' hk
  refine ⟨⟨fun k o hk => ?_, fun k o hk => ?_, fun k => ?_, fun k cs1 t1 fr1 j z hk hj => ?_⟩, ⟨by rw [setRow_size]; exact Atb _, fun k hk hm => hother k (fun e => by rw [e, hg] at hm; cases hm), fun _ _ => rfl, fun k hk hm => by rw [Ac _ _ (fun e => by rw [e, hg] at hm; cases hm)]; exact hm, ⟨rfl, rfl⟩, fun _ => ⟨rfl, Atb _⟩⟩⟩
  · rw [hother k (fun e => by rw [e, hug] at hk; cases hk)]; exact h.pu k o hk
  · by_cases e : k = g
    · subst e; rw [Ab] at hk; rw [hsame]; exact hk
    · rw [Ac _ _ e] at hk; rw [hother k e]; exact h.pm k o hk
  · by_cases e : k = g
    · grind
    · rw [Ac _ _ e]; exact h.ap k
  · by_cases e : k = g
    · subst e
      rw [hsame] at hk
      obtain ⟨rfl, _, _⟩ := hk
      obtain ⟨hlt, he⟩ := Ay0.1 hj
      exact absurd he (I1 (hw _ mV) z)
    · rw [hother k e] at hk; exact h.cl k cs1 t1 fr1 j z hk hj
theorem B1.newU (h:B1 u m w)(o:Obj):B1 (u.upd w.heap.size o) m (w.alloc o)/\B8 u m w (u.upd w.heap.size o) m (w.alloc o)/\m w.heap.size=none/\u w.heap.size=none:=by
 have hm:m w.heap.size=none:=h.pm.none (Atb _);have hu:u w.heap.size=none:=h.pu.none (Atb _);refine⟨⟨fun g o' hg=>?_,fun g o' hg=>?_,fun g=>?_,fun g cs t fr j z hg hj=>?_⟩,⟨by rw[Bu];omega,fun g hg _=>A9 _ _ hg,fun g hg=>Ac _ _ oV,fun g hg hm=>hm,⟨rfl,rfl⟩,fun _=>⟨rfl,Atb _⟩⟩,hm,hu⟩
 ·by_cases e:g=w.heap.size
  ·subst e;rw[Ab]at hg;rw[Cg];exact hg
  ·rw[Ac _ _ e]at hg;rw[A9 _ _ (h.pu.lt hg)];exact h.pu g o' hg
 ·rw[A9 _ _ (h.pm.lt hg)];exact h.pm g o' hg
 ·by_cases e:g=w.heap.size
  ·grind
  ·rw[Ac _ _ e];exact h.ap g
 ·by_cases e:g=w.heap.size
  ·subst e;rw[Cg]at hg;rw[Ab];exact hg
  ·rw[Ac _ _ e];have hlt:=B0 hg;rw[Bu]at hlt;rw[A9 _ _ oV]at hg;exact h.cl g cs t fr j z hg hj
end worlds
def Eu (u:PH)(b off sz:Nat)(xs:List Value):Prop:=∀ j e,xs[j]?=some e->ElP u b (off+j*sz) e
theorem Eu.mono {u u':PH}{b off sz:Nat}{xs:List Value}(h:Eu u b off sz xs)(hl:PH.le u u'):Eu u' b off sz xs:=fun j e hj=>(h j e hj).mono hl
theorem Tz {sz:Nat}(hs:0<sz):∀ {xs:List Value},Ax sz xs->∀ {k:Nat} {x:Value},(Aw xs)[k]?=some x->∃ j i e,k=j*sz+i/\xs[j]?=some e/\e.cells[i]?=some x
 |[],_,k,x,h=>by simp[Aw]at h
 |d::xs,ho,k,x,h=>by
  have hd:=(ho d mV).1;have e1:Aw (d::xs)=d.cells.toList++Aw xs:=by simp[Aw]
  rw[e1,List.getElem?_append]at h;split at h
  ·exact⟨0,k,d,mV,mV,by simpa using h⟩
  ·rename_i hk;obtain⟨j,i,e,h1,h2,h3⟩:=Tz hs (fun x hx=>ho x (Auv _ hx)) h;refine⟨j+1,i,e,?_,by simpa using h2,h3⟩;simp[hd]at h1 hk;rw[At2];omega
theorem Eu.cells {u:PH}{w:World}{b off sz:Nat}(hs:0<sz)(h:Eu u b off sz xs)(ho:Ax sz xs)(hp:Ek u w):∀ j v,(Aw xs)[j]?=some v->w.cell? ((⟨b,off,none⟩:Addr).add j)=some v:=by
 intro k x hk;obtain⟨j,i,e,rfl,h2,h3⟩:=Tz hs ho hk;rw[Dp];have:=(h j e h2 i x h3).cell hp;rw[show off+(j*sz+i)=off+j*sz+i by omega];exact this
section rules
variable {P:Program} [A7 P] {fn:Func} {Post:By} {st:List KI×S} {u m:PH}
theorem Bs {w w':World}{K:Value->World->Prop}(h:(execOp env o).run P w=.ok (.value v) w')(hk:K v w'):E3 P env o w K:=by
 unfold E3;rw[h];exact hk
theorem D8 {inf:Option (TypeId×Nat×Nat×Value)}(h:A8 P env o.op=.app inf true xs):Ld o.op=true/\En o.op=false/\∃ t,Kv P t=inf/\∀ w,(execOp env o).run P w=((Builtin.append_ #[t,t] o.type xs.toArray).run P w).andThen fun v w'=>.ok (.value v) w':=by
 obtain⟨dst,opp,type,pos,after,guard⟩:=o;cases opp<;>simp only[A8]at h<;>try cases h
 ·grind
 rename_i c;obtain⟨cal,args,tys⟩:=c;simp only at h;split at h
 ·grind
 ·split at h
  ·split at h
   ·rename_i t t' htt;simp only[Vr.app.injEq]at h;obtain⟨rfl,h2,rfl⟩:=h;have:=Aug h2;have hty:tys = #[t,t]:=by grind
    refine⟨rfl,rfl,t,rfl,fun w=>?_⟩;have:(args.map env)=(args.toList.map env).toArray:=by grind
    simp[execOp,resolve,invoke,builtin,hty,this]
   ·cases h
  ·cases h
 ·cases h
theorem Pq {t e:TypeId}{sz bt:Nat}{z:Value}(m0:PH)(es xs:List Value)(v:Value)(b off n c:Nat)(ty:TypeId)(hi:Kv P t=some (e,sz,bt,z))(hz:z.cells.toList.all Bh=true)(hzs:z.cells.size=sz)(hsz:0<sz)
 (ha:Ae m0 m v e sz es) (ho:Ax sz xs) (hn:xs.length=n) (hn0:0<n) (hb:(es.length+n)*bt<=140737488355328) (hb2:es.length+n<=9223372036854775807) {w:World} (hgd:B1 u m w)
 (hsrc:∀ j v,(Aw xs)[j]?=some v->w.cell? ((⟨b,off,none⟩:Addr).add j)=some v) :
 ∃ v' w' m',(Builtin.append_ #[t,t] ty #[v,.slice (some ⟨b,off,none⟩) n c]).run P w=.ok v' w'/\B1 u m' w'/\B8 u m w u m' w'/\Ae m0 m' v' e sz (es++xs):=by
 obtain⟨hu,i,hi1,hi2,rfl,rfl⟩:=Dx hi;have hfl:=A4 ho;have hok:=ha.1.append ho;rcases ha.2 with ⟨rfl,rfl,rfl⟩|⟨g,cap,rest,hg0,rfl,rfl,hcap,hlen,hrest⟩
 ·simp only[Av1,Aud]at hb hb2;have hr:=run_append_nil (P:=P) w t ty e i z hu hi1 hi2 ⟨b,off,none⟩ n c (Aw xs) (by rw[hfl,hn]) hsrc hn0 oV oV;have hcell:∀ x∈((Aw xs).toArray++Builtin.zeroCells z.cells (grownCap w n 0 e-n)).toList,Bh x=true:=fun x hx=>by
   simp only[A12,Ati]at hx;rcases hx with hx|hx
   ·exact E7 ho x hx
   ·exact Hq hz _ x hx
  obtain⟨g1,g2,g3,_⟩:=hgd.drew'.newM (t:=e) hcell;refine⟨_,_,_,hr,g1,⟨g2.sz,g2.old,g2.us,g2.ms,g2.io,fun f=>⟨(g2.dr f).tape,Azm (g2.dr f).dr⟩⟩,hok,.inr ⟨w.heap.size,grownCap w n 0 e,(Builtin.zeroCells z.cells (grownCap w n 0 e-n)).toList,g3,?_,?_,?_,?_,Hq hz _⟩⟩
  ·congr 2;apply Ayr;simp
  ·simp[hn]
  ·simp only[Ava,hn];exact grownCap_ge w n 0 e
  ·have:=grownCap_ge w n 0 e;simp only[Ava,Atg,hfl,hn,Awc,size_zeroCells,hzs];rw[<-At2];congr 1;omega
 ·have hgw:=hgd.pm g _ (Ab _ _ _);have hfe:=A4 ha.1;by_cases hroom:es.length+n<=cap
  ·have hle:(es.length+n)*i.size<=cap*i.size:=Ats _ hroom;rw[At2]at hle;have hr:=run_append_room (P:=P) w t ty e i hu hi1 g es.length cap (Aw es++rest).toArray hgw ⟨b,off,none⟩ n c (Aw xs) (by rw[hfl,hn]) hsrc (fun x hx=>Ie (E7 ho x hx)) hroom (by simp only[Azi];rw[hlen,hfl,hn];omega);have e1:(Aw es++rest).toArray.toList.take (es.length*i.size)=Aw es:=by
    simp only[Av4];rw[<-hfe,A3b]
   rw[e1]at hr;have hd:∀ x∈(Aw es++rest).toArray.toList.drop (es.length*i.size+(Aw xs).length),Bh x=true:=by
    intro x hx;simp only[Av4]at hx;rw[<-hfe,<-A0e,A0f]at hx;exact hrest x (Avz hx)
   have hcell:∀ x∈(Aw es++Aw xs++(Aw es++rest).toArray.toList.drop (es.length*i.size+(Aw xs).length)).toArray.toList,Bh x=true:=by
    intro x hx;simp only[Av4]at hx;rcases Ati.1 hx with hx|hx
    ·rcases Ati.1 hx with hx|hx
     ·exact E7 ha.1 x hx
     ·exact E7 ho x hx
    ·exact hd x (by simpa using hx)
   obtain⟨g1,g2⟩:=hgd.setM (Ab _ _ _) hcell;rw[Dz]at g1 g2;refine⟨_,_,_,hr,g1,g2,hok,.inr ⟨g,cap,_,hg0,by rw[C0],by simp[hn],by simp[hn];exact hroom,?_,hd⟩⟩;rw[C0];simp only[Atg,hfe,hfl,hn,Av4,List.length_drop];simp only[Atg,hfe]at hlen;omega
  ·have hold:∀ j v,(Aw es)[j]?=some v->w.cell? ((⟨g,0,none⟩:Addr).add j)=some v:=by
    intro j x hj;rw[Dp];simp[A0j,hgw];rw[Atl (by obtain⟨h,_⟩:=Atc.1 hj;exact h)];exact hj
   have hr:=run_append_grow (P:=P) w t ty e i z hu hi1 hi2 ⟨g,0,none⟩ es.length cap (Aw es) hfe hold ⟨b,off,none⟩ n c (Aw xs) (by rw[hfl,hn]) hsrc oV oV (growslice_fits oV hb);have hcell:∀ x∈((Aw es).toArray++(Aw xs).toArray++Builtin.zeroCells z.cells (grownCap w (es.length+n) cap e-(es.length+n))).toList,Bh x=true:=fun x hx=>by
    simp only[A12,Ati]at hx;rcases hx with (hx|hx)|hx
    ·exact E7 ha.1 x hx
    ·exact E7 ho x hx
    ·exact Hq hz _ x hx
   obtain⟨g1,g2,g3,_⟩:=hgd.drew'.newM (t:=e) hcell;have hdsz:w.drew.heap.size=w.heap.size:=rfl;rw[hdsz]at g1 g2 g3;have hng:w.heap.size≠g:=fun h=>by have:=B0 hgw;omega
   have hm0:m0 w.heap.size=none:=by
    have:=g3;rw[Ac _ _ hng]at this;exact this
   refine⟨_,_,m0.upd w.heap.size (.cells ((Aw es).toArray++(Aw xs).toArray++Builtin.zeroCells z.cells (grownCap w (es.length+n) cap e-(es.length+n))) e (0,0)),hr,g1.less (fun k o hk=>?_),⟨g2.sz,g2.old,g2.us,fun k hk hmk=>?_,g2.io,fun f=>⟨(g2.dr f).tape,Azm (g2.dr f).dr⟩⟩,hok,.inr ⟨w.heap.size,grownCap w (es.length+n) cap e,(Builtin.zeroCells z.cells (grownCap w (es.length+n) cap e-(es.length+n))).toList,hm0,?_,?_,?_,?_,Hq hz _⟩⟩
   ·by_cases hk1:k=w.heap.size
    ·subst hk1;rw[Ab]at hk⊢;exact hk
    ·rw[Ac _ _ hk1]at hk⊢;rw[Ac _ _ (fun h=>by rw[h,hg0]at hk;cases hk)];exact hk
   ·rw[Ac _ _ oV];by_cases hkg:k=g
    ·grind
    ·rw[Ac _ _ hkg]at hmk;exact hmk
   ·congr 2;apply Ayr;simp[C0]
   ·grind
   ·simp only[Atg,hn];exact grownCap_ge w _ cap e
   ·have:=grownCap_ge w (es.length+n) cap e;rw[C0];simp only[Atg,hfl,hfe,Awc,size_zeroCells,hzs];rw[<-At2,<-At2];congr 1;omega
theorem G.append (e:TypeId)(sz bt:Nat)(z:Value)(m0:PH)(es xs:List Value)(v:Value)(b off n c:Nat)(h:Al P (adv P st)=.app (some (e,sz,bt,z)) true [v,.slice (some ⟨b,off,none⟩) n c])(hz:z.cells.toList.all Bh=true)(hzs:z.cells.size=sz)(hsz:0<sz)
 (ha:Ae m0 m v e sz es) (hx:Eu u b off sz xs) (ho:Ax sz xs) (hn:xs.length=n) (hn0:0<n) (hb:(es.length+n)*bt<=140737488355328) (hb2:es.length+n<=9223372036854775807)
 (k:∀ v' m',Ae m0 m' v' e sz (es++xs)->G P fn Post (nx (adv P st) v') u m'):G P fn Post st u m:=by
 refine G.big (K:=fun v' u' m'=>u'=u/\Ae m0 m' v' e sz (es++xs)) h mV (fun env op hv=>(D8 (P:=P) (o:=⟨none,op,0, "",#[],none⟩) hv).2.1) (.inr fun env op hv=>(D8 (P:=P) (o:=⟨none,op,0, "",#[],none⟩) hv).1) (fun env o hview w hgd=>?_) (fun v' u' m' _ hk=>?_)
 ·obtain⟨_,_,t,hi,hex⟩:=D8 (P:=P) hview;obtain⟨v',w',m',h1,h2,h3,h4⟩:=Pq (P:=P) m0 es xs v b off n c o.type hi hz hzs hsz ha ho hn hn0 hb hb2 hgd (hx.cells hsz ho hgd.pu);exact Bs (by rw[hex,h1];rfl) ⟨u,m',h2,h3,rfl,h4⟩
 ·grind
end rules
end
section
variable [Ca] [Pu] [Df]
variable {P:Program} [A7 P] {fn:Func} {Post:By} {st:List KI×S} {u m:PH}
theorem G.k (e:TypeId)(sz bt:Nat)(z:Value)(m0:PH)(es xs:List Value)(v:Value)(b off n c:Nat)(ha:Ae m0 m v e sz es)(hx:Eu u b off sz xs)(ho:Ax sz xs)(k:∀ v' m',Ae m0 m' v' e sz (es++xs)->G P fn Post (nx (adv P st) v') u m')(h:Al P (adv P st)=.app (some (e,sz,bt,z)) true [v,.slice (some ⟨b,off,none⟩) n c]:=by kernel_rfl)(hz:z.cells.toList.all Bh=true:=by rfl)(hzs:z.cells.size=sz:=by rfl)(hsz:0<sz:=by omega)(hn:xs.length=n:=by rfl)(hn0:0<n:=by omega)(hb:(es.length+n)*bt<=140737488355328:=by simp;omega)(hb2:es.length+n<=9223372036854775807:=by simp;omega):G P fn Post st u m:=G.append e sz bt z m0 es xs v b off n c h hz hzs hsz ha hx ho hn hn0 hb hb2 k
end
section
variable {c j n sz:Nat}{e x y:Value}{env:Operand->Value}{es:List Value}{inf:Option (TypeId×Nat×Nat×Value)}{m0:PH}{o:Op}{t:TypeId}
variable [Ca] [Df] [Pu]
section fill
theorem T0 {p:Value->Bool}{sz:Nat}:∀ (es:List Value) (k:Nat) (cells:Array Value),Vu p sz es->(k+es.length)*sz<=cells.size ->
 Aze (fun i=>some (i*sz,sz)) cells (es.zipIdx k |>.map fun p=>(p.2,p.1))=some (cells.toList.take (k*sz)++Aw es++cells.toList.drop ((k+es.length)*sz)).toArray
 |[],k,cells,_,h=>by simp[Aze,Aw]
 |e::es,k,cells,ho,h=>by
  have h1:=(ho e mV).1;have ho':Vu p sz es:=fun x hx=>ho x (Auv _ hx);have hm:(k+(es.length+1))*sz=k*sz+sz+es.length*sz:=by rw[At2,At2];omega
  simp only[Auh]at h;rw[hm]at h;simp only[List.zipIdx_cons,List.map_cons];rw[Xo _ _ _ (k*sz) sz _ _ rfl h1 oV];rw[T0 es (k+1) _ ho' (by simp[h1];rw[At2,At2];omega)]
  congr 2
  have hl:(cells.toList.take (k*sz)++e.cells.toList).length=(k+1)*sz:=by simp[h1,At2];omega
  have e1:(cells.toList.take (k*sz)++e.cells.toList++cells.toList.drop (k*sz+sz)).toArray.toList.take ((k+1)*sz)=cells.toList.take (k*sz)++e.cells.toList:=by
   simp only[Av4];rw[<-hl,A3b]
  have e2:(cells.toList.take (k*sz)++e.cells.toList++cells.toList.drop (k*sz+sz)).toArray.toList.drop ((k+1+es.length)*sz)=cells.toList.drop ((k+(es.length+1))*sz):=by
   simp only[Av4];rw[show (k+1+es.length)*sz=(k+1)*sz+es.length*sz by rw[At2],<-hl,<-A0e,A0f,A0e]
   congr 1;rw[hm]
  rw[e1,e2];simp[Aw]
end fill
section rules
variable {P:Program} [A7 P] {fn:Func} {Post:By} {st:List KI×S} {u m:PH}
theorem Fp {ps:List (Nat×Value)}(h:A8 P env o=.buildS inf n ps):∃ t qs,o=.buildSlice t n qs/\(qs.map fun (i,x)=>(i,env x))=ps.toArray/\Kv P t=inf:=by
 cases o<;>simp only[A8]at h<;>try cases h
 any_goals ((repeat' split at h)<;>cases h;done)
 ·grind
theorem Wo (h:A8 P env o=.make inf x y):∃ t X Y,o=.makeSlice t X Y/\env X=x/\env Y=y/\Kv P t=inf:=by
 cases o<;>simp only[A8]at h<;>try cases h
 any_goals ((repeat' split at h)<;>cases h;done)
 ·grind
theorem Gu {sz:Option Nat}(h:A8 P env o=.store sz x y):∃ t X Y,o=.store t X Y/\env X=x/\env Y=y/\szB P t=sz:=by
 cases o<;>simp only[A8]at h<;>try cases h
 any_goals ((repeat' split at h)<;>cases h;done)
 ·grind
theorem G.buildW {p:Value->Bool}(e:TypeId)(sz bt:Nat)(z:Value)(es:List Value)(h:Al P (adv P st)=.buildS (some (e,sz,bt,z)) es.length (es.zipIdx.map fun p=>(p.2,p.1)))(ho:Vu p sz es)(hzs:z.cells.size=sz)(hsz:0<sz)(hn0:0<es.length)(hb:es.length*sz<=16777216)
 (k:∀ g u',PH.le u u'->Eu u' g 0 sz es->G P fn Post (nx (adv P st) (.slice (some ⟨g,0,none⟩) es.length es.length)) u' m):G P fn Post st u m:=by
 refine G.big (K:=fun v' u' m'=>m'=m/\∃ g,v'=.slice (some ⟨g,0,none⟩) es.length es.length/\Eu u' g 0 sz es) h mV (fun env op hv=>?_) (.inl fun v u' m' hk=>by rw[hk.1];exact PH.le_refl _) (fun env o hview w hgd=>?_) (fun v' u' m' hle hk=>?_)
 ·obtain⟨t,qs,rfl,_⟩:=Fp hv;rfl
 ·obtain⟨t,qs,e1,e2,hi⟩:=Fp hview;obtain⟨dst,opp,type,pos,after,guard⟩:=o;simp only at e1;subst e1;obtain⟨hu,i,hi1,hi2,rfl,rfl⟩:=Dx hi;obtain⟨g1,g2,g3,g4⟩:=hgd.newU (.cells (Aw es).toArray e (0,0));have hfl:=A4 ho;have hne:es.length*i.size≠0:=by have:=Nat.mul_pos hn0 hsz;omega
  have hfill:=T0 es 0 ((A0m (es.length*i.size)).map (z.cells[· % z.cells.size]!)) ho mV;have e0:((A0m (es.length*i.size)).map (z.cells[· % z.cells.size]!)).toList.drop (es.length*i.size) = []:=by grind
  simp only[Aud,e0]at hfill;refine Bs (w':=w.alloc (.cells (Aw es).toArray e (0,0))) (v:=.slice (some ⟨w.heap.size,0,none⟩) es.length es.length) ?_ ⟨_,m,g1,g2,rfl,_,rfl,?_⟩
  ·simp only[execOp,e2];simp[Instr.buildSlice,run_underlying hu,sizeOf,typeInfo,zeroValue,hi1,hi2,hne,hfill,newRow,show ¬ 16777216<es.length*i.size by omega]
  ·intro j x hj ii y hy;refine⟨_,_,_,Ab _ _ _,?_⟩;rw[Avh,Aud];exact Ik ho hj hy
 ·grind
theorem G.buildU (e:TypeId)(sz bt:Nat)(z:Value)(es:List Value)(h:Al P (adv P st)=.buildS (some (e,sz,bt,z)) es.length (es.zipIdx.map fun p=>(p.2,p.1)))(ho:Ax sz es)(hzs:z.cells.size=sz)(hsz:0<sz)(hn0:0<es.length)(hb:es.length*sz<=16777216)
 (k:∀ g u',PH.le u u'->Eu u' g 0 sz es->G P fn Post (nx (adv P st) (.slice (some ⟨g,0,none⟩) es.length es.length)) u' m):G P fn Post st u m:=G.buildW e sz bt z es h ho hzs hsz hn0 hb k
theorem G.make (e : TypeId) (sz bt : Nat) (z : Value) (n : Nat) (h : Al P (adv P st) = .make (some (e, sz, bt, z)) (.int .i64 (n : Int)) (.int .i64 (n : Int))) (hz : z.cells.toList.all Bh = true) (hzs : z.cells.size = sz) (hsz : 0 < sz)
    (hb : bt * n ≤ 281474976710656) (hb2 : n ≤ 9223372036854775807) (k : ∀ v' m', Ae m m' v' e sz (As6 n z) → (∃ a, v' = .slice (some a) n n) → G P fn Post (nx (adv P st) v') u m') : G P fn Post st u m := by
  refine G.big (K := fun v' u' m' => u' = u ∧ PH.le m m' ∧ Ae m m' v' e sz (As6 n z) ∧ ∃ a, v' = .slice (some a) n n) h mV (fun env op hv => by obtain ⟨t, X, Y, rfl, _⟩ := Wo hv; rfl) (.inl fun v u' m' hk => hk.2.1) (fun env o hview w hgd => ?_) (fun v' u' m' hle hk => ?_)
  · obtain ⟨t, X, Y, e1, e2, e3, hi⟩ := Wo hview
    obtain ⟨dst, opp, type, pos, after, guard⟩ := o
    simp only at e1; subst e1
    obtain ⟨hu, i, hi1, hi2, rfl, rfl⟩ := Dx hi
    have hb' : (i.bytes : Int) * (n : Int) ≤ 281474976710656 := by have : ((i.bytes * n : Nat) : Int) ≤ 281474976710656 := by omega
                                                                   rwa [Aws] at this
    have hr := run_make (P := P) w t e i z hu hi1 hi2 .i64 .i64 n n oV (Int.le_refl _) hb' oV
    obtain ⟨g1, g2, g3, g4⟩ := hgd.newM (t := e) (Zb hz (n * i.size) oV)
    have hok : Ax i.size (As6 n z) := fun x hx => by
      rw [List.eq_of_mem_replicate hx]
      exact ⟨hzs, fun y hy => by rw [Atx] at hz; exact hz y hy⟩
    have hflat : (Aw (As6 n z)).toArray = madeCells z.cells (n * i.size) := by
      apply Array.ext
      · rw [size_madeCells, Azi, A4 hok, Aur]
      · intro j h1 h2
        rw [size_madeCells] at h2
        have hlt : j % i.size < i.size := Au3 _ hsz
        have hq : j / i.size < n := (Nat.div_lt_iff_lt_mul hsz).2 h2
        have hget := Ik hok (j := j / i.size) (i := j % i.size) (e := z) (x := z.cells[j % i.size]'oV) (by simp [hq]) mV
        rw [show j / i.size * i.size + j % i.size = j by rw [Nat.mul_comm]; exact Nat.div_add_mod _ _] at hget
        have : (Aw (As6 n z)).toArray[j]? = some z.cells[j % i.size] := by grind
        rw [Array.getElem?_eq_getElem h1] at this
        have h3 := Option.some.inj this
        rw [h3]
        simp only [madeCells, Array.getElem_map, Array.getElem_range, hzs]
        rw [getElem!_pos z.cells _ oV]
    refine Bs (w' := w.alloc (.cells (madeCells z.cells (n * i.size)) e (0, 0))) (v := .slice (some ⟨w.heap.size, 0, none⟩) n n) ?_ ⟨u, _, g1, g2, rfl, K6 _ g3, ⟨hok, .inr ⟨w.heap.size, n, [], g3, ?_, by simp, by simp, ?_, by simp⟩⟩, _, rfl⟩
    · simp only [execOp, e2, e3]
      simp [hr]
    · grind
    · rw [Auu, A4 hok, Aur]
  · grind
theorem Pr {sz:Nat}:∀ {es:List Value} {j:Nat} {e:Value},Ax sz es->e.cells.size=sz->j<es.length->Aw (es.set j e)=(Aw es).take (j*sz)++e.cells.toList++(Aw es).drop (j*sz+sz)
 |[],j,e,_,_,h=>by simp at h
 |d::es,j,e,ho,he,h=>by
  have hd:=(ho d mV).1;have e1:∀ d (l:List Value),Aw (d::l)=d.cells.toList++Aw l:=fun d l=>by simp[Aw]
  cases j with
  |zero =>
   rw[List.set_cons_zero,e1,e1];have:d.cells.toList.length=sz:=by simpa using hd
   simp only[Ax5,List.take_zero,Ava,Aud];rw[<-this,A0f]
  |succ j =>
   rw[List.set_cons_succ,e1,e1,Pr (sz:=sz) (fun x hx=>ho x (Auv _ hx)) he (by simpa using h)];have hl:d.cells.toList.length=sz:=by simpa using hd
   rw[List.take_append,List.drop_append,hl];have a1:(j+1)*sz-sz=j*sz:=by rw[At2];omega
   have a2:(j+1)*sz+sz-sz=j*sz+sz:=by rw[At2];omega
   have b1:d.cells.toList.take ((j+1)*sz)=d.cells.toList:=Atp (by rw[hl,At2];omega);have b2:d.cells.toList.drop ((j+1)*sz+sz) = []:=List.drop_eq_nil_of_le (by rw[hl,At2];omega);rw[a1,a2,b1,b2];simp
theorem Ax.set (h:Ax sz es)(he:e.cells.size=sz/\∀ x∈e.cells.toList,Bh x=true):Ax sz (es.set j e):=by
 intro x hx;rcases List.mem_or_eq_of_mem_set hx with hx|rfl
 ·exact h x hx
 ·exact he
theorem G.storeA {t:TypeId}(sz:Nat)(m0:PH)(es:List Value)(b n c j:Nat)(e:Value)(h:Al P (adv P st)=.store (some sz) (.pointer (some ⟨b,0+j*sz,none⟩)) e)(ha:Ae m0 m (.slice (some ⟨b,0,none⟩) n c) t sz es)(hj:j<es.length)(he:e.cells.size=sz)(hc:e.cells.toList.all Bh=true)
 (k:∀ m',Ae m0 m' (.slice (some ⟨b,0,none⟩) n c) t sz (es.set j e)->G P fn Post (nx (adv P st) undef) u m'):G P fn Post st u m:=by
 refine G.big (K:=fun v' u' m'=>u'=u/\v'=undef/\Ae m0 m' (.slice (some ⟨b,0,none⟩) n c) t sz (es.set j e)) h mV (fun env op hv=>?_) (.inr fun env op hv=>?_) (fun env o hview w hgd=>?_) (fun v' u' m' _ hk=>?_)
 ·obtain⟨t',X,Y,rfl,_⟩:=Gu hv;rfl
 ·obtain⟨t',X,Y,rfl,_⟩:=Gu hv;rfl
 ·obtain⟨t',X,Y,e1,e2,e3,ht⟩:=Gu hview;obtain⟨dst,opp,type,pos,after,guard⟩:=o;simp only at e1;subst e1;rw[Atx]at hc;rcases ha.2 with ⟨hv,_⟩|⟨g,cap,rest,hg0,rfl,hv,hcap,hlen,hrest⟩
  ·grind
  ·obtain⟨rfl,rfl,rfl⟩:=hv;have hgw:=hgd.pm b _ (Ab _ _ _);have hfe:=A4 ha.1;have hjm:j*sz+sz<=es.length*sz:=by
    have:=Ats sz (show j+1<=es.length by omega);rw[At2]at this;omega
   have hst:=run_storeCells_at P b (j*sz) t e.cells.toList 0 (Aw es++rest).toArray w hgw (by simp[he];omega) (fun x hx=>Ie (hc x hx));simp only[Nat.add_zero,Awc,he]at hst;have ecells:(Aw es++rest).take (j*sz)++e.cells.toList++(Aw es++rest).drop (j*sz+sz)=Aw (es.set j e)++rest:=by
    rw[Pr ha.1 he hj,List.take_append_of_le_length oV,List.drop_append_of_le_length oV];simp
   rw[ecells]at hst;have hok:=ha.1.set (j:=j) (e:=e) ⟨he,hc⟩;have hcell:∀ x∈(Aw (es.set j e)++rest).toArray.toList,Bh x=true:=by
    intro x hx;simp only[Ati]at hx;exact hx.elim (E7 hok x) (hrest x)
   obtain⟨g1,g2⟩:=hgd.setM (Ab _ _ _) hcell;rw[Dz]at g1 g2;unfold E3;have hex:(execOp env ⟨dst,.store t' X Y,type,pos,after,guard⟩).run P w=.ok .skip (w.setRow b (Aw (es.set j e)++rest).toArray):=by
    simp only[execOp,e2,e3];simp[Instr.storeAt,Aw2,storeVar,Be ht,he,hst]
   rw[hex];refine⟨u,_,g1,g2,rfl,rfl,hok,.inr ⟨b,c,rest,hg0,rfl,mV,by simpa using hcap,?_,hrest⟩⟩;simp only[Atg,A4 hok,Avx,hfe]at hlen⊢;exact hlen
 ·grind
theorem Ae.el {b n c j:Nat}(ha:Ae m0 m (.slice (some ⟨b,0,none⟩) n c) t sz es)(hj:es[j]?=some e):ElP m b (0+j*sz) e:=by
 rcases ha.2 with ⟨hv,_⟩|⟨g,cap,rest,hg0,rfl,hv,hcap,hlen,hrest⟩
 ·grind
 ·obtain⟨rfl,rfl,rfl⟩:=hv;intro i x hx;refine⟨_,_,_,Ab _ _ _,?_⟩;rw[Avh,Aud];have:=Ik ha.1 hj hx;rw[Atl (by obtain⟨h,_⟩:=Atc.1 this;exact h)];exact this
theorem Ae.len {a:Option Addr}(ha:Ae m0 m (.slice a n c) t sz es):n=es.length:=by
 rcases ha.2 with ⟨hv,rfl,_⟩|⟨g,cap,rest,hg0,rfl,hv,_⟩
 ·grind
 ·grind
theorem Ae.ptr {v:Value}(ha:Ae m0 m v t sz es)(h:es≠[]):∃ b c,v=.slice (some ⟨b,0,none⟩) es.length c:=by
 rcases ha.2 with ⟨_,rfl,_⟩|⟨g,cap,rest,hg0,rfl,hv,_⟩
 ·grind
 ·grind
def Ad (u:PH)(v:Value)(sz:Nat)(es:List Value):Prop:=∃ a c,v=.slice a es.length c/\es.length<=c/\∀ j e,es[j]?=some e->∃ b off,a=some ⟨b,off,none⟩/\ElP u b (off+j*sz) e
theorem Ad.mono {u u':PH}{v:Value}{sz:Nat}{es:List Value}(h:Ad u v sz es)(hl:PH.le u u'):Ad u' v sz es:=by
 obtain⟨a,c,h1,h2,h3⟩:=h;exact⟨a,c,h1,h2,fun j e hj=>by obtain⟨b,off,e1,e2⟩:=h3 j e hj;exact⟨b,off,e1,e2.mono hl⟩⟩
theorem Ad.nil (u:PH)(a:Option Addr)(c sz:Nat):Ad u (.slice a 0 c) sz []:=⟨a,c,rfl,Nat.zero_le _,fun j e h=>by simp at h⟩
theorem G.give (m0:PH)(es:List Value)(v:Value)(h:Gg (ctl P 100 st).1=true)(ha:Ae m0 m v t sz es)(h0:∀ g,Post.m0 g=none\/m0 g≠none)(k:∀ u',PH.le u u'->Ad u' v sz es->G P fn Post (ctl P 100 st) u' m0):G P fn Post st u m:=by
 refine⟨Jk 100 st ?_⟩;rcases ha.2 with ⟨rfl,rfl,rfl⟩|⟨g,cap,rest,hg0,rfl,rfl,hcap,hlen,hrest⟩
 ·exact (k u (PH.le_refl _) (Ad.nil _ _ _ _)).out
 ·have hle:∀ o,u g=none->PH.le u (u.upd g o):=fun o hu=>K6 o hu;rw[Sym.ofNo h];intro c ρ a w hm0 hr;have hgw:=hr.gd.pm g _ (Ab _ _ _);have hug:u g=none:=by
   rcases hr.gd.ap g with e|e
   ·exact e
   ·rw[Ab]at e;cases e
  have hnew:c.w0.heap.size<=g:=by
   rcases At8 g c.w0.heap.size with hlt|hge
   ·have hpm:c.m0 g=none:=by
     rw[hm0];rcases h0 g with e|e
     ·exact e
     ·exact absurd hg0 e
    have:=hr.gr.ms g hlt hpm;rw[Ab]at this;cases this
   ·grind
  have hk:=k (u.upd g (.cells (Aw es++rest).toArray t (0,0))) (hle _ hug) ⟨_,_,rfl,hcap,fun j e hj=>⟨g,0,rfl,fun i x hx=>⟨_,_,_,Ab _ _ _,by
   rw[Avh,Aud];have:=Ik ha.1 hj hx;rw[Atl (by obtain⟨h,_⟩:=Atc.1 this;exact h)];exact this⟩⟩⟩
  have hk:=hk.out;rw[Sym.ofNo h]at hk;refine hk c ρ a w hm0 ⟨hr.sz,hr.tm,hr.df.of fun r e _ hu hm=>(by
   have hne:r≠g:=fun e'=>(by rw[e',Ab]at hm;cases hm);rw[Ac _ _ hne]at hm;exact⟨e,by rw[Ac _ _ hne];exact hu,hm⟩),fun kk b hb=>?_,hr.inj,hr.lv,⟨fun g' o hg=>?_,fun g' o hg=>?_,fun g'=>?_,fun g' cs t' fr j z hg hj=>?_⟩,⟨hr.gr.sz,hr.gr.old,fun g' hg=>?_,fun g' hg hm=>?_,hr.gr.io,hr.gr.dr⟩⟩
  ·obtain⟨e1,e2,e3,e4⟩:=hr.box kk b hb;have hne:ρ kk≠g:=fun e=>by rw[e,Ab]at e4;cases e4
   refine⟨e1,e2,by rw[Ac _ _ hne];exact e3,?_⟩;rw[Ac _ _ hne]at e4;exact e4
  ·by_cases e:g'=g
   ·subst e;rw[Ab]at hg;rw[hgw];exact hg
   ·rw[Ac _ _ e]at hg;exact hr.gd.pu g' o hg
  ·refine hr.gd.pm g' o ?_;rw[Ac _ _ (fun e=>by rw[e,hg0]at hg;cases hg)];exact hg
  ·by_cases e:g'=g
   ·grind
   ·rw[Ac _ _ e];have:=hr.gd.ap g';rw[Ac _ _ e]at this;exact this
  ·by_cases e:g'=g
   ·subst e;rw[Ab,<-hgw];exact hg
   ·rw[Ac _ _ e];exact hr.gd.cl g' cs t' fr j z hg hj
  ·rw[Ac _ _ oV];exact hr.gr.us g' hg
  ·have:=hr.gr.ms g' hg hm;rw[Ac _ _ oV]at this;exact this
end rules
end
section
variable [Ca] [Pu] [Df]
variable {P:Program} [A7 P] {fn:Func} {Post:By} {st:List KI×S} {u m:PH}
theorem G.B (e:TypeId)(sz bt:Nat)(z:Value)(es:List Value)(ho:Ax sz es)(k:∀ g u',PH.le u u'->Eu u' g 0 sz es->G P fn Post (nx (adv P st) (.slice (some ⟨g,0,none⟩) es.length es.length)) u' m)(h:Al P (adv P st)=.buildS (some (e,sz,bt,z)) es.length (es.zipIdx.map fun p=>(p.2,p.1)):=by kernel_rfl)(hzs:z.cells.size=sz:=by rfl)(hsz:0<sz:=by omega)(hn0:0<es.length:=by simp)(hb:es.length*sz<=16777216:=by simp):G P fn Post st u m:=G.buildU e sz bt z es h ho hzs hsz hn0 hb k
end
section
variable {a:Option Addr}{c n:Nat}{env:Operand->Value}{l:List Nat}{o:Op}
variable [Ca] [Df] [Pu]
section rules
variable {P:Program} [A7 P] {fn:Func} {Post:By} {st:List KI×S} {u m:PH}
theorem H9 {sz:Option Nat}{x:Value}{lo hi mx:Option Value}(h:A8 P env o=.slice sz x lo hi mx):∃ t X L H M,o=.slice t X L H M/\env X=x/\L.map env=lo/\H.map env=hi/\M.map env=mx/\Mj P t=sz:=by
 cases o<;>simp only[A8]at h<;>try cases h
 any_goals ((repeat' split at h)<;>cases h;done)
 ·exact⟨_,_,_,_,_,rfl,rfl,rfl,rfl,rfl,rfl⟩
theorem Vo (a:Option Addr):a.map (·.add 0)=a:=by cases a<;>rfl
theorem G.sliceTo (sz:Nat)(a:Option Addr)(n c k:Nat)(h:Al P (adv P st)=.slice (some sz) (.slice a n c) none (some (.int .i64 (k:Int))) none)(hk:k<=c)
 (g:G P fn Post (nx (adv P st) (.slice a k c)) u m):G P fn Post st u m:=by
 refine G.ask h mV (fun env o hview w hp=>?_) g;obtain⟨t,X,L,H,M,e1,e2,e3,e4,e5,hsz⟩:=H9 hview;obtain⟨dst,opp,type,pos,after,guard⟩:=o;simp only at e1;subst e1;unfold Mj at hsz;split at hsz
 ·rename_i e hu;have h1:(0:Int)<=k/\(k:Int)<=c:=oV
  simp only[execOp,e2,e3,e4,e5];simp only[Axs,At4,run_underlying hu,Atf,Azt,Axv,Ax6,asIntOf,Avt,if_true,Ay1,Azu,Be hsz,h1,and_self,Avo,Ax5,Vo,Awx];simp
 ·cases hsz
theorem G.sliceFrom (b off n c k sz:Nat)(h:Al P (adv P st)=.slice (some sz) (.slice (some ⟨b,off,none⟩) n c) (some (.int .i64 (k:Int))) none none)(hk:k<=n)(hc:k<c)
 (g:G P fn Post (nx (adv P st) (.slice (some ⟨b,off+k*sz,none⟩) (n-k) (c-k))) u m):G P fn Post st u m:=by
 refine G.ask h mV (fun env o hview w hp=>?_) g;obtain⟨t,X,L,H,M,e1,e2,e3,e4,e5,hsz⟩:=H9 hview;obtain⟨dst,opp,type,pos,after,guard⟩:=o;simp only at e1;subst e1;unfold Mj at hsz;split at hsz
 ·rename_i e hu;have h1:(0:Int)<=k/\(k:Int)<=n:=oV
  have h2:¬ (c=k):=oV
  simp only[execOp,e2,e3,e4,e5];simp only[Axs,At4,run_underlying hu,Atf,Azt,Axv,Ax6,asIntOf,Avt,if_true,Ay1,Azu,Be hsz,h1,and_self,Avo,h2,if_false,Option.map_some,Dp]
 ·cases hsz
theorem G.quo (x y z:Int)(h:Al P (adv P st)=.bin .quo (.int .i64 x) (.int .i64 y))(hx:0<=x)(hx2:x<=9223372036854775807)(hy:0<y)(hz:x/y=z)
 (k:G P fn Post (nx (adv P st) (.int .i64 z)) u m):G P fn Post st u m:=by
 refine G.bin _ h Da (fun t w=>?_) k;have h1:x.tdiv y=z:=by rw[Int.tdiv_eq_ediv_of_nonneg hx];exact hz
 have h2:0<=z:=by rw[<-hz];exact Az6 hx oV
 have h3:z<=x:=by rw[<-hz];exact Int.ediv_le_self _ hx
 have h4:¬ y=0:=oV
 simp[binOp,Op.intDiv,h4,h1,Dq (z:=z) oV oV]
theorem G.rem (x y z:Int)(h:Al P (adv P st)=.bin .rem (.int .i64 x) (.int .i64 y))(hx:0<=x)(_hx2:x<=9223372036854775807)(hy:0<y)(hz:x%y=z)
 (k:G P fn Post (nx (adv P st) (.int .i64 z)) u m):G P fn Post st u m:=by
 refine G.bin _ h Da (fun t w=>?_) k;have h1:x.tmod y=z:=by rw[Int.tmod_eq_emod_of_nonneg hx];exact hz
 have h4:¬ y=0:=oV
 have h2:0<=z:=by rw[<-hz];exact Int.emod_nonneg _ h4
 have h3:z<=x:=by rw[<-hz];have:=Int.mul_ediv_add_emod x y;have h5:=Int.mul_nonneg (A17 hy) (Az6 hx (A17 hy));omega
 simp[binOp,Op.intDiv,h4,h1,Dq (z:=z) oV oV]
theorem U9 {op:BinOp}{x y:Bool}(t:TypeId)(X Y:Operand)(w:World):(eqGuard op t X Y (.bool x) (.bool y)).run P w=.ok () w:=by
 unfold eqGuard;split<;>simp
theorem Agh {t:TypeId}(ht:P.underlying t=some .bool)(x y:Bool)(w:World):(Op.equal t (.bool x) (.bool y)).run P w=.ok (x==y) w:=by
 unfold Op.equal;rw[show Op.maxDepth=9999+1 from rfl,Op.equalIn];simp[run_underlying ht]
theorem G.eqB (x y:Bool)(h:Al P (adv P st)=.binT .eql (some .bool) (.bool x) (.bool y))(k:G P fn Post (nx (adv P st) (.bool (x==y))) u m):G P fn Post st u m:=by
 refine G.ask h mV (fun env o hview w _=>?_) k;obtain⟨t,X,Y,yt,e,e1,e2,e3⟩:=Ms hview;obtain⟨dst,opp,type,pos,after,guard⟩:=o;simp only at e;subst e;simp[execOp,e1,e2,U9,binOp,Agh e3]
theorem G.neB (x y:Bool)(h:Al P (adv P st)=.binT .neq (some .bool) (.bool x) (.bool y))(k:G P fn Post (nx (adv P st) (.bool (!(x==y)))) u m):G P fn Post st u m:=by
 refine G.ask h mV (fun env o hview w _=>?_) k;obtain⟨t,X,Y,yt,e,e1,e2,e3⟩:=Ms hview;obtain⟨dst,opp,type,pos,after,guard⟩:=o;simp only at e;subst e;simp[execOp,e1,e2,U9,binOp,Agh e3]
def Ah (l:List Nat):List Value:=l.map fun (n:Nat)=>Auj .i64 (n:Int)
def Cb (u:PH)(v:Value)(l:List Nat):Prop:=Ad u v 1 (Ah l)
theorem Ag (l:List Nat):(Ah l).length=l.length:=by simp[Ah]
theorem Cb.mono {u u':PH}{v:Value}{l:List Nat}(h:Cb u v l)(hl:PH.le u u'):Cb u' v l:=Ad.mono h hl
theorem Cb.opn {u:PH}{v:Value}(h:Cb u v l):∃ a c,v=.slice a l.length c/\l.length<=c:=by
 obtain⟨a,c,h1,h2,_⟩:=h;rw[Ag]at h1 h2;exact⟨a,c,h1,h2⟩
theorem Cb.len {u:PH}(h:Cb u (.slice a n c) l):n=l.length/\l.length<=c:=by
 obtain⟨a',c',h1,h2⟩:=h.opn;simp at h1;obtain⟨_,rfl,rfl⟩:=h1;exact⟨rfl,h2⟩
theorem Cb.at {u:PH}{a:Option Addr}{n c:Nat}{l:List Nat}(h:Cb u (.slice a n c) l){j:Nat}(hj:j<l.length):∃ b off,a=some ⟨b,off,none⟩/\ElP u b (off+j*1) (.int .i64 (l.getD j 0:Nat)):=by
 obtain⟨a',c',h1,h2,h3⟩:=h;simp at h1;obtain⟨rfl,_,rfl⟩:=h1;exact h3 j _ (by simp[Ah,hj])
theorem Cb.take {u:PH}(h:Cb u (.slice a n c) l)(k:Nat)(hk:k<=l.length):Cb u (.slice a k c) (l.take k):=by
 obtain⟨a',c',h1,h2,h3⟩:=h;simp at h1;obtain⟨rfl,_,rfl⟩:=h1;rw[Ag]at h2;refine⟨a,c,by simp[Ah];omega,by simp[Ah];omega,fun j e hj=>?_⟩;refine h3 j e ?_;simp only[Ah,List.map_take,List.getElem?_take]at hj⊢;split at hj
 ·exact hj
 ·cases hj
theorem Pe {b:Builtin}{ts:List TypeId}{xs:List Value}(h:A8 P env o=.blt b ts xs):∃ c,o=.call c/\c.callee=.builtin b/\c.argTypes=ts.toArray/\(c.args.map env)=xs.toArray:=by
 cases o<;>simp only[A8]at h<;>try cases h
 ·split at h<;>cases h
 split at h
 ·split at h<;>cases h
 ·rename_i c b' hc;split at h
  ·split at h<;>cases h
  ·simp only[Vr.blt.injEq]at h;obtain⟨rfl,rfl,rfl⟩:=h;exact⟨_,rfl,hc,mV,by apply Ayr;simp⟩
 ·cases h
theorem G.minI (ts:List TypeId)(x y z:Int)(h:Al P (adv P st)=.blt .min ts [.int .i64 x,.int .i64 y])(hz:min x y=z)(k:G P fn Post (nx (adv P st) (.int .i64 z)) u m):G P fn Post st u m:=by
 refine G.ask h mV (fun env o hview w _=>?_) k;obtain⟨c,e1,e2,e3,e4⟩:=Pe hview;obtain⟨dst,opp,type,pos,after,guard⟩:=o;simp only at e1;subst e1;subst hz;have hm:(if y<x then y else x)=min x y:=by split<;>omega
 simp[execOp,resolve,e2,invoke,builtin,e4,Builtin.min_,Builtin.min2,hm]
theorem G.maxI (ts:List TypeId)(x y z:Int)(h:Al P (adv P st)=.blt .max ts [.int .i64 x,.int .i64 y])(hz:max x y=z)(k:G P fn Post (nx (adv P st) (.int .i64 z)) u m):G P fn Post st u m:=by
 refine G.ask h mV (fun env o hview w _=>?_) k;obtain⟨c,e1,e2,e3,e4⟩:=Pe hview;obtain⟨dst,opp,type,pos,after,guard⟩:=o;simp only at e1;subst e1;subst hz;have hm:(if x<y then y else x)=max x y:=by split<;>omega
 simp[execOp,resolve,e2,invoke,builtin,e4,Builtin.max_,Builtin.max2,hm]
theorem G.appendNil (e:TypeId)(sz bt:Nat)(z:Value)(a:Option Addr)(c:Nat)(h:Al P (adv P st)=.app (some (e,sz,bt,z)) true [.slice none 0 0,.slice a 0 c])
 (k:G P fn Post (nx (adv P st) (.slice none 0 0)) u m):G P fn Post st u m:=by
 refine G.big (K:=fun v' u' m'=>u'=u/\m'=m/\v'=.slice none 0 0) h mV (fun env op hv=>(D8 (P:=P) (o:=⟨none,op,0, "",#[],none⟩) hv).2.1) (.inl fun v u' m' hk=>by rw[hk.2.1];exact PH.le_refl _) (fun env o hview w hgd=>?_) (fun v' u' m' _ hk=>?_)
 ·obtain⟨_,_,t,hi,hex⟩:=D8 (P:=P) hview;obtain⟨hu,i,hi1,hi2,hi3,hi4⟩:=Dx hi;have hr:(Builtin.append_ #[t,t] o.type #[.slice none 0 0,.slice a 0 c]).run P w=.ok (.slice none 0 0) w:=by
   cases a<;>simp[Builtin.append_,run_underlying hu,sizeOf,typeInfo,hi1,Builtin.lenOf,Builtin.firstCells,loadCells,loadCellsFrom]
  exact Bs (by rw[hex,hr];rfl) ⟨u,m,hgd,B8.refl _ _ _,rfl,rfl,rfl⟩
 ·obtain⟨rfl,rfl,rfl⟩:=hk;exact k
def Ei (l:List Int):List Value:=l.map fun (n:Int)=>Auj .i64 n
theorem B3 (l:List Int):(Ei l).length=l.length:=by simp[Ei]
theorem Lv (l:List Int):Ax 1 (Ei l):=by
 intro e he;simp only[Ei,Ate]at he;obtain⟨n,_,rfl⟩:=he;simp[Atw,Bh]
theorem Ju (l:List Int)(j:Nat)(d:Int):(Ei l).set j (.int .i64 d)=Ei (l.set j d):=by simp[Ei,List.map_set]
theorem Qx (l:List Nat):Ei (l.map fun (n:Nat)=>(n:Int))=Ah l:=by simp[Ei,Ah]
theorem Az (l:List Nat):Ax 1 (Ah l):=by rw[<-Qx];exact Lv _
theorem Cb.els {u:PH}{b off n c:Nat}(h:Cb u (.slice (some ⟨b,off,none⟩) n c) l):Eu u b off 1 (Ah l):=by
 obtain⟨a',c',h1,h2,h3⟩:=h;simp at h1;obtain⟨rfl,_,rfl⟩:=h1;intro j e hj;obtain⟨b',off',e1,e2⟩:=h3 j e hj;simp at e1;obtain⟨rfl,rfl⟩:=e1;exact e2
end rules
end
section
variable [Ca] [Df] [Pu]
section rules
variable {P:Program} [A7 P] {fn:Func} {Post:By} {st:List KI×S} {u m:PH}
theorem Ad.els {sz:Nat}{es:List Value}{b off n c:Nat}(h:Ad u (.slice (some ⟨b,off,none⟩) n c) sz es):Eu u b off sz es:=by
 obtain⟨a',c',h1,h2,h3⟩:=h;simp at h1;obtain⟨rfl,_,rfl⟩:=h1;intro j e hj;obtain⟨b',off',e1,e2⟩:=h3 j e hj;simp at e1;obtain⟨rfl,rfl⟩:=e1;exact e2
theorem G.append0 (e:TypeId)(sz bt:Nat)(z:Value)(a a':Option Addr)(n c c':Nat)(h:Al P (adv P st)=.app (some (e,sz,bt,z)) true [.slice a n c,.slice a' 0 c'])(hc:n<=c)
 (k:G P fn Post (nx (adv P st) (.slice a n c)) u m):G P fn Post st u m:=by
 refine G.big (K:=fun v' u' m'=>u'=u/\m'=m/\v'=.slice a n c) h mV (fun env op hv=>(D8 (P:=P) (o:=⟨none,op,0, "",#[],none⟩) hv).2.1) (.inl fun v u' m' hk=>by rw[hk.2.1];exact PH.le_refl _) (fun env o hview w hgd=>?_) (fun v' u' m' _ hk=>?_)
 ·obtain⟨_,_,t,hi,hex⟩:=D8 (P:=P) hview;obtain⟨hu,i,hi1,hi2,hi3,hi4⟩:=Dx hi;have hr:(Builtin.append_ #[t,t] o.type #[.slice a n c,.slice a' 0 c']).run P w=.ok (.slice a n c) w:=by
   cases a<;>cases a'<;>simp[Builtin.append_,run_underlying hu,sizeOf,typeInfo,hi1,Builtin.lenOf,Builtin.firstCells,loadCells,loadCellsFrom,hc,storeCells]
  exact Bs (by rw[hex,hr];rfl) ⟨u,m,hgd,B8.refl _ _ _,rfl,rfl,rfl⟩
 ·obtain⟨rfl,rfl,rfl⟩:=hk;exact k
theorem G.appendU (e:TypeId)(sz bt:Nat)(z:Value)(es xs:List Value)(a:Option Addr)(n' b off n c:Nat)(h:Al P (adv P st)=.app (some (e,sz,bt,z)) true [.slice a n' n',.slice (some ⟨b,off,none⟩) n c])(hsz:0<sz)
 (ha:Ad u (.slice a n' n') sz es) (hoe:Ax sz es) (hx:Eu u b off sz xs) (ho:Ax sz xs) (hn:xs.length=n) (hn0:0<n) (hb:(es.length+n)*bt<=140737488355328) (hb2:es.length+n<=9223372036854775807)
 (k:∀ v' u',PH.le u u'->Ad u' v' sz (es++xs)->G P fn Post (nx (adv P st) v') u' m):G P fn Post st u m:=by
 refine G.big (K:=fun v' u' m'=>m'=m/\Ad u' v' sz (es++xs)) h mV (fun env op hv=>(D8 (P:=P) (o:=⟨none,op,0, "",#[],none⟩) hv).2.1) (.inl fun v u' m' hk=>by rw[hk.1];exact PH.le_refl _) (fun env o hview w hgd=>?_) (fun v' u' m' hle hk=>?_)
 ·obtain⟨_,_,t,hi,hex⟩:=D8 (P:=P) hview;obtain⟨hu,i,hi1,hi2,rfl,rfl⟩:=Dx hi;have hsrc:=hx.cells hsz ho hgd.pu;have hfl:=A4 ho;have hfe:=A4 hoe;obtain⟨a1,c1,e1,e2,e3⟩:=id ha;simp only[Atr]at e1;obtain⟨rfl,rfl,rfl⟩:=e1;have key:∀ (cap:Nat) (rest:List Value),es.length+n<=cap->Ad (u.upd w.heap.size (.cells (Aw (es++xs)++rest).toArray e (0,0))) (.slice (some ⟨w.heap.size,0,none⟩) (es.length+n) cap) i.size (es++xs):=by
   intro cap rest hcap;refine⟨_,cap,by simp[hn],by simp[hn];exact hcap,fun j x hj=>⟨_,0,rfl,fun ii y hy=>⟨_,_,_,Ab _ _ _,?_⟩⟩⟩;rw[Avh,Aud];have:=Ik (hoe.append ho) hj hy;rw[Atl (by obtain⟨h,_⟩:=Atc.1 this;exact h)];exact this
  rcases At5 es.length with h0|h0
  ·have:es = []:=Auo h0;subst this;simp only[Av1,Aud]at hb hb2;have hr:∃ v w',(Builtin.append_ #[t,t] o.type #[.slice a 0 0,.slice (some ⟨b,off,none⟩) n c]).run P w=.ok v w'/\v=.slice (some ⟨w.heap.size,0,none⟩) n (grownCap w n 0 e)/\w'=w.drew.alloc (.cells (Aw xs++(Builtin.zeroCells z.cells (grownCap w n 0 e-n)).toList).toArray e):=by
    cases a with
    |none =>
     refine⟨_,_,run_append_nil (P:=P) w t o.type e i z hu hi1 hi2 ⟨b,off,none⟩ n c (Aw xs) (by rw[hfl,hn]) hsrc hn0 oV oV,rfl,?_⟩
     congr 2;apply Ayr;simp
    |some a =>
     have:=run_append_grow (P:=P) w t o.type e i z hu hi1 hi2 a 0 0 [] mV mV ⟨b,off,none⟩ n c (Aw xs) (by rw[hfl,hn]) hsrc oV oV (growslice_fits oV (by rw[Aud];omega));simp only[Aud]at this;refine⟨_,_,this,rfl,?_⟩
     congr 2;apply Ayr;simp
   obtain⟨v,w',hr,rfl,rfl⟩:=hr;obtain⟨g1,g2,g3,g4⟩:=hgd.drew'.newU (.cells (Aw xs++(Builtin.zeroCells z.cells (grownCap w n 0 e-n)).toList).toArray e (0,0));have:=key (grownCap w n 0 e) (Builtin.zeroCells z.cells (grownCap w n 0 e-n)).toList (by simpa using grownCap_ge w n 0 e);simp only[Ava,Av1,Aud]at this;exact Bs (by rw[hex];simp only[Av1];rw[hr];rfl) ⟨_,m,g1,⟨g2.sz,g2.old,g2.us,g2.ms,g2.io,fun f=>⟨(g2.dr f).tape,Azm (g2.dr f).dr⟩⟩,rfl,this⟩
  ·obtain⟨be,oe,rfl,_⟩:=e3 0 es[0] mV;have hold:=Eu.cells hsz ha.els hoe hgd.pu;have hr:=run_append_grow (P:=P) w t o.type e i z hu hi1 hi2 ⟨be,oe,none⟩ es.length es.length (Aw es) hfe hold ⟨b,off,none⟩ n c (Aw xs) (by rw[hfl,hn]) hsrc oV oV (growslice_fits oV hb);have ew:(Aw es).toArray++(Aw xs).toArray++Builtin.zeroCells z.cells (grownCap w (es.length+n) es.length e-(es.length+n))=(Aw (es++xs)++(Builtin.zeroCells z.cells (grownCap w (es.length+n) es.length e-(es.length+n))).toList).toArray:=by
    apply Ayr;simp[C0]
   rw[ew]at hr;obtain⟨g1,g2,g3,g4⟩:=hgd.drew'.newU (.cells (Aw (es++xs)++(Builtin.zeroCells z.cells (grownCap w (es.length+n) es.length e-(es.length+n))).toList).toArray e (0,0));exact Bs (by rw[hex,show ([Au8 (some ⟨be,oe,none⟩) es.length es.length,Au8 (some ⟨b,off,none⟩) n c]).toArray = #[.slice (some ⟨be,oe,none⟩) es.length es.length,.slice (some ⟨b,off,none⟩) n c] from rfl,hr];rfl) ⟨_,m,g1,⟨g2.sz,g2.old,g2.us,g2.ms,g2.io,fun f=>⟨(g2.dr f).tape,Azm (g2.dr f).dr⟩⟩,rfl,key _ _ (grownCap_ge w _ _ e)⟩
 ·obtain⟨rfl,hk⟩:=hk;exact k v' u' hle hk
theorem G.appendV (e:TypeId)(sz bt:Nat)(z:Value)(es xs:List Value)(a:Option Addr)(n':Nat)(ax:Option Addr)(n c:Nat)(h:Al P (adv P st)=.app (some (e,sz,bt,z)) true [.slice a n' n',.slice ax n c])(hsz:0<sz)
 (ha:Ad u (.slice a n' n') sz es) (hoe:Ax sz es) (hx:Ad u (.slice ax n c) sz xs) (ho:Ax sz xs) (hb:(es.length+xs.length)*bt<=140737488355328) (hb2:es.length+xs.length<=9223372036854775807)
 (k:∀ v' u',PH.le u u'->Ad u' v' sz (es++xs)->G P fn Post (nx (adv P st) v') u' m):G P fn Post st u m:=by
 obtain⟨ax',c',e1,e2,e3⟩:=id hx;simp only[Atr]at e1;obtain⟨rfl,rfl,rfl⟩:=e1;rcases At5 xs.length with h0|h0
 ·have:xs = []:=Auo h0;subst this;exact G.append0 e sz bt z a ax n' n' c h (Atb _) (k _ u (PH.le_refl _) (by rw[Auu];exact ha))
 ·obtain⟨bx,ox,rfl,_⟩:=e3 0 xs[0] mV;exact G.appendU e sz bt z es xs a n' bx ox xs.length c h hsz ha hoe hx.els ho rfl h0 hb hb2 k
end rules
end
section
variable {env:Operand->Value}{o:Op}{x:Value}
variable [Ca] [Df] [Pu]
abbrev mkS (l:List UInt8):ByteArray:=⟨l.toArray⟩
theorem Zk {a b:List UInt8}:mkS a=mkS b↔a=b:=by
 constructor
 ·intro h;injection h with h;simpa using h
 ·rintro rfl;rfl
theorem Kx (l:List UInt8):(mkS l).toList=l:=by
 rw[Go.Lib.toList_data]
theorem Jp (a b:List UInt8):((mkS a).toList==(mkS b).toList)=decide (a=b):=by
 rw[Kx,Kx,Bool.eq_iff_iff];simp
section rules
variable {P:Program} [A7 P] {fn:Func} {Post:By} {st:List KI×S} {u m:PH}
def V9 (Q:Op->Bool)(st:List KI×S):Bool :=
 match st.1 with
 |.reg _ ops _ (i::_)::_=>match ops[i]? with
  |some o=>Q o.op
  |none=>false
 |_=>false
theorem G.askQ (Q:Op->Bool){V:Vr}{v:Value}(h:Al P (adv P st)=V)(hq:V9 Q (adv P st)=true)(hV:V≠.other)(hr:∀ env (o:Oper),A8 P env o.op=V->Q o.op=true->∀ w,(Gq o.op=true->Ek u w/\(Pu.b=false->Ek m w))->(execOp env o).run P w=.ok (.value v) w)
 (k:G P fn Post (nx (adv P st) v) u m):G P fn Post st u m:=by
 refine G.stp ?_;obtain⟨id,ops,dr,i,l,kk,s,o,e,ho,hg,hd,hv,hs,hview,hnx⟩:=Kp h hV;have k:=k.out;rw[hnx]at k;have hQ:Q o.op=true:=by
  rw[e]at hq;simpa[V9,ho] using hq
 rw[e];exact⟨Ob.ask ho hg hd hv hs (Ags hview hV) (fun w hp=>hr _ o hview hQ w fun h=>⟨(hp (.inl h)).1,fun hb=>(hp (.inl h)).2 (.inl hb)⟩) k⟩
def K8 (P:Program):Op->Bool
 |.slice t ..=>match P.underlying t with|some .string=>true|_=>false
 |_=>false
theorem Gn {op:BinOp}{x y:ByteArray}(t:TypeId)(X Y:Operand)(w:World):(eqGuard op t X Y (.string x) (.string y)).run P w=.ok () w:=by
 unfold eqGuard;split<;>simp
theorem G.eqST (a b:List UInt8)(h:Al P (adv P st)=.bin .eql (.string (mkS a)) (.string (mkS b)))(hab:a=b)(k:G P fn Post (nx (adv P st) (.bool true)) u m):G P fn Post st u m :=
 G.bin _ h Gn (fun t w=>by simp[binOp,Op.stringOp,Jp,hab]) k
theorem G.eqSF (a b:List UInt8)(h:Al P (adv P st)=.bin .eql (.string (mkS a)) (.string (mkS b)))(hab:a≠b)(k:G P fn Post (nx (adv P st) (.bool false)) u m):G P fn Post st u m :=
 G.bin _ h Gn (fun t w=>by simp only[binOp,Op.stringOp,Jp,decide_eq_false hab];rfl) k
theorem G.neST (a b:List UInt8)(h:Al P (adv P st)=.bin .neq (.string (mkS a)) (.string (mkS b)))(hab:a≠b)(k:G P fn Post (nx (adv P st) (.bool true)) u m):G P fn Post st u m :=
 G.bin _ h Gn (fun t w=>by simp only[binOp,Op.stringOp,Jp,decide_eq_false hab];rfl) k
theorem G.neSF (a b:List UInt8)(h:Al P (adv P st)=.bin .neq (.string (mkS a)) (.string (mkS b)))(hab:a=b)(k:G P fn Post (nx (adv P st) (.bool false)) u m):G P fn Post st u m :=
 G.bin _ h Gn (fun t w=>by simp only[binOp,Op.stringOp,Jp,decide_eq_true hab];rfl) k
theorem Adi (a b:List UInt8):mkS a++mkS b=mkS (a++b):=by
 rw[mkS,mkS,ByteArray.mk_append_mk]
theorem G.addS (a b:List UInt8)(h:Al P (adv P st)=.bin .add (.string (mkS a)) (.string (mkS b)))(hl:a.length+b.length<=9223372036854775807)(k:G P fn Post (nx (adv P st) (.string (mkS (a++b)))) u m):G P fn Post st u m :=
 G.bin _ h Gn (fun t w=>by
  have h1:¬ (((mkS a).size+(mkS b).size:Nat):Int)>IntKind.i64.max:=by
   rw[Go.Lib.size_mk,Go.Lib.size_mk];simp[IntKind.max,IntKind.signed,IntKind.bits];omega
  simp only[binOp,Op.stringOp];rw[if_neg h1,Adi];rfl) k
theorem Acx {t:Option TypeDesc}{x i:Value}(h:A8 P env o=.index t x i):∃ t' X I,o=.index t' X I/\env X=x/\env I=i/\P.underlying t'=t:=by
 cases o<;>simp only[A8]at h<;>try cases h
 any_goals ((repeat' split at h)<;>cases h;done)
 ·exact⟨_,_,_,rfl,rfl,rfl,rfl⟩
theorem Jn {s d:Option TypeDesc}(h:A8 P env o=.conv s d x):∃ s' d' X,o=.convert s' d' X/\env X=x/\P.underlying s'=s/\P.underlying d'=d:=by
 cases o<;>simp only[A8]at h<;>try cases h
 any_goals ((repeat' split at h)<;>cases h;done)
 ·exact⟨_,_,_,rfl,rfl,rfl,rfl⟩
theorem G.idxS (l:List UInt8)(i:Nat)(b:UInt8)(h:Al P (adv P st)=.index (some .string) (.string (mkS l)) (.int .i64 (i:Int)))(hb:l[i]?=some b)
 (k:G P fn Post (nx (adv P st) (.int .u8 (b.toNat:Int))) u m):G P fn Post st u m:=by
 refine G.ask h mV (fun env o hview w _=>?_) k;obtain⟨t,X,I,e1,e2,e3,e4⟩:=Acx hview;obtain⟨dst,opp,type,pos,after,guard⟩:=o;simp only at e1;subst e1;obtain⟨hi,hb⟩:=Atc.1 hb;have e5:(mkS l)[i]?=some b:=by
  have h6:i<(mkS l).size:=by rw[Go.Lib.size_mk];exact hi
  rw[getElem?_pos (mkS l) i h6]
  congr 1
 have h0:(0:Int)<=(i:Int):=oV
 simp[execOp,e2,e3,Instr.index,run_underlying e4,asIntOf,e5,h0]
theorem G.sliceSTo (l:List UInt8)(n:Nat)(h:Al P (adv P st)=.slice none (.string (mkS l)) none (some (.int .i64 (n:Int))) none)(hq:V9 (K8 P) (adv P st)=true)(hn:n<=l.length)
 (k:G P fn Post (nx (adv P st) (.string (mkS (l.take n)))) u m):G P fn Post st u m:=by
 refine G.askQ _ h hq mV (fun env o hview hQ w hp=>?_) k;obtain⟨t,X,L,H,M,e1,e2,e3,e4,e5,hsz⟩:=H9 hview;obtain⟨dst,opp,type,pos,after,guard⟩:=o;simp only at e1;subst e1;simp only[K8]at hQ;split at hQ
 ·rename_i hu;have h1:(0:Int)<=n/\(n:Int)<=(mkS l).size:=by rw[Go.Lib.size_mk];omega
  simp only[execOp,e2,e3,e4,e5];simp only[Axs,At4,run_underlying hu,Atf,Azt,Axv,Ax6,asIntOf,Avt,if_true,Ay1,Azu,h1,and_self,Avo,Awx];simp[Go.Lib.extract_mk]
 ·cases hQ
theorem G.sliceSFrom (l:List UInt8)(n:Nat)(h:Al P (adv P st)=.slice none (.string (mkS l)) (some (.int .i64 (n:Int))) none none)(hq:V9 (K8 P) (adv P st)=true)(hn:n<=l.length)
 (k:G P fn Post (nx (adv P st) (.string (mkS (l.drop n)))) u m):G P fn Post st u m:=by
 refine G.askQ _ h hq mV (fun env o hview hQ w hp=>?_) k;obtain⟨t,X,L,H,M,e1,e2,e3,e4,e5,hsz⟩:=H9 hview;obtain⟨dst,opp,type,pos,after,guard⟩:=o;simp only at e1;subst e1;simp only[K8]at hQ;split at hQ
 ·rename_i hu;have h1:(0:Int)<=n/\(n:Int)<=(mkS l).size:=by rw[Go.Lib.size_mk];omega
  simp only[execOp,e2,e3,e4,e5];simp only[Axs,At4,run_underlying hu,Atf,Azt,Axv,Ax6,asIntOf,Avt,if_true,Ay1,Azu,h1,and_self,Avo,Awx];have h2:(mkS l).extract n (mkS l).size=mkS (l.drop n):=by
   rw[Go.Lib.extract_mk,Go.Lib.size_mk,Atp mV]
  simp[h2]
 ·cases hQ
theorem G.convI (k0 k1 k2:IntKind)(x z:Int)(h:Al P (adv P st)=.conv (some (.int k0)) (some (.int k1)) (.int k2 x))(hz:k1.wrap x=z)
 (k:G P fn Post (nx (adv P st) (.int k1 z)) u m):G P fn Post st u m:=by
 refine G.ask h mV (fun env o hview w _=>?_) k;obtain⟨s,d,X,e1,e2,e3,e4⟩:=Jn hview;obtain⟨dst,opp,type,pos,after,guard⟩:=o;simp only at e1;subst e1;simp[execOp,convert,e2,run_underlying e3,run_underlying e4,Conv.intToInt,hz]
theorem Afi {z:Int}(h1:0<=z)(h2:z<256):IntKind.u8.wrap z=z:=by
 simp only[IntKind.wrap,IntKind.signed,IntKind.bits];simp;omega
theorem G.sub8 (x y z:Int)(h:Al P (adv P st)=.bin .sub (.int .u8 x) (.int .u8 y))(hz:x-y=z)(h1:0<=z)(h2:z<256)
 (k:G P fn Post (nx (adv P st) (.int .u8 z)) u m):G P fn Post st u m :=
 G.bin _ h Da (fun t w=>by simp[binOp,Op.intArith,hz,Afi h1 h2]) k
def Bc (l:List UInt8):List Value:=l.map fun b=>Auj .u8 (b.toNat:Int)
theorem As (l:List UInt8):(Bc l).length=l.length:=by simp[Bc]
theorem Ng (l l':List UInt8):Bc (l++l')=Bc l++Bc l':=by simp[Bc]
theorem Jg (l:List UInt8):Ax 1 (Bc l):=by
 intro e he;simp only[Bc,Ate]at he;obtain⟨b,_,rfl⟩:=he;exact⟨rfl,fun x hx=>by simp[Atw]at hx;subst hx;rfl⟩
theorem Ae.take {m0:PH}{t:TypeId}{sz:Nat}{es:List Value}{a:Option Addr}{n c k:Nat}(ha:Ae m0 m (.slice a n c) t sz es)(hk:k<=es.length):Ae m0 m (.slice a k c) t sz (es.take k):=by
 refine⟨fun e he=>ha.1 e (List.mem_of_mem_take he),?_⟩;rcases ha.2 with ⟨hv,rfl,hm⟩|⟨g,cap,rest,hg0,rfl,hv,hcap,hlen,hrest⟩
 ·left;simp at hv hk;obtain⟨rfl,rfl,rfl⟩:=hv;subst hk;exact⟨rfl,rfl,hm⟩
 ·right;simp only[Atr]at hv;obtain⟨rfl,rfl,rfl⟩:=hv;have e:Aw es=Aw (es.take k)++Aw (es.drop k):=by rw[<-C0,List.take_append_drop]
  refine⟨g,c,Aw (es.drop k)++rest,hg0,by rw[<-Au1,<-e],gV,gV,by rw[<-Au1,<-e];exact hlen,fun x hx=>?_⟩;rcases Ati.1 hx with hx|hx
  ·simp only[Aw,Ax3]at hx;obtain⟨e',he',hx⟩:=hx;exact (ha.1 e' (Avz he')).2 x hx
  ·exact hrest x hx
theorem Ae.cap {m0:PH}{t:TypeId}{sz:Nat}{es:List Value}{a:Option Addr}{n c:Nat}(ha:Ae m0 m (.slice a n c) t sz es):n<=c:=by
 rcases ha.2 with ⟨hv,rfl,hm⟩|⟨g,cap,rest,hg0,rfl,hv,hcap,hlen,hrest⟩
 ·simp at hv;omega
 ·simp at hv;omega
theorem G.convB (m0:PH)(t e:TypeId)(l:List UInt8)(b n c:Nat)(h:Al P (adv P st)=.conv (some (.slice e)) (some .string) (.slice (some ⟨b,0,none⟩) n c))(he:P.underlying e=some (.int .u8))
 (ha:Ae m0 m (.slice (some ⟨b,0,none⟩) n c) t 1 (Bc l)) (k:G P fn Post (nx (adv P st) (.string (mkS l))) u m) (h00:Pu.b=false:=by rfl):G P fn Post st u m:=by
 refine G.ask h mV (fun env o hview w hp=>?_) k;obtain⟨s,d,X,e1,e2,e3,e4⟩:=Jn hview;obtain⟨dst,opp,type,pos,after,guard⟩:=o;simp only at e1;subst e1;have hm:=(hp (by simp[Gq,Zf e4 mV])).2 h00;have hn:=ha.len;rw[As]at hn;subst hn;have:=run_convert_bytes_back (P:=P) w s d e ⟨b,0,none⟩ c l e3 he e4 (fun j hj=>by
  have h1:=ha.el (j:=j) (e:=.int .u8 (l[j].toNat:Int)) (by simp[Bc,hj]);have h2:=(h1 0 (.int .u8 (l[j].toNat:Int)) (by simp[Atw])).cell hm;rw[Dp];simpa using h2)
 simp[execOp,e2,this]
end rules
end
section
variable [Ca] [Pu] [Df]
variable {P:Program} [A7 P] {fn:Func} {Post:By} {st:List KI×S} {u m:PH}
theorem G.q (a b:List UInt8)(hab:a=b)(k:G P fn Post (nx (adv P st) (.bool true)) u m)(h:Al P (adv P st)=.bin .eql (.string (mkS a)) (.string (mkS b)):=by kernel_rfl):G P fn Post st u m:=G.eqST a b h hab k
theorem G.w (a b:List UInt8)(hab:a≠b)(k:G P fn Post (nx (adv P st) (.bool false)) u m)(h:Al P (adv P st)=.bin .eql (.string (mkS a)) (.string (mkS b)):=by kernel_rfl):G P fn Post st u m:=G.eqSF a b h hab k
theorem G.x (a b:List UInt8)(hab:a≠b)(k:G P fn Post (nx (adv P st) (.bool true)) u m)(h:Al P (adv P st)=.bin .neq (.string (mkS a)) (.string (mkS b)):=by kernel_rfl):G P fn Post st u m:=G.neST a b h hab k
theorem G.y (a b:List UInt8)(hab:a=b)(k:G P fn Post (nx (adv P st) (.bool false)) u m)(h:Al P (adv P st)=.bin .neq (.string (mkS a)) (.string (mkS b)):=by kernel_rfl):G P fn Post st u m:=G.neSF a b h hab k
def tV (l:List UInt8):SV:=.v (.string (mkS l))
end
section
variable {a:Option Addr}{b neg:Bool}{c n:Nat}{l:List Nat}{q:Rat}{y z:Int}
section
variable [Ca] {P:Program} [A7 P] {fn:Func} {Post:By} {st:List KI×S} {u m:PH}
theorem Aqf (h1:0<=z)(h2:z<18446744073709551616):IntKind.u64.wrap z=z:=by
 simp only[IntKind.wrap,IntKind.signed,IntKind.bits];simp;omega
theorem G.quoW (x y z:Nat)(h:Al P (adv P st)=.bin .quo (.int .u64 (x:Int)) (.int .u64 (y:Int)))(hz:x/y=z)(hx:x<18446744073709551616)(hy:0<y)(k:G P fn Post (nx (adv P st) (.int .u64 (z:Int))) u m):G P fn Post st u m:=by
 refine G.bin _ h Da (fun t w=>?_) k;have h3:z<=x:=by rw[<-hz];exact Awa _ _
 have h1:(x:Int).tdiv y=z:=by grind
 have h4:¬ y=0:=oV
 simp[binOp,Op.intDiv,h4,h1,Aqf (z:=(z:Int)) oV oV]
theorem G.remW (x y z:Nat)(h:Al P (adv P st)=.bin .rem (.int .u64 (x:Int)) (.int .u64 (y:Int)))(hz:x%y=z)(hx:x<18446744073709551616)(hy:0<y)(k:G P fn Post (nx (adv P st) (.int .u64 (z:Int))) u m):G P fn Post st u m:=by
 refine G.bin _ h Da (fun t w=>?_) k;have h1:(x:Int).tmod y=z:=by grind
 have h4:¬ y=0:=oV
 simp[binOp,Op.intDiv,h4,h1]
theorem G.negW (x z:Int)(h:Al P (adv P st)=.un .neg (.int .u64 x))(hz:IntKind.u64.wrap (-x)=z)(k:G P fn Post (nx (adv P st) (.int .u64 z)) u m):G P fn Post st u m:=by
 refine G.ask h mV (fun env o hview w hp=>?_) k;obtain⟨t,X,e1,e2⟩:=Agl hview;obtain⟨dst,opp,type,pos,after,guard⟩:=o;simp only at e1;subst e1;simp[execOp,Op.unary,e2,Op.intArith,hz]
end
section
variable {u:PH} {x x':Value}
theorem Afz {m n:Nat}(h:Cu u x m)(h':Cu u x' n)(sa:nl m<=10000000000000)(sb:nl n<=10000000000000):Fn0 prog 183 [x,x'] u fun v u'=>Cu u' v (m+n) :=
 Fn0.ofW (fun v w=>Ci w v (m+n)) (fun w hp=>Aej x x' m n w (h.toW hp) (h'.toW hp) sa sb) (fun _ _ _ h _ c _=>Cu.ofW h c)
theorem Zj {m n:Nat}(h:Cu u x m)(h':Cu u x' n)(sa:nl m<=10000000000000)(hle:n<=m):Fn0 prog 185 [x,x'] u fun v u'=>Cu u' v (m-n) :=
 Fn0.ofW (fun v w=>Ci w v (m-n)) (fun w hp=>Acp x x' m n w (h.toW hp) (h'.toW hp) sa hle) (fun _ _ _ h _ c _=>Cu.ofW h c)
theorem Anm {m n:Nat}(h:Cu u x m)(h':Cu u x' n)(sa:nl m<=10000000000000)(sb:nl n<=10000000000000):Fn0 prog 164 [x,x'] u fun v u'=>Cu u' v (m*n) :=
 Fn0.ofW (fun v w=>Ci w v (m*n)) (fun w hp=>Aef x x' m n w (h.toW hp) (h'.toW hp) sa sb) (fun _ _ _ h _ c _=>Cu.ofW h c)
theorem Zu {m n:Nat}(h:Cu u x m)(h':Cu u x' n)(sa:nl m<=10000000000000)(sb:nl n<=10000000000000):Fn0 prog 184 [x,x'] u fun v _=>v=.int .i64 (sgn ((m:Int)-n)) :=
 Fn0.ofW (fun v _=>v=.int .i64 (sgn ((m:Int)-n))) (fun w hp=>(Gb x x' m n w (h.toW hp) (h'.toW hp) sa sb).mono fun _ _ h=>⟨_,h.ext.1,rfl,h.ext.2⟩) (fun _ _ _ h _ _ _=>h)
theorem N8 {m n:Nat}(h:Cu u x m)(h':Cu u x' n)(sa:nl m<=5000000000000)(sb:nl n<=5000000000000)(hn:0<n):Fn0 prog 209 [x,x'] u fun v u'=>∃ a b,v=.tuple #[a,b]/\Cu u' a (m/n)/\Cu u' b (m%n) :=
 Fn0.ofW (fun v w=>∃ a b,v=.tuple #[a,b]/\Ci w a (m/n)/\Ci w b (m%n)) (fun w hp=>(Vp x x' m n w (h.toW hp) (h'.toW hp) sa sb hn).mono fun _ _ ⟨a,b,e,k1,k2,k3⟩=>⟨_,e,⟨a,b,rfl,k1,k2⟩,k3⟩)
  (fun _ _ _ ⟨a,b,e,k1,k2⟩ _ c _=>⟨a,b,e,Cu.ofW k1 c,Cu.ofW k2 c⟩)
theorem Wz (h:Cu u x n)(hn:nl n<=2):Fn0 prog 219 [x] u fun v _=>v=.int .u64 (n:Int) :=
 Fn0.ofW (fun v _=>v=.int .u64 (n:Int)) (fun w hp=>(Y6 x n w (h.toW hp) hn).mono fun _ _ ⟨e,k⟩=>⟨_,e,rfl,k▸Ext.refl _⟩) (fun _ _ _ h _ _ _=>h)
theorem Ada.els {g:Nat}(h:Eu u g 0 1 (Ay l)):Ada u (some ⟨g,0,none⟩) (Ay l):=fun j hj=>by
 refine⟨g,0,rfl,?_⟩;have hl:j<l.length:=by simpa[Ay] using hj
 have:=h j (.int .u64 (l[j]:Nat)) (by simp[Ay,hl]) 0 (.int .u64 (l[j]:Nat)) rfl;simpa[Ay,hl] using this
theorem Aps (hl:Low l)(hr:Ada u a (Ay l))(hn:val l=n)(hc:l.length<=c)(h2:l.length<=9223372036854775807):Fn0 prog 172 [.slice a l.length c] u fun v u'=>Cu u' v n :=
 Fn0.ofW (fun v w=>Ci w v n) (fun w hp=>by
  have hw:Row w a (Ay l):=fun j hj=>by obtain⟨b,off,e1,e2⟩:=hr j hj;exact⟨b,off,e1,e2.cell hp⟩
  exact (F5 a c l.length l w rfl h2 hc hw).mono fun e w' ⟨e1,e2⟩=>by subst e2;exact⟨_,e1,Dg hl hw hn hc,Ext.refl _⟩) (fun _ _ _ h _ c _=>Cu.ofW h c)
theorem Cu.len {k c n:Nat}(h:Cu u (.slice a k c) n):k=nl n:=by
 obtain⟨_,_,e,_⟩:=h;cases e;rfl
theorem Cu.opn (h:Cu u x n):∃ a c,x=.slice a (nl n) c:=by
 obtain⟨a,c,e,_⟩:=h;exact⟨a,c,e⟩
theorem Am6 {m n : Nat} (h : Cu u x m) (h' : Cu u x' n) (sa : nl m ≤ 5000000000000) (sb : nl n ≤ 5000000000000) : Fn0 prog 173 [x, x'] u fun v u' => Cu u' v (Auw m n) := by
  obtain ⟨a, c, rfl⟩ := h.opn
  obtain ⟨b, d, rfl⟩ := h'.opn
  refine Fn0.o func173 ?_
  refine G.l (ι := (Option Addr × Nat × Nat) × (Option Addr × Nat × Nat)) (fun i => [(0, sV i.1.1 (nl i.1.2.1) i.1.2.2), (1, sV i.2.1 (nl i.2.2.1) i.2.2.2)]) (fun _ => [])
    (fun i u' m' => m' = PH.mt ∧ Cu u' (.slice i.1.1 (nl i.1.2.1) i.1.2.2) i.1.2.1 ∧ Cu u' (.slice i.2.1 (nl i.2.2.1) i.2.2.2) i.2.2.1 ∧ Auw i.1.2.1 i.2.2.1 = Auw m n ∧ nl i.1.2.1 ≤ 5000000000000 ∧ nl i.2.2.1 ≤ 5000000000000)
    (fun i => i.2.2.1) ((a, m, c), (b, n, d)) ⟨rfl, h, h', rfl, sa, sb⟩ ?_
  rintro J ⟨⟨a1, m1, c1⟩, b1, n1, d1⟩ hJ u1 _ l1 ⟨rfl, h1, h1', hg, s1, s1'⟩
  simp only at h1 h1' hg s1 s1' hJ
  by_cases h2 : 2 < nl n1
  · refine G.gT (nl n1 : Int) 2 ?_
    have hp : 0 < n1 := Cm.1 (show 0 < nl n1 by omega)
    refine G.c call209 (N8 h1 h1' s1 s1' hp) ?_
    rintro _ u2 l2 ⟨q, r, rfl, hq, hr⟩
    obtain ⟨aq, cq, rfl⟩ := hq.opn
    obtain ⟨ar, cr, rfl⟩ := hr.opn
    have hlt := Au3 m1 hp
    exact G.b (hJ ((b1, n1, d1), (ar, m1 % n1, cr)) _ _ _ cV (l1.trans l2) ⟨rfl, h1'.mono l2, hr, by rw [← hg]; exact Um m1 n1, s1', As9 (Ct (Az4 hlt)) s1'⟩ hlt)
  refine G.gF (nl n1 : Int) 2 ?_
  by_cases h0 : nl n1 = 0
  · refine G.eT (nl n1 : Int) 0 ?_
    have e0 : n1 = 0 := by rcases At5 n1 with e | e; · exact e
                           · have := Cm.2 e; unfold nl at h0; omega
    rw [← hg, e0, A0p]
    exact G.r _ ⟨rfl, h1⟩
  have hp : 0 < n1 := Cm.1 (show 0 < nl n1 by omega)
  refine G.eF (nl n1 : Int) 0 ?_
  refine dite (2 < nl m1) (fun h3 => ?y) (fun h3 => ?n)
  case' y =>
    refine G.gT (nl m1 : Int) 2 ?_
    refine G.c call209 (N8 h1 h1' s1 s1' hp) ?_
    rintro _ u2 l2 ⟨q, r, rfl, hq, hr⟩
    have ha := h1'.mono l2
    have hg2 : Auw n1 (m1 % n1) = Auw m n := by rw [← hg]; exact Um m1 n1
    have hm2 : nl n1 ≤ 2 := by omega
    have hn2 : nl (m1 % n1) ≤ 2 := As9 (Ct (Az4 (Au3 m1 hp))) hm2
  case' n =>
    refine G.gF (nl m1 : Int) 2 ?_
    have ha := h1
    have hr := h1'
    have hg2 := hg
    have hm2 : nl m1 ≤ 2 := by omega
    have hn2 : nl n1 ≤ 2 := by omega
  case y | n =>
    refine G.c call219 (Wz ha hm2) ?_
    rintro _ u3 l3 rfl
    refine G.c call219 (Wz (hr.mono l3) hn2) ?_
    rintro _ u4 l4 rfl
    refine G.l (ι := Nat × Nat) (fun i => [(9, .v (.int .u64 (i.1 : Int))), (10, .v (.int .u64 (i.2 : Int)))]) (fun _ => [])
      (fun i u' m' => m' = PH.mt ∧ Auw i.1 i.2 = Auw m n ∧ i.1 < 1000000000000000000 ∧ i.2 < 1000000000000000000) (fun i => i.2) (_, _) ⟨rfl, hg2, Xl hm2, Xl hn2⟩ ?_
    rintro J ⟨p, q⟩ hJ u5 _ l5 ⟨rfl, hpq, b1, b2⟩
    by_cases hq : q = 0
    · refine G.cmpG .neq .u64 (q : Int) 0 false kV rfl (by simp [Cj, hq]) ?_
      refine G.remW p 1000000000 _ kV rfl oV oV ?_
      refine G.quoW p 1000000000 _ kV rfl oV oV ?_
      refine G.buildW (p := fun _ => true) 236 1 8 (.int .u64 0) (Ay [p % 1000000000, p / 1000000000]) kV (by simp [Vu, Ay, Atw]) rfl oV (by simp [Ay]) (by simp [Ay]) ?_
      intro g u6 l6 e6
      refine G.c call172 (Aps (l := [p % 1000000000, p / 1000000000]) (n := p) (Low.cons (Au3 _ oV) (Low.cons oV Low.nil)) (Ada.els e6) (by simp [val]; omega) (c := 2) mV mV) ?_
      intro v7 u7 l7 k7
      obtain ⟨a7, c7, rfl⟩ := k7.opn
      rw [hq, A0p] at hpq
      exact G.r (.slice a7 (nl p) c7) ⟨rfl, by rw [← hpq]; exact k7⟩
    · refine G.cmpG .neq .u64 (q : Int) 0 true kV rfl (by simp [Cj, hq]) ?_
      refine G.remW p q _ kV rfl oV oV ?_
      have hlt := Au3 p (show 0 < q by omega)
      exact G.b (hJ (q, p % q) _ _ _ cV l5 ⟨rfl, by rw [← hpq]; exact Um p q, b2, by dsimp only; omega⟩ hlt)
theorem Yk {s:Value}(hb:b=(neg&&decide (0<n)))(hs:Cu u s n):Bw u (.agg #[.bool b,s]) (Bt neg n):=by
 obtain⟨a,c,rfl,h2⟩:=id hs;exact⟨a,_,c,by rw[Va,hb],by rw[Iz];exact hs⟩
theorem Ht (h:Cu u x n):Fn0 prog 163 [.bool neg,x] u fun v u'=>Bw u' v (Bt neg n):=by
 obtain⟨a,c,rfl⟩:=h.opn;have hl:0<nl n↔0<n:=Cm;refine Fn0.o func163 ?_;cases neg
 ·exact G.r (.agg #[.bool false,.slice a (nl n) c]) ⟨rfl,Yk rfl h⟩
 ·by_cases h0:0<nl n
  ·refine G.gT (nl n:Int) 0 ?_;exact G.r (.agg #[.bool true,.slice a (nl n) c]) ⟨rfl,Yk (by simp[hl.1 h0]) h⟩
  ·refine G.gF (nl n:Int) 0 ?_;exact G.r (.agg #[.bool false,.slice a (nl n) c]) ⟨rfl,Yk (by simp[mt hl.2 h0]) h⟩
theorem Bw.opn' (h:Bw u x z):∃ a c,x=.agg #[.bool (decide (z<0)),.slice a (nl z.natAbs) c]/\Cu u (.slice a (nl z.natAbs) c) z.natAbs:=by
 obtain⟨a,n,c,rfl,h⟩:=h;have:=h.len;subst this;exact⟨a,c,rfl,h⟩
theorem Sw (h:Bw u x z)(hn:nl z.natAbs<=100000000000000):Fn0 prog 161 [x] u fun v _=>v=.int .i64 (sgn z):=by
 obtain⟨a,c,rfl,k⟩:=h.opn';have hl:0<nl z.natAbs↔0<z.natAbs:=Cm;refine Fn0.o func161 ?_;by_cases h0:z<0
 ·rw[decide_eq_true h0,Dc h0];exact G.r (.int .i64 (-1)) ⟨rfl,rfl⟩
 rw[decide_eq_false h0];by_cases h1:0<nl z.natAbs
 ·refine G.gT (nl z.natAbs:Int) 0 ?_;rw[Cf oV];exact G.r (.int .i64 1) ⟨rfl,rfl⟩
 ·refine G.gF (nl z.natAbs:Int) 0 ?_;rw[show z=0 by omega,On];exact G.r (.int .i64 0) ⟨rfl,rfl⟩
theorem Amm (z:Int):Bt (!decide (z<0)) z.natAbs = -z:=by unfold Bt;by_cases h:z<0<;>simp[h]<;>omega
theorem Rr (h:Bw u x z)(hn:nl z.natAbs<=100000000000000):Fn0 prog 139 [x] u fun v u'=>Bw u' v (-z):=by
 obtain⟨a,c,rfl,k⟩:=h.opn';refine Fn0.o func139 ?_;refine G.c call163 (Ht (neg:=!decide (z<0)) k) ?_;intro v1 u1 l1 k1;rw[Amm]at k1;obtain⟨b1,a1,n1,c1,rfl⟩:=k1.opn;exact G.r _ ⟨rfl,k1⟩
theorem E6 (h:Bw u x y)(h':Bw u x' z)(sy:nl y.natAbs<=5000000000000)(sz:nl z.natAbs<=5000000000000):Fn0 prog 100 [x,x'] u fun v u'=>Bw u' v (y*z):=by
 obtain⟨a,c,rfl,k⟩:=h.opn';obtain⟨a',c',rfl,k'⟩:=h'.opn';refine Fn0.o func100 ?_;refine G.neB (decide (y<0)) (decide (z<0)) kV ?_;refine G.c call164 (Anm k k' oV oV) ?_;intro v1 u1 l1 k1;refine G.c call163 (Ht (neg:=!(decide (y<0)==decide (z<0))) k1) ?_;intro v2 u2 l2 k2;rw[Ab2]at k2;obtain⟨b2,a2,n2,c2,rfl⟩:=k2.opn;exact G.r _ ⟨rfl,k2⟩
theorem Zg (h:Bw u x y)(h':Bw u x' z)(sy:nl y.natAbs<=5000000000000)(sz:nl z.natAbs<=5000000000000):Fn0 prog 125 [x,x'] u fun v u'=>Bw u' v (y+z):=by
 obtain⟨a,c,rfl,k⟩:=h.opn';obtain⟨a',c',rfl,k'⟩:=h'.opn';refine Fn0.o func125 ?_;refine G.eqB (decide (y<0)) (decide (z<0)) kV ?_;by_cases hs:decide (y<0)=decide (z<0)
 ·rw[show (decide (y<0)==decide (z<0))=true by simp[hs]];refine G.c call183 (Afz k k' oV oV) ?_;intro v1 u1 l1 k1;refine G.c call163 (Ht (neg:=decide (y<0)) k1) ?_;intro v2 u2 l2 k2;rw[Aak hs]at k2;obtain⟨b2,a2,n2,c2,rfl⟩:=k2.opn;exact G.r _ ⟨rfl,k2⟩
 rw[show (decide (y<0)==decide (z<0))=false by simpa using hs];refine G.c call184 (Zu k k' oV oV) ?_;rintro v1 u1 l1 rfl;by_cases hc:z.natAbs<=y.natAbs
 ·refine G.hT' (sgn ((y.natAbs:Int)-z.natAbs)) 0 (Aei hc) ?_;refine G.c call185 (Zj (k.mono l1) (k'.mono l1) oV hc) ?_;intro v2 u2 l2 k2;refine G.c call163 (Ht (neg:=decide (y<0)) k2) ?_;intro v3 u3 l3 k3;rw[Wj hs hc]at k3;obtain⟨b3,a3,n3,c3,rfl⟩:=k3.opn;exact G.r _ ⟨rfl,k3⟩
 ·refine G.hF' (sgn ((y.natAbs:Int)-z.natAbs)) 0 (by rw[Dc oV];omega) ?_;refine G.c call185 (Zj (k'.mono l1) (k.mono l1) oV oV) ?_;intro v2 u2 l2 k2;refine G.c call163 (Ht (neg:=decide (z<0)) k2) ?_;intro v3 u3 l3 k3;rw[Xb hs oV]at k3;obtain⟨b3,a3,n3,c3,rfl⟩:=k3.opn;exact G.r _ ⟨rfl,k3⟩
theorem Apc (h:Bw u x y)(h':Bw u x' z)(sy:nl y.natAbs<=5000000000000)(sz:nl z.natAbs<=5000000000000):Fn0 prog 174 [x,x'] u fun v u'=>Bw u' v (y-z):=by
 obtain⟨b,a,n,c,rfl⟩:=h.opn;obtain⟨b',a',n',c',rfl⟩:=h'.opn;refine Fn0.o func174 ?_;refine G.c call139 (Rr h' oV) ?_;intro v1 u1 l1 k1;refine G.c call125 (Zg (h.mono l1) k1 sy (by rw[Avp];exact sz)) ?_;intro v2 u2 l2 k2;obtain⟨b2,a2,n2,c2,rfl⟩:=k2.opn;exact G.r _ ⟨rfl,k2⟩
theorem G6 (h:Bw u x y)(h':Bw u x' z)(sy:nl y.natAbs<=5000000000000)(sz:nl z.natAbs<=5000000000000):Fn0 prog 112 [x,x'] u fun v _=>v=.int .i64 (sgn (y-z)):=by
 obtain⟨b,a,n,c,rfl⟩:=h.opn;obtain⟨b',a',n',c',rfl⟩:=h'.opn;refine Fn0.o func112 ?_;refine G.c call174 (Apc h h' sy sz) ?_;intro v1 u1 l1 k1;have:=Yi (y:=y) (z:=-z) sy (by rw[Avp];exact sz);refine G.c call161 (Sw k1 (by rw[Int.sub_eq_add_neg];omega)) ?_;rintro v2 u2 l2 rfl;exact G.r (.int .i64 (sgn (y-z))) ⟨rfl,rfl⟩
theorem Ye (h:Bw u x y)(h':Bw u x' z)(sy:nl y.natAbs<=5000000000000)(sz:nl z.natAbs<=5000000000000):Fn0 prog 111 [x,x'] u fun v u'=>Bw u' v (Auw y.natAbs z.natAbs):=by
 obtain⟨a,c,rfl,k⟩:=h.opn';obtain⟨a',c',rfl,k'⟩:=h'.opn';refine Fn0.o func111 ?_;refine G.c call173 (Am6 k k' sy sz) ?_;intro v1 u1 l1 k1;refine G.c call163 (Ht (neg:=false) k1) ?_;intro v2 u2 l2 k2;obtain⟨b2,a2,n2,c2,rfl⟩:=k2.opn;exact G.r _ ⟨rfl,k2⟩
theorem Sb (h:Bw u x y)(h':Bw u x' z)(sy:nl y.natAbs<=4000000000000)(sz:nl z.natAbs<=4000000000000)(hz:z≠0):Fn0 prog 162 [x,x'] u fun v u'=>∃ a b,v=.tuple #[a,b]/\Bw u' a (y/z)/\Bw u' b (y%z):=by
 obtain⟨a,c,rfl,k⟩:=h.opn';obtain⟨a',c',rfl,k'⟩:=h'.opn';have hl:0<nl (y.natAbs%z.natAbs)↔0<y.natAbs%z.natAbs:=Cm;have hlt:=Au3 y.natAbs (show 0<z.natAbs by omega);refine Fn0.o func162 ?_;refine G.c call209 (N8 k k' oV oV oV) ?_;rintro _ u1 l1 ⟨q,r,rfl,hq,hr⟩;obtain⟨ar,cr,rfl⟩:=hr.opn;refine dite (y<0) (fun hy=>?A) (fun hy=>?D)
 case' A =>
  rw[decide_eq_true hy];refine dite (0<y.natAbs%z.natAbs) (fun h0=>?B) (fun h0=>?C)
 case' B =>
  refine G.gT' (nl (y.natAbs%z.natAbs):Int) 0 (by have:=hl.2 h0;omega) ?_;refine G.buildW (p:=fun _=>true) 236 1 8 (.int .u64 0) (Ay [1]) kV (by simp[Vu,Ay,Atw]) rfl oV (by simp[Ay]) (by simp[Ay]) ?_;intro g u2 l2 e2;have k1:Cu u2 (.slice (some ⟨g,0,none⟩) 1 1) 1:=by
   have:=Ec (d:=1) oV oV;exact⟨_,1,by rw[this];rfl,by rw[this];simp,by rw[this];exact Ada.els e2⟩
  refine G.c call183 (Afz (hq.mono l2) k1 (by have:=Ct (Awa y.natAbs z.natAbs);omega) (by have:=Qb;omega)) ?_;intro v3 u3 l3 k3;refine G.c call185 (Zj ((k'.mono l1).mono (l2.trans l3)) (hr.mono (l2.trans l3)) oV oV) ?_;intro v4 u4 l4 k4;obtain⟨hm,hm2⟩:=Yl hy hz h0;rw[decide_eq_true hy]at hm;have k3:=k3.mono l4
 case' C =>
  refine G.gF' (nl (y.natAbs%z.natAbs):Int) 0 (by have:=mt hl.1 h0;omega) ?_;obtain⟨hm,hm2⟩:=Vq hy hz oV;rw[decide_eq_true hy]at hm
 case' D =>
  obtain⟨hm,hm2⟩:=Vy hy hz;rw[decide_eq_false hy]at hm⊢
 case' C|D =>
  have k3:=hq;have k4:=hr
 case' B|C=>generalize hE:true=E at hm⊢
 case' D=>generalize hE:false=E at hm⊢
 case B|C|D =>
  refine G.neB E (decide (z<0)) kV ?_;refine G.c call163 (Ht (neg:=!(E==decide (z<0))) k3) ?_;intro v5 u5 l5 k5;obtain⟨b5,a5,n5,c5,rfl⟩:=k5.opn;refine G.c call163 (Ht (neg:=false) (k4.mono l5)) ?_;intro v6 u6 l6 k6;obtain⟨b6,a6,n6,c6,rfl⟩:=k6.opn;exact G.r (.tuple #[_,_]) ⟨rfl,_,_,rfl,hm▸k5.mono l6,hm2▸k6⟩
theorem Qy (h1:-9223372036854775808<=z)(h2:z<=9223372036854775807):Fn0 prog 113 [.int .i64 z] u fun v u'=>Bw u' v z:=by
 refine Fn0.o func113 ?_;refine G.convI .i64 .u64 .i64 z _ kV rfl ?_;have hs:=Qd z;refine dite (z<0) (fun hz=>?A) (fun hz=>?B)
 case' A =>
  rw[decide_eq_true hz]at hs;generalize hE:true=E at hs;refine G.lT' z 0 hz ?_;refine G.negW _ _ kV (Adw hz h1) ?_;refine G.lT' z 0 hz ?_
 case' B =>
  rw[decide_eq_false hz]at hs;generalize hE:false=E at hs;rw[Ac8 oV h2];refine G.lF' z 0 hz ?_;refine G.lF' z 0 hz ?_
 case A|B =>
  refine G.remW z.natAbs 1000000000 _ kV rfl oV oV ?_;refine G.quoW z.natAbs 1000000000 _ kV rfl oV oV ?_;refine G.remW (z.natAbs/1000000000) 1000000000 _ kV rfl oV oV ?_;refine G.quoW z.natAbs 1000000000 _ kV rfl oV oV ?_;refine G.quoW (z.natAbs/1000000000) 1000000000 _ kV rfl oV oV ?_;refine G.buildW (p:=fun _=>true) 236 1 8 (.int .u64 0) (Ay [z.natAbs%1000000000,z.natAbs/1000000000%1000000000,z.natAbs/1000000000/1000000000]) kV (by simp[Vu,Ay,Atw]) rfl oV (by simp[Ay]) (by simp[Ay]) ?_;intro g u6 l6 e6;refine G.c call172 (Aps (l:=[_,_,_]) (n:=z.natAbs) (Low.cons (Au3 _ oV) (Low.cons (Au3 _ oV) (Low.cons oV Low.nil))) (Ada.els e6) (by simp[val];omega) (c:=3) mV mV) ?_;intro v7 u7 l7 k7;refine G.c call163 (Ht (neg:=E) (by cases hE;exact k7)) ?_;intro v8 u8 l8 k8;obtain⟨b8,a8,n8,c8,rfl⟩:=k8.opn;exact G.r _ ⟨rfl,hs▸k8⟩
theorem W1 (h:An u x q)(hn:nl q.num.natAbs<=100000000000000):Fn0 prog 96 [x] u fun v _=>v=.int .i64 (sgn q.num):=by
 obtain⟨b,a,n,c,b',a',n',c',rfl⟩:=h.opn;refine Fn0.o func96 ?_;refine G.c call161 (Sw h.num hn) ?_;rintro v1 u1 l1 rfl;exact G.r (.int .i64 (sgn q.num)) ⟨rfl,rfl⟩
theorem Im (h:An u x q)(hd:nl q.den<=4000000000000):Fn0 prog 101 [x] u fun v _=>v=.bool (decide (q.den=1)):=by
 obtain⟨b,a,n,c,b',a',n',c',rfl⟩:=h.opn;refine Fn0.o func101 ?_;refine G.c call113 (Qy (z:=1) oV oV) ?_;intro v1 u1 l1 k1;refine G.c call112 (G6 (h.den.mono l1) k1 (by rw[Atv];omega) (by have:=Qb;show nl 1<=_;omega)) ?_;rintro v2 u2 l2 rfl;have hs:=Rb (d:=q.den);by_cases hq:q.den=1
 ·refine G.eT' (sgn ((q.den:Int)-1)) 0 (by simpa[hq] using hs) ?_;exact G.r (.bool true) ⟨rfl,by rw[decide_eq_true hq]⟩
 ·refine G.eF' (sgn ((q.den:Int)-1)) 0 (by simpa[hq] using hs) ?_;exact G.r (.bool false) ⟨rfl,by rw[decide_eq_false hq]⟩
theorem An.mk4 {d:Nat}{b b':Bool}{a a':Option Addr}{n n' c c':Nat}(h:Bw u (.agg #[.bool b,.slice a n c]) y)(h':Bw u (.agg #[.bool b',.slice a' n' c']) (d:Int))(e:q.num=y)(e':q.den=d) :
 An u (.agg #[.bool b,.slice a n c,.bool b',.slice a' n' c']) q:=by
 obtain⟨_,_,_,h1,h2⟩:=h;obtain⟨_,_,_,h3,h4⟩:=h';obtain⟨rfl,rfl,rfl,rfl⟩:=h1;obtain⟨rfl,rfl,rfl,rfl⟩:=h3;exact⟨_,_,_,_,_,_,by rw[e,decide_eq_false (show ¬ ((d:Int)<0) by omega)],by rw[e];exact h2,by rw[e'];exact h4⟩
theorem Bw.cast (h:Bw u x z)(hz:0<z):Bw u x ((z.natAbs:Nat):Int):=by grind
theorem Nt (h:Bw u x z):Fn0 prog 102 [x] u fun v u'=>An u' v (z:Rat):=by
 obtain⟨b,a,n,c,rfl⟩:=h.opn;refine Fn0.o func102 ?_;refine G.c call113 (Qy (z:=1) oV oV) ?_;intro v1 u1 l1 k1;obtain⟨b1,a1,n1,c1,rfl⟩:=k1.opn;exact G.r (.agg #[_,_,_,_]) ⟨rfl,An.mk4 (h.mono l1) k1 mV mV⟩
theorem Dk (h1:-9223372036854775808<=z)(h2:z<=9223372036854775807):Fn0 prog 56 [.int .i64 z] u fun v u'=>An u' v (z:Rat):=by
 refine Fn0.o func56 ?_;refine G.c call113 (Qy h1 h2) ?_;intro v1 u1 l1 k1;refine G.c call102 (Nt k1) ?_;intro v2 u2 l2 k2;obtain⟨b2,a2,n2,c2,b2',a2',n2',c2',rfl⟩:=k2.opn;exact G.r _ ⟨rfl,k2⟩
theorem Tj (h:An u x q)(hs:nl q.num.natAbs<=4000000000000):Fn0 prog 70 [x] u fun v u'=>An u' v (-q):=by
 obtain⟨b,a,n,c,b',a',n',c',rfl⟩:=h.opn;refine Fn0.o func70 ?_;refine G.c call139 (Rr h.num oV) ?_;intro v1 u1 l1 k1;obtain⟨b1,a1,n1,c1,rfl⟩:=k1.opn;exact G.r (.agg #[_,_,_,_]) ⟨rfl,An.mk4 k1 (h.den.mono l1) (A1j q) (A1k q)⟩
theorem Un (h:Bw u x y)(h':Bw u x' z)(sy:nl y.natAbs<=4000000000000)(sz:nl z.natAbs<=4000000000000)(hz:z≠0):Fn0 prog 99 [x,x'] u fun v u'=>An u' v (Au0 y z):=by
 obtain⟨b,a,n,c,rfl⟩:=h.opn;obtain⟨b',a',n',c',rfl⟩:=h'.opn;refine Fn0.o func99 ?_;refine G.c call161 (Sw h' oV) ?_;rintro v1 u1 l1 rfl;refine dite (z<0) (fun h0=>?A) (fun h0=>?B)
 case' A =>
  refine G.lT' (sgn z) 0 (by rw[Dc h0];omega) ?_;refine G.c call139 (Rr (h.mono l1) oV) ?_;intro v2 u2 l2 k2;obtain⟨b2,a2,n2,c2,rfl⟩:=k2.opn;refine G.c call139 (Rr (h'.mono (l1.trans l2)) oV) ?_;intro v3 u3 l3 k3;obtain⟨b3,a3,n3,c3,rfl⟩:=k3.opn;have k2:=k2.mono l3;have hd:=Lx y z;have ty:nl (-y).natAbs<=4000000000000:=by grind
  have tz:nl (-z).natAbs<=4000000000000:=by grind
  have hp:0 < -z:=oV
  generalize -y=y2 at k2 hd ty;generalize -z=z2 at k3 hd tz hp
 case' B =>
  refine G.lF' (sgn z) 0 (by rw[Cf oV];omega) ?_;have k2:=h.mono l1;have k3:=h'.mono l1;have hd:Au0 y z=Au0 y z:=rfl;have ty:=sy;have tz:=sz;have hp:0<z:=oV
  generalize y=y2 at k2 hd ty;generalize z=z2 at k3 hd tz hp
 case A|B =>
  have hg0:0<Auw y2.natAbs z2.natAbs:=Nat.gcd_pos_of_pos_right _ oV;have hg1:Auw y2.natAbs z2.natAbs<=z2.natAbs:=Nat.gcd_le_right _ oV;have hgn:nl (Auw y2.natAbs z2.natAbs)<=4000000000000:=As9 (Ct hg1) tz;refine G.c call111 (Ye k2 k3 oV oV) ?_;intro v4 u4 l4 k4;obtain⟨b4,a4,n4,c4,rfl⟩:=k4.opn;refine G.c call113 (Qy (z:=1) oV oV) ?_;intro v5 u5 l5 k5;refine G.c call112 (G6 (k4.mono l5) k5 (by rw[Atv];omega) (by have:=Qb;show nl 1<=_;omega)) ?_;rintro v6 u6 l6 rfl;have hs:=Rb (d:=Auw y2.natAbs z2.natAbs);have l46:=(l4.trans l5).trans l6;by_cases hq:Auw y2.natAbs z2.natAbs=1
  ·refine G.nF' (sgn ((Auw y2.natAbs z2.natAbs:Int)-1)) 0 (by simpa[hq] using hs) ?_;have hc:=Sv hp hq;exact G.r (.agg #[_,_,_,_]) ⟨rfl,An.mk4 (k2.mono l46) ((k3.mono l46).cast hp) (by rw[<-hd];exact hc.1) (by rw[<-hd];exact hc.2)⟩
  ·refine G.nT' (sgn ((Auw y2.natAbs z2.natAbs:Int)-1)) 0 (by simpa[hq] using hs) ?_;have hc:=Ti hp (y:=y2) rfl;refine G.c call162 (Sb (k2.mono l46) (k4.mono (l5.trans l6)) ty (by rw[Atv];exact hgn) oV) ?_;rintro _ u7 l7 ⟨q,r,rfl,k7,k7'⟩;obtain⟨b7,a7,n7,c7,rfl⟩:=k7.opn;refine G.c call162 (Sb (k3.mono (l46.trans l7)) (k4.mono ((l5.trans l6).trans l7)) tz (by rw[Atv];exact hgn) oV) ?_;rintro _ u8 l8 ⟨q8,r8,rfl,k8,k8'⟩;obtain⟨b8,a8,n8,c8,rfl⟩:=k8.opn;have e8:(((z2.natAbs/Auw y2.natAbs z2.natAbs:Nat)):Int)=z2/(Auw y2.natAbs z2.natAbs:Nat):=by grind
   rw[<-e8]at k8;exact G.r (.agg #[_,_,_,_]) ⟨rfl,An.mk4 (k7.mono l8) k8 (by rw[<-hd];exact hc.1) (by rw[<-hd];exact hc.2)⟩
end
end
section
variable {q r:Rat}{y:Int}
section
variable {u:PH} {x x':Value}
theorem Al4 (h:An u x q):Fn0 prog 177 [x] u fun v u'=>Bw u' v q.num :=
 Fn0.ofW (fun v w=>Om w v q.num) (fun w hp=>Abd x q w (h.toW hp)) (fun _ _ _ h _ c _=>Bw.ofW h c)
theorem Aae (h:An u x q):Fn0 prog 176 [x] u fun v u'=>Bw u' v q.den :=
 Fn0.ofW (fun v w=>Om w v q.den) (fun w hp=>Abf x q w (h.toW hp)) (fun _ _ _ h _ c _=>Bw.ofW h c)
theorem L6 (h:An u x q)(h':An u x' r)(h1:Sz q 1000000000000)(h2:Sz r 1000000000000):Fn0 prog 42 [x,x'] u fun v u'=>An u' v (q*r):=by
 obtain⟨s1,s2⟩:=h1;obtain⟨s3,s4⟩:=h2;obtain⟨b,a,n,c,b',a',n',c',rfl⟩:=h.opn;obtain⟨d,e,k,f,d',e',k',f',rfl⟩:=h'.opn;refine Fn0.o func42 ?_;refine G.c call101 (Im h oV) ?_;rintro v1 u1 l1 rfl;refine dite (q.den=1) (fun e1=>?y) (fun e1=>?n1)
 case' y =>
  rw[decide_eq_true e1];refine G.c call101 (Im (h'.mono l1) oV) ?_;rintro v2 u2 l2 rfl;refine dite (r.den=1) (fun e2=>?yy) (fun e2=>?n2)
 case yy =>
  rw[decide_eq_true e2];refine G.c call100 (E6 (h.num.mono (l1.trans l2)) (h'.num.mono (l1.trans l2)) oV oV) ?_;intro v3 u3 l3 k3;obtain⟨b3,a3,n3,c3,rfl⟩:=k3.opn;refine G.c call102 (Nt k3) ?_;intro v4 u4 l4 k4;rw[Ah4 e1 e2]at k4;obtain⟨b4,a4,n4,c4,b4',a4',n4',c4',rfl⟩:=k4.opn;exact G.r _ ⟨rfl,k4⟩
 case' n1 =>
  rw[decide_eq_false e1];have l2:=l1
 case' n2 =>
  rw[decide_eq_false e2];have l2:=l1.trans l2
 case n1|n2 =>
  refine G.c call100 (E6 (h.num.mono l2) (h'.num.mono l2) oV oV) ?_;intro v3 u3 l3 k3;obtain⟨b3,a3,n3,c3,rfl⟩:=k3.opn;refine G.c call100 (E6 (h.den.mono (l2.trans l3)) (h'.den.mono (l2.trans l3)) (by rw[Atv];omega) (by rw[Atv];omega)) ?_;intro v4 u4 l4 k4;obtain⟨b4,a4,n4,c4,rfl⟩:=k4.opn;refine G.c call99 (Un (k3.mono l4) k4 (by have:=Dl s1 s3;omega) (by have:=Dl (y:=(q.den:Int)) (z:=(r.den:Int)) (k:=1000000000000) (by rw[Atv];omega) (by rw[Atv];omega);omega) (Xu q r)) ?_;intro v5 u5 l5 k5;rw[Yd]at k5;obtain⟨b5,a5,n5,c5,b5',a5',n5',c5',rfl⟩:=k5.opn;exact G.r _ ⟨rfl,k5⟩
theorem D7 (h:An u x q)(h':An u x' r)(h1:Sz q 1000000000000)(h2:Sz r 1000000000000):Fn0 prog 57 [x,x'] u fun v u'=>An u' v (q+r):=by
 obtain⟨s1,s2⟩:=h1;obtain⟨s3,s4⟩:=h2;obtain⟨b,a,n,c,b',a',n',c',rfl⟩:=h.opn;obtain⟨d,e,k,f,d',e',k',f',rfl⟩:=h'.opn;have t2:nl ((q.den:Int)).natAbs<=1000000000000:=by rw[Atv];exact s2
 have t4:nl ((r.den:Int)).natAbs<=1000000000000:=by rw[Atv];exact s4
 have m1:=Dl s1 t4;have m2:=Dl s3 t2;have m3:=Dl t2 t4;have m4:=Yi m1 m2;refine Fn0.o func57 ?_;refine G.c call101 (Im h oV) ?_;rintro v1 u1 l1 rfl;refine dite (q.den=1) (fun e1=>?y) (fun e1=>?n1)
 case' y =>
  rw[decide_eq_true e1];refine G.c call101 (Im (h'.mono l1) oV) ?_;rintro v2 u2 l2 rfl;refine dite (r.den=1) (fun e2=>?yy) (fun e2=>?n2)
 case yy =>
  rw[decide_eq_true e2];refine G.c call125 (Zg (h.num.mono (l1.trans l2)) (h'.num.mono (l1.trans l2)) oV oV) ?_;intro v3 u3 l3 k3;obtain⟨b3,a3,n3,c3,rfl⟩:=k3.opn;refine G.c call102 (Nt k3) ?_;intro v4 u4 l4 k4;rw[Ag9 e1 e2]at k4;obtain⟨b4,a4,n4,c4,b4',a4',n4',c4',rfl⟩:=k4.opn;exact G.r _ ⟨rfl,k4⟩
 case' n1 =>
  rw[decide_eq_false e1];have l2:=l1
 case' n2 =>
  rw[decide_eq_false e2];have l2:=l1.trans l2
 case n1|n2 =>
  refine G.c call100 (E6 (h.num.mono l2) (h'.den.mono l2) oV oV) ?_;intro v3 u3 l3 k3;obtain⟨b3,a3,n3,c3,rfl⟩:=k3.opn;refine G.c call100 (E6 (h'.num.mono (l2.trans l3)) (h.den.mono (l2.trans l3)) oV oV) ?_;intro v4 u4 l4 k4;obtain⟨b4,a4,n4,c4,rfl⟩:=k4.opn;refine G.c call125 (Zg (k3.mono l4) k4 oV oV) ?_;intro v5 u5 l5 k5;obtain⟨b5,a5,n5,c5,rfl⟩:=k5.opn;have l25:=((l2.trans l3).trans l4).trans l5;refine G.c call100 (E6 (h.den.mono l25) (h'.den.mono l25) oV oV) ?_;intro v6 u6 l6 k6;obtain⟨b6,a6,n6,c6,rfl⟩:=k6.opn;refine G.c call99 (Un (k5.mono l6) k6 oV oV (Xu q r)) ?_;intro v7 u7 l7 k7;rw[Rx]at k7;obtain⟨b7,a7,n7,c7,b7',a7',n7',c7',rfl⟩:=k7.opn;exact G.r _ ⟨rfl,k7⟩
theorem Aby (h:An u x q)(h':An u x' r)(h1:Sz q 1000000000000)(h2:Sz r 1000000000000):Fn0 prog 40 [x,x'] u fun v u'=>An u' v (q-r):=by
 obtain⟨b,a,n,c,b',a',n',c',rfl⟩:=h.opn;obtain⟨d,e,k,f,d',e',k',f',rfl⟩:=h'.opn;refine Fn0.o func40 ?_;refine G.c call70 (Tj h' (As9 h2.1 oV)) ?_;intro v1 u1 l1 k1;obtain⟨b1,a1,n1,c1,b1',a1',n1',c1',rfl⟩:=k1.opn;refine G.c call57 (D7 (h.mono l1) k1 h1 ⟨by rw[A1j,Avp];exact h2.1,by rw[A1k];exact h2.2⟩) ?_;intro v2 u2 l2 k2;rw[<-Rat.sub_eq_add_neg]at k2;obtain⟨b2,a2,n2,c2,b2',a2',n2',c2',rfl⟩:=k2.opn;exact G.r _ ⟨rfl,k2⟩
theorem Ib (h:An u x q)(h':An u x' r)(h1:Sz q 1000000000000)(h2:Sz r 1000000000000)(hr:r≠0):Fn0 prog 39 [x,x'] u fun v u'=>An u' v (q/r):=by
 obtain⟨s1,s2⟩:=h1;obtain⟨s3,s4⟩:=h2;obtain⟨b,a,n,c,b',a',n',c',rfl⟩:=h.opn;obtain⟨d,e,k,f,d',e',k',f',rfl⟩:=h'.opn;have t2:nl ((q.den:Int)).natAbs<=1000000000000:=by rw[Atv];exact s2
 have t4:nl ((r.den:Int)).natAbs<=1000000000000:=by rw[Atv];exact s4
 have m1:=Dl s1 t4;have m2:=Dl t2 s3;refine Fn0.o func39 ?_;refine G.c call100 (E6 h.num h'.den oV oV) ?_;intro v3 u3 l3 k3;obtain⟨b3,a3,n3,c3,rfl⟩:=k3.opn;refine G.c call100 (E6 (h.den.mono l3) (h'.num.mono l3) oV oV) ?_;intro v4 u4 l4 k4;obtain⟨b4,a4,n4,c4,rfl⟩:=k4.opn;refine G.c call99 (Un (k3.mono l4) k4 oV oV (A1c (by have:=q.den_nz;omega) (fun e=>hr (Rat.num_eq_zero.1 e)))) ?_;intro v5 u5 l5 k5;rw[Aga]at k5;obtain⟨b5,a5,n5,c5,b5',a5',n5',c5',rfl⟩:=k5.opn;exact G.r _ ⟨rfl,k5⟩
theorem O5 (h:An u x q)(h':An u x' r)(h1:Sz q 1000000000000)(h2:Sz r 1000000000000):Fn0 prog 138 [x,x'] u fun v _=>v=.int .i64 (sgn (q.num*(r.den:Int)-r.num*(q.den:Int))):=by
 obtain⟨s1,s2⟩:=h1;obtain⟨s3,s4⟩:=h2;obtain⟨b,a,n,c,b',a',n',c',rfl⟩:=h.opn;obtain⟨d,e,k,f,d',e',k',f',rfl⟩:=h'.opn;have t2:nl ((q.den:Int)).natAbs<=1000000000000:=by rw[Atv];exact s2
 have t4:nl ((r.den:Int)).natAbs<=1000000000000:=by rw[Atv];exact s4
 have m1:=Dl s1 t4;have m2:=Dl s3 t2;refine Fn0.o func138 ?_;refine G.c call100 (E6 h.num h'.den oV oV) ?_;intro v3 u3 l3 k3;obtain⟨b3,a3,n3,c3,rfl⟩:=k3.opn;refine G.c call100 (E6 (h'.num.mono l3) (h.den.mono l3) oV oV) ?_;intro v4 u4 l4 k4;obtain⟨b4,a4,n4,c4,rfl⟩:=k4.opn;refine G.c call112 (G6 (k3.mono l4) k4 oV oV) ?_;rintro v5 u5 l5 rfl;exact G.r (.int .i64 (sgn (q.num*(r.den:Int)-r.num*(q.den:Int)))) ⟨rfl,rfl⟩
end
theorem Ww (y z:Nat):nl (y/z)<=nl y:=Ct (Awa y z)
theorem Ank (hy:0<y)(g:Nat):(y/(g:Int)).natAbs=y.natAbs/g:=by
 obtain⟨k,rfl⟩:=Ax9 (A17 hy);rfl
theorem Ao3 {u:PH}{x x':Value}{y z:Int}(h:Bw u x y)(h':Bw u x' z)(sy:nl y.natAbs<=4000000000000)(sz:nl z.natAbs<=4000000000000)(hy:0<y):Fn0 prog 175 [x,x'] u fun v u'=>Bw u' v (y/(Auw y.natAbs z.natAbs:Nat)*z):=by
 obtain⟨b,a,n,c,rfl⟩:=h.opn;obtain⟨b',a',n',c',rfl⟩:=h'.opn;refine Fn0.o func175 ?_;have hg0:0<Auw y.natAbs z.natAbs:=Nat.gcd_pos_of_pos_left _ oV;have hg1:Auw y.natAbs z.natAbs<=y.natAbs:=Nat.gcd_le_left _ oV;have hg2:nl (Auw y.natAbs z.natAbs)<=4000000000000:=As9 (Ct hg1) sy;refine G.c call111 (Ye h h' oV oV) ?_;intro v1 u1 l1 h1;obtain⟨b1,a1,n1,c1,rfl⟩:=h1.opn;refine G.c call162 (Sb (h.mono l1) h1 sy (by rw[Atv];exact hg2) oV) ?_;rintro v2 u2 l2 ⟨v3,v4,rfl,h3,h4⟩;obtain⟨b3,a3,n3,c3,rfl⟩:=h3.opn;obtain⟨b4,a4,n4,c4,rfl⟩:=h4.opn;refine G.c call100 (E6 h3 (h'.mono (l1.trans l2)) (by rw[Ank hy];exact As9 (Ww _ _) oV) oV) ?_;intro v5 u5 l5 h5;obtain⟨b5,a5,n5,c5,rfl⟩:=h5.opn;exact G.r _ ⟨rfl,h5⟩
end
theorem Alt {u:PH}{b:Bool}{a:Option Addr}{n c:Nat}{l:List Nat}(h:Cb u (.slice a n c) l)(hl:l.length<=1000000000000000000) :
 Fn0 prog 130 [.agg #[.bool b,.slice a n c]] u fun v _=>v=.agg #[.bool (b&&decide (0<Bl l l.length)),.slice a (Bl l l.length) c]:=by
 obtain⟨rfl,hc⟩:=h.len;refine Fn0.o func130 ?_;refine G.l (ι:=Nat) (fun _=>[(1,.p 0 0),(2,.p 1 0)]) (fun k=>[(0,⟨55,[bV b,sV a k c]⟩),(1,⟨55,[bV false,sV none 0 0]⟩)])
  (fun k _ m=>k<=l.length/\Bl l l.length=Bl l k/\m=PH.mt) id l.length ⟨Atb _,rfl,rfl⟩ ?_
 rintro J k hJ u' m' hle ⟨hk,ht,rfl⟩;rw[ht];rcases k with _|k
 ·refine G.gF ((0:Nat):Int) 0 ?_;refine G.eT' ((0:Nat):Int) 0 rfl ?_;exact G.r (.agg #[.bool false,.slice a 0 c]) ⟨rfl,by simp[Bl]⟩
 ·refine G.gT ((k+1:Nat):Int) 0 ?_;refine G.s ((k+1:Nat):Int) 1 (k:Int) ?_;obtain⟨bb,off,rfl,he⟩:=(h.mono hle).at (j:=k) oV;refine G.a bb off (k+1) c k 1 oV ?_;refine G.lU none bb (off+k*1) (.int .i64 (l.getD k 0:Nat)) he ?_;by_cases h0:l.getD k 0=0
  ·refine G.eT ((l.getD k 0:Nat):Int) 0 ?_;refine G.s ((k+1:Nat):Int) 1 (k:Int) ?_;refine G.sliceTo 1 (some ⟨bb,off,none⟩) (k+1) c k kV oV ?_;exact G.b (hJ k _ _ _ cV hle ⟨oV,by rw[ht];simp only[Bl,if_pos h0],rfl⟩ mV)
  ·refine G.eF ((l.getD k 0:Nat):Int) 0 ?_;refine G.eF ((k+1:Nat):Int) 0 ?_;exact G.r (.agg #[.bool b,.slice (some ⟨bb,off,none⟩) (k+1) c]) ⟨rfl,by simp only[Bl,if_neg h0];simp⟩
section
variable {k:Nat}{u:PH}{va vb:Value}
theorem Cq (l:List Nat)(n:Nat):Ah l++[.int .i64 (n:Int)]=Ah (l++[n]):=by simp[Ah]
theorem Kd {m n:Nat}(ha:Cb u va (Aa m))(hb:Cb u vb (Aa n))(sa:nl m<=1000000000000000000)(sb:nl n<=1000000000000000000) :
 Fn0 prog 132 [va,vb] u fun v _=>v=.int .i64 (sgn ((m:Int)-n)):=by
 obtain⟨a,ca,rfl,hca⟩:=ha.opn;obtain⟨b,cb,rfl,hcb⟩:=hb.opn;have sa':(Aa m).length<=1000000000000000000:=sa;refine Fn0.o func132 ?_;by_cases hne:(Aa m).length=(Aa n).length
 ·refine G.nF ((Aa m).length:Int) ((Aa n).length:Int) ?_;refine G.sub ((Aa m).length:Int) 1 (((Aa m).length:Int)-1) kV rfl oV oV ?_;refine G.l (ι:=Int) (fun z=>[(0,sV a (Aa m).length ca),(1,sV b (Aa n).length cb),(5,iV z)]) (fun _=>[])
   (fun z _ m'=>-1<=z/\z<(Aa m).length/\(Aa m).drop (z+1).toNat=(Aa n).drop (z+1).toNat/\m'=PH.mt) (fun z=>(z+1).toNat) (((Aa m).length:Int)-1)
   ⟨oV,oV,by rw[Aue oV,Aue oV],rfl⟩ ?_
  rintro J z hJ u' m' hle ⟨h1,h2,h3,rfl⟩;by_cases hz:0<=z
  ·obtain⟨k,rfl⟩:=Ax9 hz;have hk:k<(Aa m).length:=oV
   rw[show ((k:Int)+1).toNat=k+1 by omega]at h3;obtain⟨ba,oa,rfl,ea⟩:=(ha.mono hle).at (j:=k) hk;obtain⟨bb,ob,rfl,eb⟩:=(hb.mono hle).at (j:=k) oV;refine G.hT (k:Int) 0 ?_;refine G.a ba oa (Aa m).length ca k 1 hk ?_;refine G.lU none ba (oa+k*1) (.int .i64 ((Aa m).getD k 0:Nat)) ea ?_;refine G.a bb ob (Aa n).length cb k 1 oV ?_;refine G.lU none bb (ob+k*1) (.int .i64 ((Aa n).getD k 0:Nat)) eb ?_;rcases Nat.lt_trichotomy ((Aa m).getD k 0) ((Aa n).getD k 0) with hlt|heq|hgt
   ·refine G.lT ((Aa m).getD k 0:Nat) ((Aa n).getD k 0:Nat) ?_;have:=F0 hne hk (Am _) h3 hlt;rw[Ai,Ai]at this;exact G.r (.int .i64 (-1)) ⟨rfl,by rw[Dc oV]⟩
   ·refine G.lF ((Aa m).getD k 0:Nat) ((Aa n).getD k 0:Nat) ?_;refine G.a ba oa (Aa m).length ca k 1 hk ?_;refine G.lU none ba (oa+k*1) (.int .i64 ((Aa m).getD k 0:Nat)) ea ?_;refine G.a bb ob (Aa n).length cb k 1 oV ?_;refine G.lU none bb (ob+k*1) (.int .i64 ((Aa n).getD k 0:Nat)) eb ?_;refine G.gF ((Aa m).getD k 0:Nat) ((Aa n).getD k 0:Nat) ?_;refine G.sub (k:Int) 1 ((k:Int)-1) kV rfl oV oV ?_;refine G.b (hJ ((k:Int)-1) _ _ _ cV hle ⟨oV,oV,?_,rfl⟩ mV);rw[show ((k:Int)-1+1).toNat=k by omega,B5 (Aa m) k hk,B5 (Aa n) k oV,h3,heq]
   ·refine G.lF ((Aa m).getD k 0:Nat) ((Aa n).getD k 0:Nat) ?_;refine G.a ba oa (Aa m).length ca k 1 hk ?_;refine G.lU none ba (oa+k*1) (.int .i64 ((Aa m).getD k 0:Nat)) ea ?_;refine G.a bb ob (Aa n).length cb k 1 oV ?_;refine G.lU none bb (ob+k*1) (.int .i64 ((Aa n).getD k 0:Nat)) eb ?_;refine G.gT ((Aa m).getD k 0:Nat) ((Aa n).getD k 0:Nat) ?_;have:=F0 hne.symm oV (Am _) h3.symm hgt;rw[Ai,Ai]at this;exact G.r (.int .i64 1) ⟨rfl,by rw[Cf oV]⟩
  ·obtain rfl:z = -1:=oV
   refine G.hF (-1) 0 ?_;have:m=n:=by
    have h3:(Aa m).drop 0=(Aa n).drop 0:=h3;rw[Aw4,Aw4]at h3;rw[<-Ai m,<-Ai n,h3]
   exact G.r (.int .i64 0) ⟨rfl,by rw[this,Int.sub_self];rfl⟩
 ·refine G.nT ((Aa m).length:Int) ((Aa n).length:Int) ?_;by_cases hlt:(Aa m).length<(Aa n).length
  ·refine G.lT ((Aa m).length:Int) ((Aa n).length:Int) ?_;have:=I5 (m:=m) (n:=n) hlt;exact G.r (.int .i64 (-1)) ⟨rfl,by rw[Dc oV]⟩
  ·refine G.lF ((Aa m).length:Int) ((Aa n).length:Int) ?_;have:=I5 (m:=n) (n:=m) (show nl n<nl m by unfold nl;omega);exact G.r (.int .i64 1) ⟨rfl,by rw[Cf oV]⟩
theorem H2 {l:List Nat}(h:¬ k<l.length):l.getD k 0=0:=by grind
theorem Js.over {a b ys:List Nat}{k c:Nat}(h:Js a b k ys c)(ha:Low a)(hb:Low b)(hka:¬ k<a.length)(hkb:¬ k<b.length)(hc:c=0):val ys=val a+val b:=by
 have:=h.sum;rw[Atp oV,Atp oV,hc]at this;simpa using this
theorem Amt {la lb:List Nat}(ha:Cb u va la)(hb:Cb u vb lb)(lla:Low la)(llb:Low lb)(sa:la.length<=1000000000000)(sb:lb.length<=1000000000000) :
 Fn0 prog 131 [va,vb] u fun v u'=>∃ l,Cb u' v l/\Low l/\val l=val la+val lb/\l.length<=max la.length lb.length+1:=by
 obtain⟨a,ca,rfl,hca⟩:=ha.opn;obtain⟨b,cb,rfl,hcb⟩:=hb.opn;refine Fn0.o func131 ?_;refine G.l (ι:=Nat×List Nat×Nat×Value) (fun i=>[(0,sV a la.length ca),(1,sV b lb.length cb),(5,.v i.2.2.2),(6,iV i.2.2.1),(7,iV i.1)]) (fun _=>[])
  (fun i _ m'=>(i.1<=max la.length lb.length+1/\(max la.length lb.length+1<=i.1->i.2.2.1=0))/\Ae PH.mt m' i.2.2.2 3 1 (Ah i.2.1)/\Js la lb i.1 i.2.1 i.2.2.1) (fun i=>max la.length lb.length+2-i.1) (0,[],0,.slice none 0 0)
  ⟨⟨mV,fun _=>rfl⟩,Ae.nil _ _ _,Js.start _ _⟩ ?_
 rintro J ⟨k,ys,c,vo⟩ hJ u' m' hle ⟨hk,hA,hst⟩;simp only at hk hA hst hJ;have hc1:=hst.carry;have hal:=lla.getD k;have hbl:=llb.getD k;obtain⟨ao,co,rfl⟩:=hA.shape;obtain⟨vo,hvo⟩:∃ vo,vo=Au8 ao (Ah ys).length co:=⟨_,rfl⟩;rw[<-hvo]at hA⊢;have fin:max la.length lb.length+1<=1000000000001:=oV
 by_cases hka:k<la.length
 ·refine G.lT (k:Int) (la.length:Int) ?_;refine G.lT (k:Int) (la.length:Int) ?_;have hna:la.getD k 0<1000000000:=hal;obtain⟨ba,oa,rfl,ea⟩:=(ha.mono hle).at (j:=k) hka;refine G.a ba oa la.length ca k 1 hka ?_;refine G.lU none ba (oa+k*1) (.int .i64 (la.getD k 0:Nat)) ea ?_;refine G.p (c:Int) (la.getD k 0:Nat) ((c+la.getD k 0:Nat):Int) ?_;by_cases hkb:k<lb.length
  ·refine G.lT (k:Int) (lb.length:Int) ?_;obtain⟨bb,ob,rfl,eb⟩:=(hb.mono hle).at (j:=k) hkb;refine G.a bb ob lb.length cb k 1 hkb ?_;refine G.lU none bb (ob+k*1) (.int .i64 (lb.getD k 0:Nat)) eb ?_;refine G.p ((c+la.getD k 0:Nat):Int) (lb.getD k 0:Nat) ((c+la.getD k 0+lb.getD k 0:Nat):Int) ?_;refine G.rem ((c+la.getD k 0+lb.getD k 0:Nat):Int) 1000000000 (((c+la.getD k 0+lb.getD k 0)%1000000000:Nat):Int) kV oV oV oV oV ?_;refine G.B 3 1 8 (.int .i64 0) [.int .i64 (((c+la.getD k 0+lb.getD k 0)%1000000000:Nat):Int)] (Az [(c+la.getD k 0+lb.getD k 0)%1000000000]) ?_;intro g u1 l1 e1;refine G.append 3 1 8 (.int .i64 0) PH.mt (Ah ys) [.int .i64 (((c+la.getD k 0+lb.getD k 0)%1000000000:Nat):Int)] vo g 0 1 1 kV rfl rfl oV hA e1 (Az [(c+la.getD k 0+lb.getD k 0)%1000000000]) rfl oV (by rw[Ag,hst.len];omega) (by rw[Ag,hst.len];omega) ?_;intro v2 m2 hA2;rw[Cq]at hA2;refine G.quo ((c+la.getD k 0+lb.getD k 0:Nat):Int) 1000000000 (((c+la.getD k 0+lb.getD k 0)/1000000000:Nat):Int) kV oV oV oV oV ?_;refine G.i k ?_;refine G.b (hJ (k+1,ys++[(c+la.getD k 0+lb.getD k 0)%1000000000],(c+la.getD k 0+lb.getD k 0)/1000000000,v2) _ _ _ cV (hle.trans l1) ⟨⟨oV,dV⟩,hA2,?_⟩ (by show max la.length lb.length+2-(k+1)<max la.length lb.length+2-k;omega));have:=hst.step lla llb (x:=la.getD k 0) (y:=lb.getD k 0) rfl rfl;rw[show la.getD k 0+lb.getD k 0+c=c+la.getD k 0+lb.getD k 0 by omega]at this;exact this
  ·have hz:=H2 hkb;refine G.lF (k:Int) (lb.length:Int) ?_;refine G.rem ((c+la.getD k 0:Nat):Int) 1000000000 (((c+la.getD k 0)%1000000000:Nat):Int) kV oV oV oV oV ?_;refine G.B 3 1 8 (.int .i64 0) [.int .i64 (((c+la.getD k 0)%1000000000:Nat):Int)] (Az [(c+la.getD k 0)%1000000000]) ?_;intro g u1 l1 e1;refine G.append 3 1 8 (.int .i64 0) PH.mt (Ah ys) [.int .i64 (((c+la.getD k 0)%1000000000:Nat):Int)] vo g 0 1 1 kV rfl rfl oV hA e1 (Az [(c+la.getD k 0)%1000000000]) rfl oV (by rw[Ag,hst.len];omega) (by rw[Ag,hst.len];omega) ?_;intro v2 m2 hA2;rw[Cq]at hA2;refine G.quo ((c+la.getD k 0:Nat):Int) 1000000000 (((c+la.getD k 0)/1000000000:Nat):Int) kV oV oV oV oV ?_;refine G.i k ?_;refine G.b (hJ (k+1,ys++[(c+la.getD k 0)%1000000000],(c+la.getD k 0)/1000000000,v2) _ _ _ cV (hle.trans l1) ⟨⟨oV,dV⟩,hA2,?_⟩ (by show max la.length lb.length+2-(k+1)<max la.length lb.length+2-k;omega));have:=hst.step lla llb (x:=la.getD k 0) (y:=lb.getD k 0) rfl rfl;rw[show la.getD k 0+lb.getD k 0+c=c+la.getD k 0 by omega]at this;exact this
 ·have hza:=H2 hka;by_cases hkb:k<lb.length
  ·refine G.lF (k:Int) (la.length:Int) ?_;refine G.lT (k:Int) (lb.length:Int) ?_;refine G.lF (k:Int) (la.length:Int) ?_;refine G.lT (k:Int) (lb.length:Int) ?_;obtain⟨bb,ob,rfl,eb⟩:=(hb.mono hle).at (j:=k) hkb;refine G.a bb ob lb.length cb k 1 hkb ?_;refine G.lU none bb (ob+k*1) (.int .i64 (lb.getD k 0:Nat)) eb ?_;refine G.p ((c:Nat):Int) (lb.getD k 0:Nat) ((c+lb.getD k 0:Nat):Int) ?_;refine G.rem ((c+lb.getD k 0:Nat):Int) 1000000000 (((c+lb.getD k 0)%1000000000:Nat):Int) kV oV oV oV oV ?_;refine G.B 3 1 8 (.int .i64 0) [.int .i64 (((c+lb.getD k 0)%1000000000:Nat):Int)] (Az [(c+lb.getD k 0)%1000000000]) ?_;intro g u1 l1 e1;refine G.append 3 1 8 (.int .i64 0) PH.mt (Ah ys) [.int .i64 (((c+lb.getD k 0)%1000000000:Nat):Int)] vo g 0 1 1 kV rfl rfl oV hA e1 (Az [(c+lb.getD k 0)%1000000000]) rfl oV (by rw[Ag,hst.len];omega) (by rw[Ag,hst.len];omega) ?_;intro v2 m2 hA2;rw[Cq]at hA2;refine G.quo ((c+lb.getD k 0:Nat):Int) 1000000000 (((c+lb.getD k 0)/1000000000:Nat):Int) kV oV oV oV oV ?_;refine G.i k ?_;refine G.b (hJ (k+1,ys++[(c+lb.getD k 0)%1000000000],(c+lb.getD k 0)/1000000000,v2) _ _ _ cV (hle.trans l1) ⟨⟨oV,dV⟩,hA2,?_⟩ (by show max la.length lb.length+2-(k+1)<max la.length lb.length+2-k;omega));have:=hst.step lla llb (x:=la.getD k 0) (y:=lb.getD k 0) rfl rfl;rw[show la.getD k 0+lb.getD k 0+c=c+lb.getD k 0 by omega]at this;exact this
  ·have hzb:=H2 hkb;by_cases hc0:0<c
   ·refine G.lF (k:Int) (la.length:Int) ?_;refine G.lF (k:Int) (lb.length:Int) ?_;refine G.gT (c:Int) 0 ?_;refine G.lF (k:Int) (la.length:Int) ?_;refine G.lF (k:Int) (lb.length:Int) ?_;refine G.rem ((c:Nat):Int) 1000000000 (((c)%1000000000:Nat):Int) kV oV oV oV oV ?_;refine G.B 3 1 8 (.int .i64 0) [.int .i64 (((c)%1000000000:Nat):Int)] (Az [(c)%1000000000]) ?_;intro g u1 l1 e1;refine G.append 3 1 8 (.int .i64 0) PH.mt (Ah ys) [.int .i64 (((c)%1000000000:Nat):Int)] vo g 0 1 1 kV rfl rfl oV hA e1 (Az [(c)%1000000000]) rfl oV (by rw[Ag,hst.len];omega) (by rw[Ag,hst.len];omega) ?_;intro v2 m2 hA2;rw[Cq]at hA2;refine G.quo ((c:Nat):Int) 1000000000 (((c)/1000000000:Nat):Int) kV oV oV oV oV ?_;refine G.i k ?_;refine G.b (hJ (k+1,ys++[(c)%1000000000],(c)/1000000000,v2) _ _ _ cV (hle.trans l1) ⟨⟨oV,dV⟩,hA2,?_⟩ (by show max la.length lb.length+2-(k+1)<max la.length lb.length+2-k;omega));have:=hst.step lla llb (x:=la.getD k 0) (y:=lb.getD k 0) rfl rfl;rw[show la.getD k 0+lb.getD k 0+c=c by omega]at this;exact this
   ·refine G.lF (k:Int) (la.length:Int) ?_;refine G.lF (k:Int) (lb.length:Int) ?_;refine G.gF (c:Int) 0 ?_;refine G.give PH.mt (Ah ys) vo kV hA (fun _=>.inl rfl) ?_;intro u1 l1 hL;refine G.r vo ⟨rfl,ys,hL,hst.low,hst.over lla llb hka hkb oV,?_⟩;rw[hst.len];omega
end
section
variable {la ys:List Nat}
def Hc (l:List Nat):List Int:=l.map fun (n:Nat)=>(n:Int)
def Zl (la ys:List Nat)(c:Nat):List Int:=Hc ys++(match la.drop ys.length with|[]=>[]|x::r=>((x:Int)-c)::Hc r)
theorem Ajc (la:List Nat):Zl la [] 0=Hc la:=by
 unfold Zl;cases la<;>simp[Hc]
theorem Rv (c:Nat)(h:ys.length<la.length):Zl la ys c=Hc ys++((la.getD ys.length 0:Nat)-(c:Int))::Hc (la.drop (ys.length+1)):=by
 unfold Zl;rw[B5 la ys.length h]
theorem Mf (c:Nat)(h:ys.length<=la.length):(Zl la ys c).length=la.length:=by
 rcases At8 ys.length la.length with h1|h1
 ·rw[Rv c h1];simp[Hc];omega
 ·unfold Zl;rw[Aue h1];simp[Hc];omega
theorem Apu (c:Nat)(h:ys.length<la.length):(Zl la ys c)[ys.length]?=some ((la.getD ys.length 0:Nat)-(c:Int)):=by
 rw[Rv c h,At1 (by simp[Hc])];simp[Hc]
theorem Ako (c:Nat)(d:Int)(h:ys.length<la.length):(Zl la ys c).set ys.length d=Hc ys++d::Hc (la.drop (ys.length+1)):=by
 rw[Rv c h,List.set_append_right _ _ (by simp[Hc])];simp[Hc]
theorem R3 (c n:Nat)(h:ys.length<la.length):(Zl la ys c).set ys.length (n:Int)=Zl la (ys++[n]) 0:=by
 rw[Ako c _ h];unfold Zl;simp only[Atg,Aux];cases la.drop (ys.length+1)<;>simp[Hc]
theorem Abh (c n:Nat)(h:ys.length+1<la.length):((Zl la ys c).set ys.length (n:Int)).set (ys.length+1) ((la.getD (ys.length+1) 0:Nat)-1)=Zl la (ys++[n]) 1:=by
 rw[R3 c n oV];have h1:(ys++[n]).length<la.length:=by simpa using h
 have:=Ako (la:=la) (ys:=ys++[n]) 0 ((la.getD (ys.length+1) 0:Nat)-1) h1;rw[Atg,Aux]at this;rw[this,Rv 1 h1];simp
theorem Af4 (c n:Nat)(h:ys.length+1<la.length):((Zl la ys c).set ys.length (n:Int))[ys.length+1]?=some ((la.getD (ys.length+1) 0:Nat):Int):=by
 rw[R3 c n oV];have:=Apu (la:=la) (ys:=ys++[n]) 0 (by simpa using h);rw[Atg,Aux]at this;simpa using this
theorem Aon (c:Nat)(h:ys.length=la.length):Zl la ys c=Hc ys:=by
 unfold Zl;rw[Aue oV];simp
theorem Ke.last {a b ys:List Nat}{c:Nat}(h:Ke a b a.length ys c)(hb:b.length<=a.length)(hle:val b<=val a):c=0:=by
 have hs:=h.sum;rw[Atp (Atb _),Atp hb]at hs;have h1:=I8 h.low;rw[h.len]at h1;rcases At5 c with h0|h0
 ·exact h0
 ·have:1000000000^a.length*1<=1000000000^a.length*c:=Nat.mul_le_mul_left _ h0;omega
theorem elZ {l:List Int}{j:Nat}{d:Int}(h:l[j]?=some d):(Ei l)[j]?=some (.int .i64 d):=by simp[Ei,h]
theorem J8 {u:PH}{va vb:Value}{la lb:List Nat}(ha:Cb u va la)(hb:Cb u vb lb)(lla:Low la)(llb:Low lb)(sa:la.length<=1000000000000)(hlen:lb.length<=la.length)(hval:val lb<=val la) :
 Fn0 prog 133 [va,vb] u fun v u'=>∃ l,Cb u' v l/\Low l/\val l=val la-val lb/\l.length=la.length:=by
 obtain⟨a,ca,rfl,hca⟩:=ha.opn;obtain⟨b,cb,rfl,hcb⟩:=hb.opn;refine Fn0.o func133 ?_;rcases At5 la.length with h0|h0
 ·have e1:la = []:=Auo h0;have e2:lb = []:=Auo oV;subst e1 e2;refine G.appendNil 3 1 8 (.int .i64 0) a ca kV ?_;refine G.l (ι:=Unit) (fun _=>[(5,sV none 0 0),(6,iV 0)]) (fun _=>[]) (fun _ _ m'=>m'=PH.mt) (fun _=>0) () rfl ?_;rintro J _ hJ u' m' hle rfl;refine G.lF 0 ((0:Nat):Int) ?_;exact G.r (.slice none 0 0) ⟨rfl,[],Ad.nil _ _ _ _,Low.nil,by simp[val],rfl⟩
 ·obtain⟨ba,oa,rfl,_⟩:=ha.at (j:=0) h0;refine G.append 3 1 8 (.int .i64 0) PH.mt [] (Ah la) (.slice none 0 0) ba oa la.length ca kV rfl rfl oV (Ae.nil _ _ _) ha.els (Az la) (Ag la) h0 gV gV ?_;intro vo m1 hA;rw[Ava,<-Qx]at hA;obtain⟨bo,co,rfl⟩:=hA.ptr (by intro e;have:=congrArg List.length e;rw[B3,Ata,Av1]at this;omega);have hA0:Ae PH.mt m1 (.slice (some ⟨bo,0,none⟩) la.length co) 3 1 (Ei (Zl la [] 0)):=by
   have:=hA;rw[B3,Ata]at this;rw[Ajc];exact this
  rw[B3,Ata];refine G.l (ι:=Nat×List Nat×Nat) (fun i=>[(1,sV b lb.length cb),(5,sV (some ⟨bo,0,none⟩) la.length co),(6,iV i.1)]) (fun _=>[])
   (fun i _ m'=>i.1<=la.length/\Ke la lb i.1 i.2.1 i.2.2/\Ae PH.mt m' (.slice (some ⟨bo,0,none⟩) la.length co) 3 1 (Ei (Zl la i.2.1 i.2.2))) (fun i=>la.length-i.1) (0,[],0)
   ⟨mV,Ke.start _ _,hA0⟩ ?_
  clear hA hA0 m1;rintro J ⟨k,ys,c⟩ hJ u' m' hle ⟨hk,hst,hA⟩;simp only at hk hst hA hJ;have hc1:=hst.carry;have hyl:=hst.len;have hal:=lla.getD k;have hbl:=llb.getD k;by_cases hlt:k<la.length
  ·refine G.lT (k:Int) (la.length:Int) ?_;have hky:ys.length<la.length:=oV
   have hat:=Apu (la:=la) (ys:=ys) c hky;rw[hyl]at hat;by_cases hkb:k<lb.length
   ·obtain⟨bb,ob,rfl,eb⟩:=(hb.mono hle).at (j:=k) hkb;refine G.lT (k:Int) (lb.length:Int) ?_;refine G.a bo 0 la.length co k 1 hlt ?_;refine G.lM none bo (0+k*1) (.int .i64 ((la.getD k 0:Nat)-(c:Int))) (hA.el (elZ hat)) ?_;refine G.a bb ob lb.length cb k 1 hkb ?_;refine G.lU none bb (ob+k*1) (.int .i64 (lb.getD k 0:Nat)) eb ?_;obtain⟨d,hd⟩:∃ d:Int,d=(la.getD k 0:Nat)-(c:Int)-(lb.getD k 0:Nat):=⟨_,rfl⟩;refine G.s ((la.getD k 0:Nat)-(c:Int)) (lb.getD k 0:Nat) d ?_;refine G.a bo 0 la.length co k 1 hlt ?_;refine G.storeA 1 PH.mt _ bo la.length co k (.int .i64 d) kV hA (by rw[B3,Mf c oV];exact hlt) rfl rfl ?_;intro m2 hA2;rw[Ju]at hA2;have hd2:((Zl la ys c).set k d)[k]?=some d:=by rw[Awv (by rw[Mf c oV];exact hlt)]
    refine G.a bo 0 la.length co k 1 hlt ?_;refine G.lM none bo (0+k*1) (.int .i64 d) (hA2.el (elZ hd2)) ?_;by_cases hneg:d<0
    ·refine G.lT' d 0 hneg ?_;have hstep:=hst.step lla llb (x:=la.getD k 0) (y:=lb.getD k 0) rfl rfl;obtain⟨n,hn⟩:∃ n:Nat,n=(la.getD k 0+1000000000-lb.getD k 0-c)%1000000000:=⟨_,rfl⟩;have hc':1-(la.getD k 0+1000000000-lb.getD k 0-c)/1000000000=1:=oV
     rw[<-hn,hc']at hstep;have hk1:k+1<la.length:=by
      rcases At8 (k+1) la.length with h|h
      ·exact h
      ·have:k+1=la.length:=oV
       rw[this]at hstep;have:=hstep.last hlen hval;omega
     refine G.a bo 0 la.length co k 1 hlt ?_;refine G.lM none bo (0+k*1) (.int .i64 d) (hA2.el (elZ hd2)) ?_;refine G.p d 1000000000 (n:Int) ?_;refine G.a bo 0 la.length co k 1 hlt ?_;refine G.storeA 1 PH.mt _ bo la.length co k (.int .i64 (n:Int)) kV hA2 (by rw[B3,Avx,Mf c oV];exact hlt) rfl rfl ?_;intro m3 hA3;rw[Ju,A00]at hA3;refine G.i k ?_;have hg1:=Af4 (la:=la) (ys:=ys) c n oV;rw[hyl]at hg1;have hal1:=lla.getD (k+1);refine G.a bo 0 la.length co (k+1) 1 hk1 ?_;refine G.lM none bo (0+(k+1)*1) (.int .i64 ((la.getD (k+1) 0:Nat):Int)) (hA3.el (elZ hg1)) ?_;refine G.sub ((la.getD (k+1) 0:Nat):Int) 1 ((la.getD (k+1) 0:Nat)-1) kV rfl oV oV ?_;refine G.a bo 0 la.length co (k+1) 1 hk1 ?_;refine G.storeA 1 PH.mt _ bo la.length co (k+1) (.int .i64 ((la.getD (k+1) 0:Nat)-1)) kV hA3 (by rw[B3,Avx,Mf c oV];exact hk1) rfl rfl ?_;intro m4 hA4;have e4:=Abh (la:=la) (ys:=ys) c n oV;rw[hyl]at e4;rw[Ju,e4]at hA4;refine G.i k ?_;exact G.b (hJ (k+1,ys++[n],1) _ _ _ cV hle ⟨oV,hstep,hA4⟩ dV)
    ·refine G.lF' d 0 hneg ?_;have hstep:=hst.step lla llb (x:=la.getD k 0) (y:=lb.getD k 0) rfl rfl;obtain⟨n,hn⟩:∃ n:Nat,n=(la.getD k 0+1000000000-lb.getD k 0-c)%1000000000:=⟨_,rfl⟩;have hc':1-(la.getD k 0+1000000000-lb.getD k 0-c)/1000000000=0:=oV
     rw[<-hn,hc']at hstep;have hdn:d=(n:Int):=oV
     have e4:=R3 (la:=la) (ys:=ys) c n oV;rw[hyl]at e4;rw[hdn,e4]at hA2;refine G.i k ?_;exact G.b (hJ (k+1,ys++[n],0) _ _ _ cV hle ⟨oV,hstep,hA2⟩ dV)
   ·have hz:=H2 hkb;refine G.lF (k:Int) (lb.length:Int) ?_;obtain⟨d,hd⟩:∃ d:Int,d=(la.getD k 0:Nat)-(c:Int)-(lb.getD k 0:Nat):=⟨_,rfl⟩;have hA2:Ae PH.mt m' (.slice (some ⟨bo,0,none⟩) la.length co) 3 1 (Ei ((Zl la ys c).set k d)):=by
     have e:(Zl la ys c).set k d=Zl la ys c:=by
      have:(la.getD k 0:Nat)-(c:Int)=d:=oV
      rw[this]at hat;refine List.ext_getElem? fun j=>?_;by_cases hj:k=j
      ·subst hj;rw[Awv (by rw[Mf c oV];exact hlt),hat]
      ·rw[List.getElem?_set_ne hj]
     rw[e];exact hA
    have hd2:((Zl la ys c).set k d)[k]?=some d:=by rw[Awv (by rw[Mf c oV];exact hlt)]
    refine G.a bo 0 la.length co k 1 hlt ?_;refine G.lM none bo (0+k*1) (.int .i64 d) (hA2.el (elZ hd2)) ?_;by_cases hneg:d<0
    ·refine G.lT' d 0 hneg ?_;have hstep:=hst.step lla llb (x:=la.getD k 0) (y:=lb.getD k 0) rfl rfl;obtain⟨n,hn⟩:∃ n:Nat,n=(la.getD k 0+1000000000-lb.getD k 0-c)%1000000000:=⟨_,rfl⟩;have hc':1-(la.getD k 0+1000000000-lb.getD k 0-c)/1000000000=1:=oV
     rw[<-hn,hc']at hstep;have hk1:k+1<la.length:=by
      rcases At8 (k+1) la.length with h|h
      ·exact h
      ·have:k+1=la.length:=oV
       rw[this]at hstep;have:=hstep.last hlen hval;omega
     refine G.a bo 0 la.length co k 1 hlt ?_;refine G.lM none bo (0+k*1) (.int .i64 d) (hA2.el (elZ hd2)) ?_;refine G.p d 1000000000 (n:Int) ?_;refine G.a bo 0 la.length co k 1 hlt ?_;refine G.storeA 1 PH.mt _ bo la.length co k (.int .i64 (n:Int)) kV hA2 (by rw[B3,Avx,Mf c oV];exact hlt) rfl rfl ?_;intro m3 hA3;rw[Ju,A00]at hA3;refine G.i k ?_;have hg1:=Af4 (la:=la) (ys:=ys) c n oV;rw[hyl]at hg1;have hal1:=lla.getD (k+1);refine G.a bo 0 la.length co (k+1) 1 hk1 ?_;refine G.lM none bo (0+(k+1)*1) (.int .i64 ((la.getD (k+1) 0:Nat):Int)) (hA3.el (elZ hg1)) ?_;refine G.sub ((la.getD (k+1) 0:Nat):Int) 1 ((la.getD (k+1) 0:Nat)-1) kV rfl oV oV ?_;refine G.a bo 0 la.length co (k+1) 1 hk1 ?_;refine G.storeA 1 PH.mt _ bo la.length co (k+1) (.int .i64 ((la.getD (k+1) 0:Nat)-1)) kV hA3 (by rw[B3,Avx,Mf c oV];exact hk1) rfl rfl ?_;intro m4 hA4;have e4:=Abh (la:=la) (ys:=ys) c n oV;rw[hyl]at e4;rw[Ju,e4]at hA4;refine G.i k ?_;exact G.b (hJ (k+1,ys++[n],1) _ _ _ cV hle ⟨oV,hstep,hA4⟩ dV)
    ·refine G.lF' d 0 hneg ?_;have hstep:=hst.step lla llb (x:=la.getD k 0) (y:=lb.getD k 0) rfl rfl;obtain⟨n,hn⟩:∃ n:Nat,n=(la.getD k 0+1000000000-lb.getD k 0-c)%1000000000:=⟨_,rfl⟩;have hc':1-(la.getD k 0+1000000000-lb.getD k 0-c)/1000000000=0:=oV
     rw[<-hn,hc']at hstep;have hdn:d=(n:Int):=oV
     have e4:=R3 (la:=la) (ys:=ys) c n oV;rw[hyl]at e4;rw[hdn,e4]at hA2;refine G.i k ?_;exact G.b (hJ (k+1,ys++[n],0) _ _ _ cV hle ⟨oV,hstep,hA2⟩ dV)
  ·obtain rfl:k=la.length:=oV
   refine G.lF (la.length:Int) (la.length:Int) ?_;have hc0:=hst.last hlen hval;rw[Aon c hyl,show Ei (Hc ys)=Ah ys from Qx ys]at hA;refine G.give PH.mt (Ah ys) _ kV hA (fun _=>.inl rfl) ?_;intro u1 l1 hL;exact G.r (.slice (some ⟨bo,0,none⟩) la.length co) ⟨rfl,ys,hL,hst.low,hst.done hlen hval,hyl⟩
end
end Go.Proofs.YtnafchoihfnkeaaGreatDoor
